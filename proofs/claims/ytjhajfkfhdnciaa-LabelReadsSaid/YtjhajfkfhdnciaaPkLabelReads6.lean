/- LabelReads: texts merged, part 6 of 7. The last part proves that the law LabelReads holds for every input. -/
import Derived.Test.YtjhajfkfhdnciaaPkLabelReads5
import Derived.ProofKit
import Derived.OpenShut
import Derived.ChangeOld
import Derived.Below
import Derived.SizedLaws
import Derived.WalkKit
/- rickyard/rickyardref11.Get: its model, and that the Go function computes it: written by gen.py. -/
set_option linter.unusedVariables false
namespace Go.Proofs.Ytjhajfkfhdnciaa
open Go Go.Xw
def rickyardref11_Get.s0 (fu : Nat) (t7 : Int × Int × (List UInt8) × Bool) : (Int × S_api_Queue) → Option (Sum S_api_Queue (Int × S_api_Queue)) := fun s36 => (if (decide (s36.1 < 12)) = true then (if (0 : Int) ≤ (IntKind.i64.wrap (4 + (IntKind.i64.wrap (2 * s36.1)))) ∧ (IntKind.i64.wrap (4 + (IntKind.i64.wrap (2 * s36.1)))) ≤ (IntKind.i64.wrap (6 + (IntKind.i64.wrap (2 * s36.1)))) ∧ (IntKind.i64.wrap (6 + (IntKind.i64.wrap (2 * s36.1)))) ≤ (List.length t7.2.2.1 : Int) then ((rickyardref01_Int.f fu (cut t7.2.2.1 (IntKind.i64.wrap (4 + (IntKind.i64.wrap (2 * s36.1)))) (IntKind.i64.wrap (6 + (IntKind.i64.wrap (2 * s36.1))))) : Option Int).bind fun t45 => (if 0 ≤ s36.1 ∧ s36.1 < 12 then some (Sum.inr ((IntKind.i64.wrap (s36.1 + 1)), (⟨s36.2.Name, s36.2.Count, (Arr.set s36.2.Roots s36.1 t45)⟩ : S_api_Queue))) else none)) else none) else some (Sum.inl (s36.2)))
def rickyardref11_Get.f (fu : Nat) (a0 : List Int) : Option (S_api_Queue × Bool) := ((rickyardref07_Open.f fu a0 : Option (Int × Int × (List UInt8) × Bool)).bind fun t7 => (if (if (!t7.2.2.2) = true then true else (if (!decide (t7.1 = 5)) = true then true else (decide (t7.2.1 > 28)))) = true then some ((⟨[], (0 : Int), (Arr.rep 12 (0 : Int))⟩ : S_api_Queue), false) else (if (4 : Int) ≤ (List.length t7.2.2.1 : Int) then ((rickyardref01_Int.f fu (cut t7.2.2.1 0 4) : Option Int).bind fun t18 => (if (0 : Int) ≤ 28 ∧ 28 ≤ (IntKind.i64.wrap (28 + t7.2.1)) ∧ (IntKind.i64.wrap (28 + t7.2.1)) ≤ (List.length t7.2.2.1 : Int) then ((loopM (rickyardref11_Get.s0 fu t7) fu (0, (⟨(cut t7.2.2.1 28 (IntKind.i64.wrap (28 + t7.2.1))), t18, (Arr.rep 12 (0 : Int))⟩ : S_api_Queue))).bind fun e37 => ((((rickyardref11_Right.f fu e37 : Option Bool).bind fun t56 => (if (!t56) = true then some (true) else ((rickyardref11_Put.f fu e37 : Option (List UInt8)).bind fun t63 => some ((!decide (t63 = (List.map toB a0))))))) : Option Bool).bind fun x54 => (if x54 = true then some ((⟨[], (0 : Int), (Arr.rep 12 (0 : Int))⟩ : S_api_Queue), false) else some (e37, true)))) else none)) else none)))
set_option maxRecDepth 100000 in
set_option maxHeartbeats 400000 in
theorem rickyardref11_Get.ok (fu : Nat) (w : World) (a0 : List Int) (V0_0 : Value) (R0_0 : Rd (kI .u8) w V0_0 a0) (r : S_api_Queue × Bool) (h : rickyardref11_Get.f fu a0 = some r) :
    Calls Try.prog 84 (([V0_0] : List Value).toArray) w (fun e w' => ∃ v, e = .returned v ∧ v = .tuple #[aggV [Seg.cell (sv r.1.Name), Seg.cell (.int .i64 r.1.Count), Kd.seg (kA 12 (kI .i64)) r.1.Roots], .bool r.2] ∧ Gr w w') := by
  unfold rickyardref11_Get.f at h
  have fB : Gr w w := Fr.refl _ _
  refine calls_cw Try.func84 rfl Try.ntmps84 rfl ?_
  refine cw_seq ?_
  refine cw_region ?_
  refine ol_op (by exact opv_alloc (ss := [Seg.cell (sv []), Seg.cell (.int .i64 (0 : Int)), Kd.seg (kA 12 (kI .i64)) (Arr.rep 12 (0 : Int))]) rfl ze98 rfl) rfl rfl rfl ?_
  rintro _ w6 ⟨G1, rfl, b2, q3, z4⟩
  have z4 := Nat.le_trans fB.size z4
  have fB := fB.gr q3
  refine ol_val (v := .bool false) (by exact xr_assign rfl rfl) rfl rfl rfl ?_
  refine ol_nil ?_
  refine cw_seq ?_
  refine cw_region ?_
  refine ol_val (v := V0_0) (by exact xr_move rfl rfl) rfl rfl rfl ?_
  obtain ⟨t7, k8, h⟩ := bs h
  refine ol_op (by exact opv_call rfl cal32 (ac rfl an) (rickyardref07_Open.ok fu _ a0 V0_0 (R0_0.gr fB) _ k8)) rfl rfl rfl ?_
  rintro _ w10 ⟨rfl, q9⟩
  have b2 := b2.gr q9
  have fB := fB.gr q9
  refine ol_val (v := .tuple #[.int .i64 t7.1, .int .i64 t7.2.1, sv t7.2.2.1, .bool t7.2.2.2]) (by exact xr_move rfl rfl) rfl rfl rfl ?_
  refine ol_val (v := .int .i64 t7.1) (by exact xr_extract rfl rfl rfl) rfl rfl rfl ?_
  refine ol_val (v := .int .i64 t7.2.1) (by exact xr_extract rfl rfl rfl) rfl rfl rfl ?_
  refine ol_val (v := sv t7.2.2.1) (by exact xr_extract rfl rfl rfl) rfl rfl rfl ?_
  refine ol_val (v := .bool t7.2.2.2) (by exact xr_extract rfl rfl rfl) rfl rfl rfl ?_
  refine ol_val (v := .int .i64 t7.1) (by exact xr_assign rfl rfl) rfl rfl rfl ?_
  refine ol_val (v := .int .i64 t7.2.1) (by exact xr_assign rfl rfl) rfl rfl rfl ?_
  refine ol_val (v := sv t7.2.2.1) (by exact xr_assign rfl rfl) rfl rfl rfl ?_
  refine ol_val (v := .bool t7.2.2.2) (by exact xr_assign rfl rfl) rfl rfl rfl ?_
  refine ol_nil ?_
  refine cw_seq ?_
  refine cw_seq ?_
  refine cw_mid (fun ρ' w' => ρ' 0 = V0_0 ∧ ρ' 2 = .pointer (some ⟨G1, 0, none⟩) ∧ ρ' 5 = .int .i64 t7.2.1 ∧ ρ' 6 = sv t7.2.2.1 ∧ ρ' 26 = .bool (if (!t7.2.2.2) = true then true else (if (!decide (t7.1 = 5)) = true then true else (decide (t7.2.1 > 28)))) ∧ w10 = w') ?_ ?_
  · skip
    refine cw_region ?_
    refine ol_val (v := .bool t7.2.2.2) (by exact xr_move rfl rfl) rfl rfl rfl ?_
    refine ol_val (v := .bool (!t7.2.2.2)) (by exact xr_not rfl rfl) rfl rfl rfl ?_
    refine ol_val (v := .bool (!t7.2.2.2)) (by exact xr_move rfl rfl) rfl rfl rfl ?_
    rcases bt (!t7.2.2.2) with c11 | c11
    · skip
      refine ol_gskip rfl rfl rfl rfl rfl c11 ?_
      refine ol_gskip rfl rfl rfl rfl rfl c11 ?_
      refine ol_val (v := .bool true) (by exact xr_pickT rfl rfl c11 rfl) rfl rfl rfl ?_
      refine ol_val (v := .bool true) (by exact xr_move rfl rfl) rfl rfl rfl ?_
      refine ol_gskip rfl rfl rfl rfl rfl rfl ?_
      refine ol_gskip rfl rfl rfl rfl rfl rfl ?_
      refine ol_val (v := .bool true) (by exact xr_pickT rfl rfl rfl rfl) rfl rfl rfl ?_
      refine ol_nil ?_
      refine thn_i ?_
      exact ⟨rfl, rfl, rfl, rfl, (rfl).trans (congrArg (fun z => (.bool z : Value)) (show true = (if (!t7.2.2.2) = true then true else (if (!decide (t7.1 = 5)) = true then true else (decide (t7.2.1 > 28)))) from by rw [ite_t c11])), rfl⟩
    · skip
      refine ol_gval (v := .int .i64 t7.1) (by exact xr_move rfl rfl) rfl rfl rfl rfl rfl c11 ?_
      refine ol_gval (v := .bool (!decide (t7.1 = 5))) (by exact xr_neI rfl Try.underlying3 rfl rfl rfl) rfl rfl rfl rfl rfl c11 ?_
      refine ol_val (v := .bool (!decide (t7.1 = 5))) (by exact xr_pickF rfl rfl c11 rfl) rfl rfl rfl ?_
      refine ol_val (v := .bool (!decide (t7.1 = 5))) (by exact xr_move rfl rfl) rfl rfl rfl ?_
      rcases bt (!decide (t7.1 = 5)) with c12 | c12
      · skip
        refine ol_gskip rfl rfl rfl rfl rfl c12 ?_
        refine ol_gskip rfl rfl rfl rfl rfl c12 ?_
        refine ol_val (v := .bool true) (by exact xr_pickT rfl rfl c12 rfl) rfl rfl rfl ?_
        refine ol_nil ?_
        refine thn_i ?_
        exact ⟨rfl, rfl, rfl, rfl, (rfl).trans (congrArg (fun z => (.bool z : Value)) (show true = (if (!t7.2.2.2) = true then true else (if (!decide (t7.1 = 5)) = true then true else (decide (t7.2.1 > 28)))) from by rw [ite_f c11, ite_t c12])), rfl⟩
      · skip
        refine ol_gval (v := .int .i64 t7.2.1) (by exact xr_move rfl rfl) rfl rfl rfl rfl rfl c12 ?_
        refine ol_gval (v := .bool (decide (t7.2.1 > 28))) (by exact xr_gtr rfl rfl rfl) rfl rfl rfl rfl rfl c12 ?_
        refine ol_val (v := .bool (decide (t7.2.1 > 28))) (by exact xr_pickF rfl rfl c12 rfl) rfl rfl rfl ?_
        refine ol_nil ?_
        refine thn_i ?_
        exact ⟨rfl, rfl, rfl, rfl, (rfl).trans (congrArg (fun z => (.bool z : Value)) (show (decide (t7.2.1 > 28)) = (if (!t7.2.2.2) = true then true else (if (!decide (t7.1 = 5)) = true then true else (decide (t7.2.1 > 28)))) from by rw [ite_f c11, ite_f c12])), rfl⟩
  · skip
    rintro ρ13 _ ⟨e0, e2, e5, e6, e26, rfl⟩
    rcases is h with ⟨c14, h⟩ | ⟨c14, h⟩
    · refine cw_condT e26 c14 ?_
      refine cw_seq ?_
      refine cw_region ?_
      refine ol_val (v := aggV [Seg.cell (sv []), Seg.cell (.int .i64 (0 : Int)), Kd.seg (kA 12 (kI .i64)) (Arr.rep 12 (0 : Int))]) (by exact xr_build (vals := []) rfl trivial (bl98_ _)) rfl rfl rfl ?_
      refine ol_op0 (by exact opv_store (ss' := [Seg.cell (sv []), Seg.cell (.int .i64 (0 : Int)), Kd.seg (kA 12 (kI .i64)) (Arr.rep 12 (0 : Int))]) (xs := cellsOf [Seg.cell (sv []), Seg.cell (.int .i64 (0 : Int)), Kd.seg (kA 12 (kI .i64)) (Arr.rep 12 (0 : Int))]) rfl sz98 e2 rfl rfl (len_cellsOf _) (one_cellsOf _) b2 (Spl.segs _ 0 3 [Seg.cell (sv []), Seg.cell (.int .i64 (0 : Int)), Kd.seg (kA 12 (kI .i64)) (Arr.rep 12 (0 : Int))] rfl rfl)) rfl rfl ?_
      rintro _ w16 ⟨b2, q15⟩
      have fB := fB.wr q15 z4
      refine ol_val (v := .bool false) (by exact xr_assign rfl rfl) rfl rfl rfl ?_
      refine ol_nil ?_
      refine cw_ret ?_
      repeat (first | with_reducible refine thn_r ?_ | with_reducible refine blk_r ?_)
      obtain rfl := Option.some.inj h
      refine fin_cell_tmp Try.results84 e2 ag98 sz98 b2 (by rfl) rfl ?_
      exact ⟨_, rfl, rfl, fB⟩
    · refine cw_condF e26 c14 ?_
      refine cw_skip ?_
      refine cw_seq ?_
      obtain ⟨g17, h⟩ := gs h
      obtain ⟨t18, k19, h⟩ := bs h
      obtain ⟨g21, h⟩ := gs h
      refine cw_drawL 9 [fun vz wz => vz = (sv t7.2.2.1 : Value), fun vz wz => vz = (sv (cut t7.2.2.1 0 4) : Value), fun vz wz => vz = (.int .i64 t18 : Value), fun vz wz => vz = (sv t7.2.2.1 : Value), fun vz wz => vz = (.int .i64 t7.2.1 : Value), fun vz wz => vz = (.int .i64 (IntKind.i64.wrap (28 + t7.2.1)) : Value), fun vz wz => vz = (sv (cut t7.2.2.1 28 (IntKind.i64.wrap (28 + t7.2.1))) : Value), fun vz wz => vz = (aggV [Seg.cell (sv (cut t7.2.2.1 28 (IntKind.i64.wrap (28 + t7.2.1)))), Seg.cell (.int .i64 t18), Kd.seg (kA 12 (kI .i64)) (Arr.rep 12 (0 : Int))] : Value), fun vz wz => ∃ G22 : Nat, ∃ b23 : Blk wz G22 98 [Seg.cell (sv []), Seg.cell (.int .i64 (0 : Int)), Kd.seg (kA 12 (kI .i64)) (Arr.rep 12 (0 : Int))], ∃ z25 : w10.heap.size ≤ G22, vz = (.pointer (some ⟨G22, 0, none⟩) : Value)] mo rfl ⟨fun _ _ _ h _ => h, fun _ _ _ h _ => h, fun _ _ _ h _ => h, fun _ _ _ h _ => h, fun _ _ _ h _ => h, fun _ _ _ h _ => h, fun _ _ _ h _ => h, fun _ _ _ h _ => h, fun _ _ _ ⟨G22, b23, z25, h⟩ q => ⟨G22, b23.gr q, z25, h⟩, trivial⟩ ?_ ?_
      · refine ⟨?_, ?_, ?_, ?_, ?_, ?_, ?_, ?_, ?_, trivial⟩
        · intro ρz wz hz hk hd
          exact sk_val (v := sv t7.2.2.1) (by exact xr_move rfl ((hk 6 rfl).trans e6)) rfl rfl
        · intro ρz wz hz hk hd
          have d28 := hd 0 rfl 28 rfl
          exact sk_val (v := sv (cut t7.2.2.1 0 4)) (by exact xr_str_h rfl Try.underlying9 d28 rfl (by decide) g17) rfl rfl
        · intro ρz wz hz hk hd
          have d29 := hd 1 rfl 29 rfl
          refine sk_op (by exact opv_call rfl cal103 (ac d29 an) (rickyardref01_Int.ok fu _ (cut t7.2.2.1 0 4) _ k19)) rfl ?_
          rintro _ wy ⟨rfl, q20⟩
          exact ⟨rfl, q20⟩
        · intro ρz wz hz hk hd
          exact sk_val (v := sv t7.2.2.1) (by exact xr_move rfl ((hk 6 rfl).trans e6)) rfl rfl
        · intro ρz wz hz hk hd
          exact sk_val (v := .int .i64 t7.2.1) (by exact xr_move rfl ((hk 5 rfl).trans e5)) rfl rfl
        · intro ρz wz hz hk hd
          have d32 := hd 4 rfl 32 rfl
          exact sk_val (v := .int .i64 (IntKind.i64.wrap (28 + t7.2.1))) (by exact xr_add rfl rfl d32) rfl rfl
        · intro ρz wz hz hk hd
          have d31 := hd 3 rfl 31 rfl
          have d33 := hd 5 rfl 33 rfl
          exact sk_val (v := sv (cut t7.2.2.1 28 (IntKind.i64.wrap (28 + t7.2.1)))) (by exact xr_str_lh rfl Try.underlying9 d31 rfl d33 g21.1 g21.2.1 g21.2.2) rfl rfl
        · intro ρz wz hz hk hd
          have d30 := hd 2 rfl 30 rfl
          have d34 := hd 6 rfl 34 rfl
          exact sk_val (by exact xr_build (vals := [(1, .int .i64 t18), (0, sv (cut t7.2.2.1 28 (IntKind.i64.wrap (28 + t7.2.1))))]) rfl ⟨rfl, d30, ⟨rfl, d34, trivial⟩⟩ (bl98_1_0 t18 (cut t7.2.2.1 28 (IntKind.i64.wrap (28 + t7.2.1))) _)) rfl rfl
        · intro ρz wz hz hk hd
          refine sk_op (by exact opv_alloc (ss := [Seg.cell (sv []), Seg.cell (.int .i64 (0 : Int)), Kd.seg (kA 12 (kI .i64)) (Arr.rep 12 (0 : Int))]) rfl ze98 rfl) rfl ?_
          rintro _ wy ⟨G22, rfl, b23, q24, z25⟩
          exact ⟨⟨G22, b23, Nat.le_trans hz.size z25, rfl⟩, q24⟩
      · intro ρ27 w28 q29 hk hd
        have e0 := (hk 0 rfl).trans e0
        have e2 := (hk 2 rfl).trans e2
        have e6 := (hk 6 rfl).trans e6
        obtain ⟨G30, b31, z32, e8⟩ := hd 8 rfl 8 rfl
        have e35 := hd 7 rfl 35 rfl
        have n33 := b2.ne z32
        have z32 := Nat.le_trans fB.size z32
        have b2 := b2.gr q29
        have fB := fB.gr q29
        refine ol_op0 (by exact opv_store (ss' := [Seg.cell (sv (cut t7.2.2.1 28 (IntKind.i64.wrap (28 + t7.2.1)))), Seg.cell (.int .i64 t18), Kd.seg (kA 12 (kI .i64)) (Arr.rep 12 (0 : Int))]) (xs := cellsOf [Seg.cell (sv (cut t7.2.2.1 28 (IntKind.i64.wrap (28 + t7.2.1)))), Seg.cell (.int .i64 t18), Kd.seg (kA 12 (kI .i64)) (Arr.rep 12 (0 : Int))]) rfl sz98 e8 e35 rfl (len_cellsOf _) (one_cellsOf _) b31 (Spl.segs _ 0 3 [Seg.cell (sv (cut t7.2.2.1 28 (IntKind.i64.wrap (28 + t7.2.1)))), Seg.cell (.int .i64 t18), Kd.seg (kA 12 (kI .i64)) (Arr.rep 12 (0 : Int))] rfl rfl)) rfl rfl ?_
        rintro _ w35 ⟨b31, q34⟩
        have b2 := b2.wr q34 n33
        have fB := fB.wr q34 z32
        refine ol_nil ?_
        refine cw_seq ?_
        refine cw_seq ?_
        refine cw_region ?_
        refine ol_val (v := .int .i64 0) (by exact xr_assign rfl rfl) rfl rfl rfl ?_
        refine ol_nil ?_
        obtain ⟨e37, l38, h39⟩ := bs h
        refine cw_mid (fun ρ' w' => ρ' 0 = V0_0 ∧ ρ' 2 = .pointer (some ⟨G1, 0, none⟩) ∧ ρ' 8 = .pointer (some ⟨G30, 0, none⟩) ∧ Blk w' G1 98 [Seg.cell (sv []), Seg.cell (.int .i64 (0 : Int)), Kd.seg (kA 12 (kI .i64)) (Arr.rep 12 (0 : Int))] ∧ Blk w' G30 98 [Seg.cell (sv e37.Name), Seg.cell (.int .i64 e37.Count), Kd.seg (kA 12 (kI .i64)) e37.Roots] ∧ Gr w w') ?_ ?_
        · refine cw_block ?_
          refine cw_round (fun (s36 : Int × S_api_Queue) ρ' w' => ρ' 0 = V0_0 ∧ ρ' 2 = .pointer (some ⟨G1, 0, none⟩) ∧ ρ' 6 = sv t7.2.2.1 ∧ ρ' 8 = .pointer (some ⟨G30, 0, none⟩) ∧ ρ' 9 = .int .i64 s36.1 ∧ Blk w' G1 98 [Seg.cell (sv []), Seg.cell (.int .i64 (0 : Int)), Kd.seg (kA 12 (kI .i64)) (Arr.rep 12 (0 : Int))] ∧ Blk w' G30 98 [Seg.cell (sv s36.2.Name), Seg.cell (.int .i64 s36.2.Count), Kd.seg (kA 12 (kI .i64)) s36.2.Roots] ∧ Gr w w') l38 ?_ ?_
          · skip
            exact ⟨e0, e2, e6, e8, rfl, b2, b31, fB⟩
          · rintro s36 x42 ρ40 w41 ⟨e0, e2, e6, e8, e9, b2, b31, fB⟩ h
            unfold rickyardref11_Get.s0 at h
            refine cw_seq ?_
            refine cw_seq ?_
            refine cw_region ?_
            refine ol_val (v := .int .i64 s36.1) (by exact xr_move rfl e9) rfl rfl rfl ?_
            refine ol_val (v := .bool (decide (s36.1 < 12))) (by exact xr_lss rfl rfl rfl) rfl rfl rfl ?_
            refine ol_nil ?_
            rcases is h with ⟨c43, h⟩ | ⟨c43, h⟩
            · refine cw_condT rfl c43 ?_
              refine cw_skip ?_
              refine cw_seq ?_
              refine cw_block ?_
              refine cw_region ?_
              refine ol_val (v := .int .i64 s36.1) (by exact xr_move rfl e9) rfl rfl rfl ?_
              refine ol_val (v := sv t7.2.2.1) (by exact xr_move rfl e6) rfl rfl rfl ?_
              refine ol_val (v := .int .i64 s36.1) (by exact xr_move rfl e9) rfl rfl rfl ?_
              refine ol_val (v := .int .i64 (IntKind.i64.wrap (2 * s36.1))) (by exact xr_mul rfl rfl rfl) rfl rfl rfl ?_
              refine ol_val (v := .int .i64 (IntKind.i64.wrap (4 + (IntKind.i64.wrap (2 * s36.1))))) (by exact xr_add rfl rfl rfl) rfl rfl rfl ?_
              refine ol_val (v := .int .i64 s36.1) (by exact xr_move rfl e9) rfl rfl rfl ?_
              refine ol_val (v := .int .i64 (IntKind.i64.wrap (2 * s36.1))) (by exact xr_mul rfl rfl rfl) rfl rfl rfl ?_
              refine ol_val (v := .int .i64 (IntKind.i64.wrap (6 + (IntKind.i64.wrap (2 * s36.1))))) (by exact xr_add rfl rfl rfl) rfl rfl rfl ?_
              obtain ⟨g44, h⟩ := gs h
              refine ol_val (v := sv (cut t7.2.2.1 (IntKind.i64.wrap (4 + (IntKind.i64.wrap (2 * s36.1)))) (IntKind.i64.wrap (6 + (IntKind.i64.wrap (2 * s36.1)))))) (by exact xr_str_lh rfl Try.underlying9 rfl rfl rfl g44.1 g44.2.1 g44.2.2) rfl rfl rfl ?_
              obtain ⟨t45, k46, h⟩ := bs h
              refine ol_op (by exact opv_call rfl cal103 (ac rfl an) (rickyardref01_Int.ok fu _ (cut t7.2.2.1 (IntKind.i64.wrap (4 + (IntKind.i64.wrap (2 * s36.1)))) (IntKind.i64.wrap (6 + (IntKind.i64.wrap (2 * s36.1))))) _ k46)) rfl rfl rfl ?_
              rintro _ w48 ⟨rfl, q47⟩
              have b2 := b2.gr q47
              have b31 := b31.gr q47
              have fB := fB.gr q47
              refine ol_val (v := .pointer (some ⟨G30, 2, none⟩)) (by exact xr_fieldAddr (p := 0) (q := 2) rfl fl98_2 e8) rfl rfl rfl ?_
              obtain ⟨g49, h⟩ := gs h
              refine ol_val (v := .pointer (some ⟨G30, 2 + Int.toNat s36.1 * 1, none⟩)) (by exact xr_indexA (p := 2) (s := 1) rfl Try.underlying96 sz3 rfl rfl g49.1 g49.2) rfl rfl rfl ?_
              refine ol_op0 (by exact opv_store (ss' := [Seg.cell (sv s36.2.Name), Seg.cell (.int .i64 s36.2.Count), Kd.seg (kA 12 (kI .i64)) (Arr.set s36.2.Roots s36.1 t45)]) (xs := cellsOf [Seg.cell (.int .i64 t45)]) rfl sz3 rfl rfl rfl (len_cellsOf _) (one_cellsOf _) b31 (Spl.seg_in _ 2 (Kd.seg (kA 12 (kI .i64)) (Arr.set s36.2.Roots s36.1 t45)) rfl rfl (Spl.arr s36.2.Roots s36.1 t45 g49.1 g49.2 (Spl.whole ((Kd.len _ _).trans (Kd.len _ _).symm))))) rfl rfl ?_
              rintro _ w51 ⟨b31, q50⟩
              have b2 := b2.wr q50 n33
              have fB := fB.wr q50 z32
              refine ol_nil ?_
              refine blk_i ?_
              refine cw_region ?_
              refine ol_val (v := .int .i64 s36.1) (by exact xr_move rfl e9) rfl rfl rfl ?_
              refine ol_val (v := .int .i64 (IntKind.i64.wrap (s36.1 + 1))) (by exact xr_add rfl rfl rfl) rfl rfl rfl ?_
              refine ol_val (v := .int .i64 (IntKind.i64.wrap (s36.1 + 1))) (by exact xr_assign rfl rfl) rfl rfl rfl ?_
              refine ol_nil ?_
              obtain rfl := Option.some.inj h
              refine lp_in ?_
              exact ⟨e0, e2, e6, e8, rfl, b2, b31, fB⟩
            · refine cw_condF rfl c43 ?_
              refine cw_exit ?_
              repeat (first | with_reducible refine thn_e ?_ | with_reducible refine blk_e rfl ?_)
              obtain rfl := Option.some.inj h
              refine lp_exit ?_
              rintro rfl
              refine thn_x ?_
              exact ⟨e0, e2, e8, b2, b31, fB⟩
        · rintro ρ52 w53 ⟨e0, e2, e8, b2, b31, fB⟩
          have h := h39
          refine cw_seq ?_
          refine cw_seq ?_
          obtain ⟨x54, j55, h⟩ := bs h
          refine cw_mid (fun ρ' w' => ρ' 2 = .pointer (some ⟨G1, 0, none⟩) ∧ ρ' 8 = .pointer (some ⟨G30, 0, none⟩) ∧ ρ' 61 = .bool x54 ∧ Gr w53 w') ?_ ?_
          · skip
            obtain ⟨t56, k57, j55⟩ := bs j55
            rcases is j55 with ⟨c59, j55⟩ | ⟨c59, j55⟩
            · skip
              refine cw_drawL 9 [fun vz wz => vz = (aggV [Seg.cell (sv e37.Name), Seg.cell (.int .i64 e37.Count), Kd.seg (kA 12 (kI .i64)) e37.Roots] : Value), fun vz wz => vz = (.bool t56 : Value), fun vz wz => vz = (.bool (!t56) : Value), fun vz wz => vz = (.bool (!t56) : Value), fun vz _ => vz = undef, fun vz _ => vz = undef, fun vz _ => vz = undef, fun vz _ => vz = undef, fun vz _ => vz = undef] mo rfl ⟨fun _ _ _ h _ => h, fun _ _ _ h _ => h, fun _ _ _ h _ => h, fun _ _ _ h _ => h, fun _ _ _ h _ => h, fun _ _ _ h _ => h, fun _ _ _ h _ => h, fun _ _ _ h _ => h, fun _ _ _ h _ => h, trivial⟩ ?_ ?_
              · refine ⟨?_, ?_, ?_, ?_, ?_, ?_, ?_, ?_, ?_, trivial⟩
                · intro ρz wz hz hk hd
                  exact sk_val (by exact xr_loadS (ss := [Seg.cell (sv e37.Name), Seg.cell (.int .i64 e37.Count), Kd.seg (kA 12 (kI .i64)) e37.Roots]) rfl ag98 sz98 rfl ((hk 8 rfl).trans e8) ((b31.gr hz).segs 0 3 rfl)) rfl rfl
                · intro ρz wz hz hk hd
                  have d52 := hd 0 rfl 52 rfl
                  refine sk_op (by exact opv_call rfl cal75 (ac d52 an) (rickyardref11_Right.ok fu _ e37 _ k57)) rfl ?_
                  rintro _ wy ⟨rfl, q58⟩
                  exact ⟨rfl, q58⟩
                · intro ρz wz hz hk hd
                  have d53 := hd 1 rfl 53 rfl
                  exact sk_val (v := .bool (!t56)) (by exact xr_not rfl d53) rfl rfl
                · intro ρz wz hz hk hd
                  have d54 := hd 2 rfl 54 rfl
                  exact sk_val (v := .bool (!t56)) (by exact xr_move rfl d54) rfl rfl
                · intro ρz wz hz hk hd
                  have d55 := hd 3 rfl 55 rfl
                  exact sk_skip rfl rfl d55 c59 rfl
                · intro ρz wz hz hk hd
                  have d55 := hd 3 rfl 55 rfl
                  exact sk_skip rfl rfl d55 c59 rfl
                · intro ρz wz hz hk hd
                  have d55 := hd 3 rfl 55 rfl
                  exact sk_skip rfl rfl d55 c59 rfl
                · intro ρz wz hz hk hd
                  have d55 := hd 3 rfl 55 rfl
                  exact sk_skip rfl rfl d55 c59 rfl
                · intro ρz wz hz hk hd
                  have d55 := hd 3 rfl 55 rfl
                  exact sk_skip rfl rfl d55 c59 rfl
              · intro ρ60 w61 q62 hk hd
                have e2 := (hk 2 rfl).trans e2
                have e8 := (hk 8 rfl).trans e8
                have e55 := hd 3 rfl 55 rfl
                have b2 := b2.gr q62
                have b31 := b31.gr q62
                have fB := fB.gr q62
                refine ol_val (v := .bool true) (by exact xr_pickT rfl e55 c59 rfl) rfl rfl rfl ?_
                refine ol_nil ?_
                obtain rfl := Option.some.inj j55
                refine thn_i ?_
                exact ⟨e2, e8, rfl, q62⟩
            · skip
              obtain ⟨t63, k64, j55⟩ := bs j55
              refine cw_drawL 9 [fun vz wz => vz = (aggV [Seg.cell (sv e37.Name), Seg.cell (.int .i64 e37.Count), Kd.seg (kA 12 (kI .i64)) e37.Roots] : Value), fun vz wz => vz = (.bool t56 : Value), fun vz wz => vz = (.bool (!t56) : Value), fun vz wz => vz = (.bool (!t56) : Value), fun vz wz => vz = (aggV [Seg.cell (sv e37.Name), Seg.cell (.int .i64 e37.Count), Kd.seg (kA 12 (kI .i64)) e37.Roots] : Value), fun vz wz => vz = (sv t63 : Value), fun vz wz => vz = (V0_0 : Value), fun vz wz => vz = (sv (List.map toB a0) : Value), fun vz wz => vz = (.bool (!decide (t63 = (List.map toB a0))) : Value)] mo rfl ⟨fun _ _ _ h _ => h, fun _ _ _ h _ => h, fun _ _ _ h _ => h, fun _ _ _ h _ => h, fun _ _ _ h _ => h, fun _ _ _ h _ => h, fun _ _ _ h _ => h, fun _ _ _ h _ => h, fun _ _ _ h _ => h, trivial⟩ ?_ ?_
              · refine ⟨?_, ?_, ?_, ?_, ?_, ?_, ?_, ?_, ?_, trivial⟩
                · intro ρz wz hz hk hd
                  exact sk_val (by exact xr_loadS (ss := [Seg.cell (sv e37.Name), Seg.cell (.int .i64 e37.Count), Kd.seg (kA 12 (kI .i64)) e37.Roots]) rfl ag98 sz98 rfl ((hk 8 rfl).trans e8) ((b31.gr hz).segs 0 3 rfl)) rfl rfl
                · intro ρz wz hz hk hd
                  have d52 := hd 0 rfl 52 rfl
                  refine sk_op (by exact opv_call rfl cal75 (ac d52 an) (rickyardref11_Right.ok fu _ e37 _ k57)) rfl ?_
                  rintro _ wy ⟨rfl, q58⟩
                  exact ⟨rfl, q58⟩
                · intro ρz wz hz hk hd
                  have d53 := hd 1 rfl 53 rfl
                  exact sk_val (v := .bool (!t56)) (by exact xr_not rfl d53) rfl rfl
                · intro ρz wz hz hk hd
                  have d54 := hd 2 rfl 54 rfl
                  exact sk_val (v := .bool (!t56)) (by exact xr_move rfl d54) rfl rfl
                · intro ρz wz hz hk hd
                  have d55 := hd 3 rfl 55 rfl
                  exact sk_gval (by exact xr_loadS (ss := [Seg.cell (sv e37.Name), Seg.cell (.int .i64 e37.Count), Kd.seg (kA 12 (kI .i64)) e37.Roots]) rfl ag98 sz98 rfl ((hk 8 rfl).trans e8) ((b31.gr hz).segs 0 3 rfl)) rfl rfl d55 c59 rfl
                · intro ρz wz hz hk hd
                  have d56 := hd 4 rfl 56 rfl
                  have d55 := hd 3 rfl 55 rfl
                  refine sk_gop (by exact opv_call rfl cal78 (ac d56 an) (rickyardref11_Put.ok fu _ e37 _ k64)) rfl rfl d55 c59 ?_
                  rintro _ wy ⟨rfl, q65⟩
                  exact ⟨rfl, q65⟩
                · intro ρz wz hz hk hd
                  have d55 := hd 3 rfl 55 rfl
                  exact sk_gval (v := V0_0) (by exact xr_move rfl ((hk 0 rfl).trans e0)) rfl rfl d55 c59 rfl
                · intro ρz wz hz hk hd
                  have d58 := hd 6 rfl 58 rfl
                  have d55 := hd 3 rfl 55 rfl
                  exact sk_gval (v := sv (List.map toB a0)) (by exact xr_toStr rfl Try.underlying22 Try.underlying5 Try.underlying9 d58 (R0_0.gr (fB.gr hz))) rfl rfl d55 c59 rfl
                · intro ρz wz hz hk hd
                  have d57 := hd 5 rfl 57 rfl
                  have d59 := hd 7 rfl 59 rfl
                  have d55 := hd 3 rfl 55 rfl
                  exact sk_gval (v := .bool (!decide (t63 = (List.map toB a0)))) (by exact xr_neStr rfl Try.underlying9 d57 d59) rfl rfl d55 c59 rfl
              · intro ρ66 w67 q68 hk hd
                have e2 := (hk 2 rfl).trans e2
                have e8 := (hk 8 rfl).trans e8
                have e55 := hd 3 rfl 55 rfl
                have e60 := hd 8 rfl 60 rfl
                have b2 := b2.gr q68
                have b31 := b31.gr q68
                have fB := fB.gr q68
                refine ol_val (v := .bool (!decide (t63 = (List.map toB a0)))) (by exact xr_pickF rfl e55 c59 e60) rfl rfl rfl ?_
                refine ol_nil ?_
                obtain rfl := Option.some.inj j55
                refine thn_i ?_
                exact ⟨e2, e8, rfl, q68⟩
          · skip
            rintro ρ69 w70 ⟨e2, e8, e61, q71⟩
            have b2 := b2.gr q71
            have b31 := b31.gr q71
            have fB := fB.gr q71
            rcases is h with ⟨c72, h⟩ | ⟨c72, h⟩
            · refine cw_condT e61 c72 ?_
              refine cw_seq ?_
              refine cw_region ?_
              refine ol_val (v := aggV [Seg.cell (sv []), Seg.cell (.int .i64 (0 : Int)), Kd.seg (kA 12 (kI .i64)) (Arr.rep 12 (0 : Int))]) (by exact xr_build (vals := []) rfl trivial (bl98_ _)) rfl rfl rfl ?_
              refine ol_op0 (by exact opv_store (ss' := [Seg.cell (sv []), Seg.cell (.int .i64 (0 : Int)), Kd.seg (kA 12 (kI .i64)) (Arr.rep 12 (0 : Int))]) (xs := cellsOf [Seg.cell (sv []), Seg.cell (.int .i64 (0 : Int)), Kd.seg (kA 12 (kI .i64)) (Arr.rep 12 (0 : Int))]) rfl sz98 e2 rfl rfl (len_cellsOf _) (one_cellsOf _) b2 (Spl.segs _ 0 3 [Seg.cell (sv []), Seg.cell (.int .i64 (0 : Int)), Kd.seg (kA 12 (kI .i64)) (Arr.rep 12 (0 : Int))] rfl rfl)) rfl rfl ?_
              rintro _ w74 ⟨b2, q73⟩
              have fB := fB.wr q73 z4
              refine ol_val (v := .bool false) (by exact xr_assign rfl rfl) rfl rfl rfl ?_
              refine ol_nil ?_
              refine cw_ret ?_
              repeat (first | with_reducible refine thn_r ?_ | with_reducible refine blk_r ?_)
              obtain rfl := Option.some.inj h
              refine fin_cell_tmp Try.results84 e2 ag98 sz98 b2 (by rfl) rfl ?_
              exact ⟨_, rfl, rfl, fB⟩
            · refine cw_condF e61 c72 ?_
              refine cw_skip ?_
              refine cw_seq ?_
              refine cw_region ?_
              refine ol_val (v := aggV [Seg.cell (sv e37.Name), Seg.cell (.int .i64 e37.Count), Kd.seg (kA 12 (kI .i64)) e37.Roots]) (by exact xr_loadS (ss := [Seg.cell (sv e37.Name), Seg.cell (.int .i64 e37.Count), Kd.seg (kA 12 (kI .i64)) e37.Roots]) rfl ag98 sz98 rfl e8 (b31.segs 0 3 rfl)) rfl rfl rfl ?_
              refine ol_op0 (by exact opv_store (ss' := [Seg.cell (sv e37.Name), Seg.cell (.int .i64 e37.Count), Kd.seg (kA 12 (kI .i64)) e37.Roots]) (xs := cellsOf [Seg.cell (sv e37.Name), Seg.cell (.int .i64 e37.Count), Kd.seg (kA 12 (kI .i64)) e37.Roots]) rfl sz98 e2 rfl rfl (len_cellsOf _) (one_cellsOf _) b2 (Spl.segs _ 0 3 [Seg.cell (sv e37.Name), Seg.cell (.int .i64 e37.Count), Kd.seg (kA 12 (kI .i64)) e37.Roots] rfl rfl)) rfl rfl ?_
              rintro _ w76 ⟨b2, q75⟩
              have fB := fB.wr q75 z4
              refine ol_val (v := .bool true) (by exact xr_assign rfl rfl) rfl rfl rfl ?_
              refine ol_nil ?_
              refine cw_ret ?_
              repeat (first | with_reducible refine thn_r ?_ | with_reducible refine blk_r ?_)
              obtain rfl := Option.some.inj h
              refine fin_cell_tmp Try.results84 e2 ag98 sz98 b2 (by rfl) rfl ?_
              exact ⟨_, rfl, rfl, fB⟩
end Go.Proofs.Ytjhajfkfhdnciaa

/- rickyard/rickyardref11.Dir: its model, and that the Go function computes it: written by gen.py. -/
set_option linter.unusedVariables false
namespace Go.Proofs.Ytjhajfkfhdnciaa
open Go Go.Xw
def rickyardref11_Dir.s2 (fu : Nat) (a0 : List Int) (s4 : (List UInt8) × Int) : Int → Option (Sum (Sum (Sum (Sum ((List UInt8) × Bool) (List UInt8)) ((List UInt8) × Int)) Unit) Int) := fun s19 => (if (decide (s19 < s4.2)) = true then (if 0 ≤ s19 ∧ s19 < (List.length a0 : Int) then (if 0 ≤ s4.2 ∧ s4.2 < (List.length a0 : Int) then (if (decide ((ix a0 s19) = (ix a0 s4.2))) = true then some (Sum.inl (Sum.inl (Sum.inl (Sum.inl ([], false))))) else some (Sum.inr ((IntKind.i64.wrap (s19 + 1))))) else none) else none) else some (Sum.inl (Sum.inr ())))
def rickyardref11_Dir.s1 (fu : Nat) (a0 : List Int) : ((List UInt8) × Int) → Option (Sum (Sum ((List UInt8) × Bool) (List UInt8)) ((List UInt8) × Int)) := fun s4 => (if (decide (s4.2 < (List.length a0 : Int))) = true then (if 0 ≤ s4.2 ∧ s4.2 < (List.length a0 : Int) then ((rickyardref08_Block.f fu (ix a0 s4.2) : Option Bool).bind fun t14 => (if (!t14) = true then some (Sum.inl (Sum.inl ([], false))) else ((loopM (rickyardref11_Dir.s2 fu a0 s4) fu (0)).bind fun e20 => match e20 with | Sum.inl p => some p | Sum.inr x23 => (if 0 ≤ s4.2 ∧ s4.2 < (List.length a0 : Int) then ((rickyardref01_Lay.f fu (IntKind.u64.wrap (ix a0 s4.2)) 2 : Option (List UInt8)).bind fun t37 => (if List.length s4.1 + List.length t37 ≤ LIM then some (Sum.inr ((s4.1 ++ t37), (IntKind.i64.wrap (s4.2 + 1)))) else none)) else none)))) else none) else some (Sum.inl (Sum.inr (s4.1))))
def rickyardref11_Dir.f (fu : Nat) (a0 : List Int) : Option ((List UInt8) × Bool) := (if (if (decide ((List.length a0 : Int) < 1)) = true then true else (decide ((List.length a0 : Int) > 16))) = true then some ([], false) else ((loopM (rickyardref11_Dir.s1 fu a0) fu ([], 0)).bind fun e5 => match e5 with | Sum.inl p => some p | Sum.inr x8 => ((rickyardref07_Seal.f fu 6 (List.length a0 : Int) x8 : Option (List UInt8)).bind fun t44 => some (t44, true))))
set_option maxRecDepth 100000 in
set_option maxHeartbeats 400000 in
theorem rickyardref11_Dir.ok (fu : Nat) (w : World) (a0 : List Int) (V0_0 : Value) (R0_0 : Rd (kI .i64) w V0_0 a0) (r : (List UInt8) × Bool) (h : rickyardref11_Dir.f fu a0 = some r) :
    Calls Try.prog 81 (([V0_0] : List Value).toArray) w (fun e w' => ∃ v, e = .returned v ∧ v = .tuple #[sv r.1, .bool r.2] ∧ Gr w w') := by
  unfold rickyardref11_Dir.f at h
  have fB : Gr w w := Fr.refl _ _
  refine calls_cw Try.func81 rfl Try.ntmps81 rfl ?_
  refine cw_seq ?_
  refine cw_region ?_
  refine ol_val (v := sv []) (by exact xr_assign rfl rfl) rfl rfl rfl ?_
  refine ol_val (v := .bool false) (by exact xr_assign rfl rfl) rfl rfl rfl ?_
  refine ol_nil ?_
  refine cw_seq ?_
  refine cw_seq ?_
  refine cw_mid (fun ρ' w' => ρ' 0 = V0_0 ∧ ρ' 14 = .bool (if (decide ((List.length a0 : Int) < 1)) = true then true else (decide ((List.length a0 : Int) > 16))) ∧ w = w') ?_ ?_
  · skip
    refine cw_region ?_
    refine ol_val (v := V0_0) (by exact xr_move rfl rfl) rfl rfl rfl ?_
    refine ol_val (v := .int .i64 (List.length a0 : Int)) (by exact xr_lenR rfl Try.underlying45 rfl (R0_0.gr fB)) rfl rfl rfl ?_
    refine ol_val (v := .bool (decide ((List.length a0 : Int) < 1))) (by exact xr_lss rfl rfl rfl) rfl rfl rfl ?_
    refine ol_val (v := .bool (decide ((List.length a0 : Int) < 1))) (by exact xr_move rfl rfl) rfl rfl rfl ?_
    rcases bt (decide ((List.length a0 : Int) < 1)) with c1 | c1
    · skip
      refine ol_gskip rfl rfl rfl rfl rfl c1 ?_
      refine ol_gskip rfl rfl rfl rfl rfl c1 ?_
      refine ol_gskip rfl rfl rfl rfl rfl c1 ?_
      refine ol_val (v := .bool true) (by exact xr_pickT rfl rfl c1 rfl) rfl rfl rfl ?_
      refine ol_nil ?_
      refine thn_i ?_
      exact ⟨rfl, (rfl).trans (congrArg (fun z => (.bool z : Value)) (show true = (if (decide ((List.length a0 : Int) < 1)) = true then true else (decide ((List.length a0 : Int) > 16))) from by rw [ite_t c1])), rfl⟩
    · skip
      refine ol_gval (v := V0_0) (by exact xr_move rfl rfl) rfl rfl rfl rfl rfl c1 ?_
      refine ol_gval (v := .int .i64 (List.length a0 : Int)) (by exact xr_lenR rfl Try.underlying45 rfl (R0_0.gr fB)) rfl rfl rfl rfl rfl c1 ?_
      refine ol_gval (v := .bool (decide ((List.length a0 : Int) > 16))) (by exact xr_gtr rfl rfl rfl) rfl rfl rfl rfl rfl c1 ?_
      refine ol_val (v := .bool (decide ((List.length a0 : Int) > 16))) (by exact xr_pickF rfl rfl c1 rfl) rfl rfl rfl ?_
      refine ol_nil ?_
      refine thn_i ?_
      exact ⟨rfl, (rfl).trans (congrArg (fun z => (.bool z : Value)) (show (decide ((List.length a0 : Int) > 16)) = (if (decide ((List.length a0 : Int) < 1)) = true then true else (decide ((List.length a0 : Int) > 16))) from by rw [ite_f c1])), rfl⟩
  · skip
    rintro ρ2 _ ⟨e0, e14, rfl⟩
    rcases is h with ⟨c3, h⟩ | ⟨c3, h⟩
    · refine cw_condT e14 c3 ?_
      refine cw_seq ?_
      refine cw_region ?_
      refine ol_val (v := sv []) (by exact xr_assign rfl rfl) rfl rfl rfl ?_
      refine ol_val (v := .bool false) (by exact xr_assign rfl rfl) rfl rfl rfl ?_
      refine ol_nil ?_
      refine cw_ret ?_
      repeat (first | with_reducible refine thn_r ?_ | with_reducible refine blk_r ?_)
      obtain rfl := Option.some.inj h
      refine fin_ret2 Try.results81 rfl rfl ?_
      exact ⟨_, rfl, rfl, fB⟩
    · refine cw_condF e14 c3 ?_
      refine cw_skip ?_
      refine cw_seq ?_
      refine cw_region ?_
      refine ol_val (v := sv []) (by exact xr_assign rfl rfl) rfl rfl rfl ?_
      refine ol_nil ?_
      refine cw_seq ?_
      refine cw_seq ?_
      refine cw_region ?_
      refine ol_val (v := .int .i64 0) (by exact xr_assign rfl rfl) rfl rfl rfl ?_
      refine ol_nil ?_
      obtain ⟨e5, l6, h7⟩ := bs h
      refine cw_mid (fun ρ' w' => ∃ x8, e5 = Sum.inr x8 ∧ ρ' 0 = V0_0 ∧ ρ' 4 = sv x8 ∧ Gr w w') ?_ ?_
      · refine cw_block ?_
        refine cw_round (fun (s4 : (List UInt8) × Int) ρ' w' => ρ' 0 = V0_0 ∧ ρ' 4 = sv s4.1 ∧ ρ' 5 = .int .i64 s4.2 ∧ Gr w w') l6 ?_ ?_
        · skip
          exact ⟨e0, rfl, rfl, fB⟩
        · rintro s4 x11 ρ9 w10 ⟨e0, e4, e5, fB⟩ h
          unfold rickyardref11_Dir.s1 at h
          refine cw_seq ?_
          refine cw_seq ?_
          refine cw_region ?_
          refine ol_val (v := .int .i64 s4.2) (by exact xr_move rfl e5) rfl rfl rfl ?_
          refine ol_val (v := V0_0) (by exact xr_move rfl e0) rfl rfl rfl ?_
          refine ol_val (v := .int .i64 (List.length a0 : Int)) (by exact xr_lenR rfl Try.underlying45 rfl (R0_0.gr fB)) rfl rfl rfl ?_
          refine ol_val (v := .bool (decide (s4.2 < (List.length a0 : Int)))) (by exact xr_lss rfl rfl rfl) rfl rfl rfl ?_
          refine ol_nil ?_
          rcases is h with ⟨c12, h⟩ | ⟨c12, h⟩
          · refine cw_condT rfl c12 ?_
            refine cw_skip ?_
            refine cw_seq ?_
            refine cw_block ?_
            refine cw_seq ?_
            refine cw_seq ?_
            refine cw_region ?_
            refine ol_val (v := V0_0) (by exact xr_move rfl e0) rfl rfl rfl ?_
            refine ol_val (v := .int .i64 s4.2) (by exact xr_move rfl e5) rfl rfl rfl ?_
            obtain ⟨g13, h⟩ := gs h
            refine ol_val (v := .pointer (some ⟨(sb V0_0), so V0_0 + Int.toNat s4.2 * 1, none⟩)) (by exact xr_indexR (K := (kI .i64)) (v := V0_0) rfl Try.underlying45 sz3 rfl (R0_0.gr fB) rfl g13.1 g13.2) rfl rfl rfl ?_
            refine ol_val (v := .int .i64 (ix a0 s4.2)) (by exact xr_load1 (v := .int .i64 (ix a0 s4.2)) rfl ag3 rfl ((R0_0.gr fB).elem g13.1 g13.2)) rfl rfl rfl ?_
            obtain ⟨t14, k15, h⟩ := bs h
            refine ol_op (by exact opv_call rfl cal107 (ac rfl an) (rickyardref08_Block.ok fu _ (ix a0 s4.2) _ k15)) rfl rfl rfl ?_
            rintro _ w17 ⟨rfl, q16⟩
            have fB := fB.gr q16
            refine ol_val (v := .bool (!t14)) (by exact xr_not rfl rfl) rfl rfl rfl ?_
            refine ol_nil ?_
            rcases is h with ⟨c18, h⟩ | ⟨c18, h⟩
            · refine cw_condT rfl c18 ?_
              refine cw_seq ?_
              refine cw_region ?_
              refine ol_val (v := sv []) (by exact xr_assign rfl rfl) rfl rfl rfl ?_
              refine ol_val (v := .bool false) (by exact xr_assign rfl rfl) rfl rfl rfl ?_
              refine ol_nil ?_
              refine cw_ret ?_
              repeat (first | with_reducible refine thn_r ?_ | with_reducible refine blk_r ?_)
              obtain rfl := Option.some.inj h
              refine lp_ret ?_
              rintro rfl
              repeat (first | with_reducible refine thn_r ?_ | with_reducible refine blk_r ?_)
              have h := h7
              obtain rfl := Option.some.inj h
              refine fin_ret2 Try.results81 rfl rfl ?_
              exact ⟨_, rfl, rfl, fB⟩
            · refine cw_condF rfl c18 ?_
              refine cw_skip ?_
              refine cw_seq ?_
              refine cw_seq ?_
              refine cw_region ?_
              refine ol_val (v := .int .i64 0) (by exact xr_assign rfl rfl) rfl rfl rfl ?_
              refine ol_nil ?_
              obtain ⟨e20, l21, h22⟩ := bs h
              refine cw_mid (fun ρ' w' => ∃ x23, e20 = Sum.inr x23 ∧ ρ' 0 = V0_0 ∧ ρ' 4 = sv s4.1 ∧ ρ' 5 = .int .i64 s4.2 ∧ Gr w w') ?_ ?_
              · refine cw_block ?_
                refine cw_round (fun (s19 : Int) ρ' w' => ρ' 0 = V0_0 ∧ ρ' 4 = sv s4.1 ∧ ρ' 5 = .int .i64 s4.2 ∧ ρ' 6 = .int .i64 s19 ∧ Gr w w') l21 ?_ ?_
                · skip
                  exact ⟨e0, e4, e5, rfl, fB⟩
                · rintro s19 x26 ρ24 w25 ⟨e0, e4, e5, e6, fB⟩ h
                  unfold rickyardref11_Dir.s2 at h
                  refine cw_seq ?_
                  refine cw_seq ?_
                  refine cw_region ?_
                  refine ol_val (v := .int .i64 s19) (by exact xr_move rfl e6) rfl rfl rfl ?_
                  refine ol_val (v := .int .i64 s4.2) (by exact xr_move rfl e5) rfl rfl rfl ?_
                  refine ol_val (v := .bool (decide (s19 < s4.2))) (by exact xr_lss rfl rfl rfl) rfl rfl rfl ?_
                  refine ol_nil ?_
                  rcases is h with ⟨c27, h⟩ | ⟨c27, h⟩
                  · refine cw_condT rfl c27 ?_
                    refine cw_skip ?_
                    refine cw_seq ?_
                    refine cw_block ?_
                    refine cw_seq ?_
                    obtain ⟨g28, h⟩ := gs h
                    obtain ⟨g29, h⟩ := gs h
                    refine cw_drawL 8 [fun vz wz => vz = (V0_0 : Value), fun vz wz => vz = (.int .i64 s19 : Value), fun vz wz => vz = (.pointer (some ⟨(sb V0_0), so V0_0 + Int.toNat s19 * 1, none⟩) : Value), fun vz wz => vz = (.int .i64 (ix a0 s19) : Value), fun vz wz => vz = (V0_0 : Value), fun vz wz => vz = (.int .i64 s4.2 : Value), fun vz wz => vz = (.pointer (some ⟨(sb V0_0), so V0_0 + Int.toNat s4.2 * 1, none⟩) : Value), fun vz wz => vz = (.int .i64 (ix a0 s4.2) : Value)] mo rfl ⟨fun _ _ _ h _ => h, fun _ _ _ h _ => h, fun _ _ _ h _ => h, fun _ _ _ h _ => h, fun _ _ _ h _ => h, fun _ _ _ h _ => h, fun _ _ _ h _ => h, fun _ _ _ h _ => h, trivial⟩ ?_ ?_
                    · refine ⟨?_, ?_, ?_, ?_, ?_, ?_, ?_, ?_, trivial⟩
                      · intro ρz wz hz hk hd
                        exact sk_val (v := V0_0) (by exact xr_move rfl ((hk 0 rfl).trans e0)) rfl rfl
                      · intro ρz wz hz hk hd
                        exact sk_val (v := .int .i64 s19) (by exact xr_move rfl ((hk 6 rfl).trans e6)) rfl rfl
                      · intro ρz wz hz hk hd
                        have d32 := hd 0 rfl 32 rfl
                        have d33 := hd 1 rfl 33 rfl
                        exact sk_val (by exact xr_indexR (K := (kI .i64)) (v := V0_0) rfl Try.underlying45 sz3 d32 (R0_0.gr (fB.gr hz)) d33 g28.1 g28.2) rfl rfl
                      · intro ρz wz hz hk hd
                        have d34 := hd 2 rfl 34 rfl
                        exact sk_val (v := .int .i64 (ix a0 s19)) (by exact xr_load1 (v := .int .i64 (ix a0 s19)) rfl ag3 d34 ((R0_0.gr (fB.gr hz)).elem g28.1 g28.2)) rfl rfl
                      · intro ρz wz hz hk hd
                        exact sk_val (v := V0_0) (by exact xr_move rfl ((hk 0 rfl).trans e0)) rfl rfl
                      · intro ρz wz hz hk hd
                        exact sk_val (v := .int .i64 s4.2) (by exact xr_move rfl ((hk 5 rfl).trans e5)) rfl rfl
                      · intro ρz wz hz hk hd
                        have d36 := hd 4 rfl 36 rfl
                        have d37 := hd 5 rfl 37 rfl
                        exact sk_val (by exact xr_indexR (K := (kI .i64)) (v := V0_0) rfl Try.underlying45 sz3 d36 (R0_0.gr (fB.gr hz)) d37 g29.1 g29.2) rfl rfl
                      · intro ρz wz hz hk hd
                        have d38 := hd 6 rfl 38 rfl
                        exact sk_val (v := .int .i64 (ix a0 s4.2)) (by exact xr_load1 (v := .int .i64 (ix a0 s4.2)) rfl ag3 d38 ((R0_0.gr (fB.gr hz)).elem g29.1 g29.2)) rfl rfl
                    · intro ρ30 w31 q32 hk hd
                      have e0 := (hk 0 rfl).trans e0
                      have e4 := (hk 4 rfl).trans e4
                      have e5 := (hk 5 rfl).trans e5
                      have e6 := (hk 6 rfl).trans e6
                      have e35 := hd 3 rfl 35 rfl
                      have e39 := hd 7 rfl 39 rfl
                      have fB := fB.gr q32
                      refine ol_val (v := .bool (decide ((ix a0 s19) = (ix a0 s4.2)))) (by exact xr_eqI rfl Try.underlying3 rfl e35 e39) rfl rfl rfl ?_
                      refine ol_nil ?_
                      rcases is h with ⟨c33, h⟩ | ⟨c33, h⟩
                      · refine cw_condT rfl c33 ?_
                        refine cw_seq ?_
                        refine cw_region ?_
                        refine ol_val (v := sv []) (by exact xr_assign rfl rfl) rfl rfl rfl ?_
                        refine ol_val (v := .bool false) (by exact xr_assign rfl rfl) rfl rfl rfl ?_
                        refine ol_nil ?_
                        refine cw_ret ?_
                        repeat (first | with_reducible refine thn_r ?_ | with_reducible refine blk_r ?_)
                        obtain rfl := Option.some.inj h
                        refine lp_ret ?_
                        rintro rfl
                        repeat (first | with_reducible refine thn_r ?_ | with_reducible refine blk_r ?_)
                        have h := h22
                        obtain rfl := Option.some.inj h
                        refine lp_ret ?_
                        rintro rfl
                        repeat (first | with_reducible refine thn_r ?_ | with_reducible refine blk_r ?_)
                        have h := h7
                        obtain rfl := Option.some.inj h
                        refine fin_ret2 Try.results81 rfl rfl ?_
                        exact ⟨_, rfl, rfl, fB⟩
                      · refine cw_condF rfl c33 ?_
                        refine cw_skip ?_
                        refine blk_i ?_
                        refine cw_region ?_
                        refine ol_val (v := .int .i64 s19) (by exact xr_move rfl e6) rfl rfl rfl ?_
                        refine ol_val (v := .int .i64 (IntKind.i64.wrap (s19 + 1))) (by exact xr_add rfl rfl rfl) rfl rfl rfl ?_
                        refine ol_val (v := .int .i64 (IntKind.i64.wrap (s19 + 1))) (by exact xr_assign rfl rfl) rfl rfl rfl ?_
                        refine ol_nil ?_
                        obtain rfl := Option.some.inj h
                        refine lp_in ?_
                        exact ⟨e0, e4, e5, rfl, fB⟩
                  · refine cw_condF rfl c27 ?_
                    refine cw_exit ?_
                    repeat (first | with_reducible refine thn_e ?_ | with_reducible refine blk_e rfl ?_)
                    obtain rfl := Option.some.inj h
                    refine lp_exit ?_
                    rintro rfl
                    refine thn_x ?_
                    exact ⟨_, rfl, e0, e4, e5, fB⟩
              · rintro ρ34 w35 ⟨x23, rfl, e0, e4, e5, fB⟩
                have h := h22
                refine cw_region ?_
                refine ol_val (v := sv s4.1) (by exact xr_move rfl e4) rfl rfl rfl ?_
                refine ol_val (v := V0_0) (by exact xr_move rfl e0) rfl rfl rfl ?_
                refine ol_val (v := .int .i64 s4.2) (by exact xr_move rfl e5) rfl rfl rfl ?_
                obtain ⟨g36, h⟩ := gs h
                refine ol_val (v := .pointer (some ⟨(sb V0_0), so V0_0 + Int.toNat s4.2 * 1, none⟩)) (by exact xr_indexR (K := (kI .i64)) (v := V0_0) rfl Try.underlying45 sz3 rfl (R0_0.gr fB) rfl g36.1 g36.2) rfl rfl rfl ?_
                refine ol_val (v := .int .i64 (ix a0 s4.2)) (by exact xr_load1 (v := .int .i64 (ix a0 s4.2)) rfl ag3 rfl ((R0_0.gr fB).elem g36.1 g36.2)) rfl rfl rfl ?_
                refine ol_val (v := .int .u64 (IntKind.u64.wrap (ix a0 s4.2))) (by exact xr_conv rfl Try.underlying3 Try.underlying129 rfl) rfl rfl rfl ?_
                obtain ⟨t37, k38, h⟩ := bs h
                refine ol_op (by exact opv_call rfl cal99 (ac rfl (ac rfl an)) (rickyardref01_Lay.ok fu _ (IntKind.u64.wrap (ix a0 s4.2)) 2 _ k38)) rfl rfl rfl ?_
                rintro _ w40 ⟨rfl, q39⟩
                have fB := fB.gr q39
                obtain ⟨g41, h⟩ := gs h
                refine ol_val (v := sv (s4.1 ++ t37)) (by exact xr_addStr rfl rfl rfl g41) rfl rfl rfl ?_
                refine ol_val (v := sv (s4.1 ++ t37)) (by exact xr_assign rfl rfl) rfl rfl rfl ?_
                refine ol_nil ?_
                refine blk_i ?_
                refine cw_region ?_
                refine ol_val (v := .int .i64 s4.2) (by exact xr_move rfl e5) rfl rfl rfl ?_
                refine ol_val (v := .int .i64 (IntKind.i64.wrap (s4.2 + 1))) (by exact xr_add rfl rfl rfl) rfl rfl rfl ?_
                refine ol_val (v := .int .i64 (IntKind.i64.wrap (s4.2 + 1))) (by exact xr_assign rfl rfl) rfl rfl rfl ?_
                refine ol_nil ?_
                obtain rfl := Option.some.inj h
                refine lp_in ?_
                exact ⟨e0, rfl, rfl, fB⟩
          · refine cw_condF rfl c12 ?_
            refine cw_exit ?_
            repeat (first | with_reducible refine thn_e ?_ | with_reducible refine blk_e rfl ?_)
            obtain rfl := Option.some.inj h
            refine lp_exit ?_
            rintro rfl
            refine thn_x ?_
            exact ⟨_, rfl, e0, e4, fB⟩
      · rintro ρ42 w43 ⟨x8, rfl, e0, e4, fB⟩
        have h := h7
        refine cw_seq ?_
        refine cw_region ?_
        refine ol_val (v := V0_0) (by exact xr_move rfl e0) rfl rfl rfl ?_
        refine ol_val (v := .int .i64 (List.length a0 : Int)) (by exact xr_lenR rfl Try.underlying45 rfl (R0_0.gr fB)) rfl rfl rfl ?_
        refine ol_val (v := sv x8) (by exact xr_move rfl e4) rfl rfl rfl ?_
        obtain ⟨t44, k45, h⟩ := bs h
        refine ol_op (by exact opv_call rfl cal30 (ac rfl (ac rfl (ac rfl an))) (rickyardref07_Seal.ok fu _ 6 (List.length a0 : Int) x8 _ k45)) rfl rfl rfl ?_
        rintro _ w47 ⟨rfl, q46⟩
        have fB := fB.gr q46
        refine ol_val (v := sv t44) (by exact xr_assign rfl rfl) rfl rfl rfl ?_
        refine ol_val (v := .bool true) (by exact xr_assign rfl rfl) rfl rfl rfl ?_
        refine ol_nil ?_
        refine cw_ret ?_
        repeat (first | with_reducible refine thn_r ?_ | with_reducible refine blk_r ?_)
        obtain rfl := Option.some.inj h
        refine fin_ret2 Try.results81 rfl rfl ?_
        exact ⟨_, rfl, rfl, fB⟩
end Go.Proofs.Ytjhajfkfhdnciaa

/- rickyard/rickyardref11.GetDir: its model, and that the Go function computes it: written by gen.py. -/
set_option linter.unusedVariables false
namespace Go.Proofs.Ytjhajfkfhdnciaa
open Go Go.Xw
def rickyardref11_GetDir.s0 (fu : Nat) (t4 : Int × Int × (List UInt8) × Bool) : ((List Int) × Int) → Option (Sum (List Int) ((List Int) × Int)) := fun s12 => (if (decide (s12.2 < t4.2.1)) = true then (if (0 : Int) ≤ (IntKind.i64.wrap (2 * s12.2)) ∧ (IntKind.i64.wrap (2 * s12.2)) ≤ (IntKind.i64.wrap ((IntKind.i64.wrap (2 * s12.2)) + 2)) ∧ (IntKind.i64.wrap ((IntKind.i64.wrap (2 * s12.2)) + 2)) ≤ (List.length t4.2.2.1 : Int) then ((rickyardref01_Int.f fu (cut t4.2.2.1 (IntKind.i64.wrap (2 * s12.2)) (IntKind.i64.wrap ((IntKind.i64.wrap (2 * s12.2)) + 2))) : Option Int).bind fun t27 => (if List.length s12.1 + List.length [t27] ≤ LIM then some (Sum.inr ((s12.1 ++ [t27]), (IntKind.i64.wrap (s12.2 + 1)))) else none)) else none) else some (Sum.inl (s12.1)))
def rickyardref11_GetDir.f (fu : Nat) (a0 : List Int) : Option ((List Int) × Bool) := ((rickyardref07_Open.f fu a0 : Option (Int × Int × (List UInt8) × Bool)).bind fun t4 => (if (if (!t4.2.2.2) = true then true else (if (!decide (t4.1 = 6)) = true then true else (decide (t4.2.1 > 16)))) = true then some ([], false) else ((loopM (rickyardref11_GetDir.s0 fu t4) fu ([], 0)).bind fun e13 => ((rickyardref11_Dir.f fu e13 : Option ((List UInt8) × Bool)).bind fun t48 => (if (if (!t48.2) = true then true else (!decide (t48.1 = (List.map toB a0)))) = true then some ([], false) else some (e13, true))))))
set_option maxRecDepth 100000 in
set_option maxHeartbeats 400000 in
theorem rickyardref11_GetDir.ok (fu : Nat) (w : World) (a0 : List Int) (V0_0 : Value) (R0_0 : Rd (kI .u8) w V0_0 a0) (r : (List Int) × Bool) (h : rickyardref11_GetDir.f fu a0 = some r) :
    Calls Try.prog 85 (([V0_0] : List Value).toArray) w (fun e w' => ∃ v, e = .returned v ∧ ∃ u1 : Value, ∃ o2 : Own (kI .i64) 3 w' w.heap.size u1 r.1, v = .tuple #[u1, .bool r.2] ∧ Gr w w') := by
  unfold rickyardref11_GetDir.f at h
  have fB : Gr w w := Fr.refl _ _
  refine calls_cw Try.func85 rfl Try.ntmps85 rfl ?_
  refine cw_seq ?_
  refine cw_region ?_
  refine ol_val (v := .slice none 0 0) (by exact xr_assign rfl rfl) rfl rfl rfl ?_
  refine ol_val (v := .bool false) (by exact xr_assign rfl rfl) rfl rfl rfl ?_
  refine ol_nil ?_
  refine cw_seq ?_
  refine cw_region ?_
  refine ol_val (v := V0_0) (by exact xr_move rfl rfl) rfl rfl rfl ?_
  obtain ⟨t4, k5, h⟩ := bs h
  refine ol_op (by exact opv_call rfl cal32 (ac rfl an) (rickyardref07_Open.ok fu _ a0 V0_0 (R0_0.gr fB) _ k5)) rfl rfl rfl ?_
  rintro _ w7 ⟨rfl, q6⟩
  have fB := fB.gr q6
  refine ol_val (v := .tuple #[.int .i64 t4.1, .int .i64 t4.2.1, sv t4.2.2.1, .bool t4.2.2.2]) (by exact xr_move rfl rfl) rfl rfl rfl ?_
  refine ol_val (v := .int .i64 t4.1) (by exact xr_extract rfl rfl rfl) rfl rfl rfl ?_
  refine ol_val (v := .int .i64 t4.2.1) (by exact xr_extract rfl rfl rfl) rfl rfl rfl ?_
  refine ol_val (v := sv t4.2.2.1) (by exact xr_extract rfl rfl rfl) rfl rfl rfl ?_
  refine ol_val (v := .bool t4.2.2.2) (by exact xr_extract rfl rfl rfl) rfl rfl rfl ?_
  refine ol_val (v := .int .i64 t4.1) (by exact xr_assign rfl rfl) rfl rfl rfl ?_
  refine ol_val (v := .int .i64 t4.2.1) (by exact xr_assign rfl rfl) rfl rfl rfl ?_
  refine ol_val (v := sv t4.2.2.1) (by exact xr_assign rfl rfl) rfl rfl rfl ?_
  refine ol_val (v := .bool t4.2.2.2) (by exact xr_assign rfl rfl) rfl rfl rfl ?_
  refine ol_nil ?_
  refine cw_seq ?_
  refine cw_seq ?_
  refine cw_mid (fun ρ' w' => ρ' 0 = V0_0 ∧ ρ' 5 = .int .i64 t4.2.1 ∧ ρ' 6 = sv t4.2.2.1 ∧ ρ' 28 = .bool (if (!t4.2.2.2) = true then true else (if (!decide (t4.1 = 6)) = true then true else (decide (t4.2.1 > 16)))) ∧ w7 = w') ?_ ?_
  · skip
    refine cw_region ?_
    refine ol_val (v := .bool t4.2.2.2) (by exact xr_move rfl rfl) rfl rfl rfl ?_
    refine ol_val (v := .bool (!t4.2.2.2)) (by exact xr_not rfl rfl) rfl rfl rfl ?_
    refine ol_val (v := .bool (!t4.2.2.2)) (by exact xr_move rfl rfl) rfl rfl rfl ?_
    rcases bt (!t4.2.2.2) with c8 | c8
    · skip
      refine ol_gskip rfl rfl rfl rfl rfl c8 ?_
      refine ol_gskip rfl rfl rfl rfl rfl c8 ?_
      refine ol_val (v := .bool true) (by exact xr_pickT rfl rfl c8 rfl) rfl rfl rfl ?_
      refine ol_val (v := .bool true) (by exact xr_move rfl rfl) rfl rfl rfl ?_
      refine ol_gskip rfl rfl rfl rfl rfl rfl ?_
      refine ol_gskip rfl rfl rfl rfl rfl rfl ?_
      refine ol_val (v := .bool true) (by exact xr_pickT rfl rfl rfl rfl) rfl rfl rfl ?_
      refine ol_nil ?_
      refine thn_i ?_
      exact ⟨rfl, rfl, rfl, (rfl).trans (congrArg (fun z => (.bool z : Value)) (show true = (if (!t4.2.2.2) = true then true else (if (!decide (t4.1 = 6)) = true then true else (decide (t4.2.1 > 16)))) from by rw [ite_t c8])), rfl⟩
    · skip
      refine ol_gval (v := .int .i64 t4.1) (by exact xr_move rfl rfl) rfl rfl rfl rfl rfl c8 ?_
      refine ol_gval (v := .bool (!decide (t4.1 = 6))) (by exact xr_neI rfl Try.underlying3 rfl rfl rfl) rfl rfl rfl rfl rfl c8 ?_
      refine ol_val (v := .bool (!decide (t4.1 = 6))) (by exact xr_pickF rfl rfl c8 rfl) rfl rfl rfl ?_
      refine ol_val (v := .bool (!decide (t4.1 = 6))) (by exact xr_move rfl rfl) rfl rfl rfl ?_
      rcases bt (!decide (t4.1 = 6)) with c9 | c9
      · skip
        refine ol_gskip rfl rfl rfl rfl rfl c9 ?_
        refine ol_gskip rfl rfl rfl rfl rfl c9 ?_
        refine ol_val (v := .bool true) (by exact xr_pickT rfl rfl c9 rfl) rfl rfl rfl ?_
        refine ol_nil ?_
        refine thn_i ?_
        exact ⟨rfl, rfl, rfl, (rfl).trans (congrArg (fun z => (.bool z : Value)) (show true = (if (!t4.2.2.2) = true then true else (if (!decide (t4.1 = 6)) = true then true else (decide (t4.2.1 > 16)))) from by rw [ite_f c8, ite_t c9])), rfl⟩
      · skip
        refine ol_gval (v := .int .i64 t4.2.1) (by exact xr_move rfl rfl) rfl rfl rfl rfl rfl c9 ?_
        refine ol_gval (v := .bool (decide (t4.2.1 > 16))) (by exact xr_gtr rfl rfl rfl) rfl rfl rfl rfl rfl c9 ?_
        refine ol_val (v := .bool (decide (t4.2.1 > 16))) (by exact xr_pickF rfl rfl c9 rfl) rfl rfl rfl ?_
        refine ol_nil ?_
        refine thn_i ?_
        exact ⟨rfl, rfl, rfl, (rfl).trans (congrArg (fun z => (.bool z : Value)) (show (decide (t4.2.1 > 16)) = (if (!t4.2.2.2) = true then true else (if (!decide (t4.1 = 6)) = true then true else (decide (t4.2.1 > 16)))) from by rw [ite_f c8, ite_f c9])), rfl⟩
  · skip
    rintro ρ10 _ ⟨e0, e5, e6, e28, rfl⟩
    rcases is h with ⟨c11, h⟩ | ⟨c11, h⟩
    · refine cw_condT e28 c11 ?_
      refine cw_seq ?_
      refine cw_region ?_
      refine ol_val (v := .slice none 0 0) (by exact xr_assign rfl rfl) rfl rfl rfl ?_
      refine ol_val (v := .bool false) (by exact xr_assign rfl rfl) rfl rfl rfl ?_
      refine ol_nil ?_
      refine cw_ret ?_
      repeat (first | with_reducible refine thn_r ?_ | with_reducible refine blk_r ?_)
      obtain rfl := Option.some.inj h
      refine fin_ret2 Try.results85 rfl rfl ?_
      exact ⟨_, rfl, (.slice none 0 0), Own.nil _ _ _ _, rfl, fB⟩
    · refine cw_condF e28 c11 ?_
      refine cw_skip ?_
      refine cw_seq ?_
      refine cw_region ?_
      refine ol_val (v := .slice none 0 0) (by exact xr_assign rfl rfl) rfl rfl rfl ?_
      refine ol_nil ?_
      refine cw_seq ?_
      refine cw_seq ?_
      refine cw_region ?_
      refine ol_val (v := .int .i64 0) (by exact xr_assign rfl rfl) rfl rfl rfl ?_
      refine ol_nil ?_
      obtain ⟨e13, l14, h15⟩ := bs h
      refine cw_mid (fun ρ' w' => ∃ v16 : Value, ∃ o17 : Own (kI .i64) 3 w' w.heap.size v16 e13, ρ' 0 = V0_0 ∧ ρ' 8 = v16 ∧ Gr w w') ?_ ?_
      · refine cw_block ?_
        refine cw_round (fun (s12 : (List Int) × Int) ρ' w' => ∃ v19 : Value, ∃ o20 : Own (kI .i64) 3 w' w.heap.size v19 s12.1, ρ' 0 = V0_0 ∧ ρ' 5 = .int .i64 t4.2.1 ∧ ρ' 6 = sv t4.2.2.1 ∧ ρ' 8 = v19 ∧ ρ' 9 = .int .i64 s12.2 ∧ Gr w w') l14 ?_ ?_
        · skip
          exact ⟨(.slice none 0 0), Own.nil _ _ _ _, e0, e5, e6, rfl, rfl, fB⟩
        · rintro s12 x24 ρ22 w23 ⟨v19, o20, e0, e5, e6, e8, e9, fB⟩ h
          unfold rickyardref11_GetDir.s0 at h
          refine cw_seq ?_
          refine cw_seq ?_
          refine cw_region ?_
          refine ol_val (v := .int .i64 s12.2) (by exact xr_move rfl e9) rfl rfl rfl ?_
          refine ol_val (v := .int .i64 t4.2.1) (by exact xr_move rfl e5) rfl rfl rfl ?_
          refine ol_val (v := .bool (decide (s12.2 < t4.2.1))) (by exact xr_lss rfl rfl rfl) rfl rfl rfl ?_
          refine ol_nil ?_
          rcases is h with ⟨c25, h⟩ | ⟨c25, h⟩
          · refine cw_condT rfl c25 ?_
            refine cw_skip ?_
            refine cw_seq ?_
            refine cw_block ?_
            refine cw_region ?_
            refine ol_val (v := v19) (by exact xr_move rfl e8) rfl rfl rfl ?_
            refine ol_val (v := sv t4.2.2.1) (by exact xr_move rfl e6) rfl rfl rfl ?_
            refine ol_val (v := .int .i64 s12.2) (by exact xr_move rfl e9) rfl rfl rfl ?_
            refine ol_val (v := .int .i64 (IntKind.i64.wrap (2 * s12.2))) (by exact xr_mul rfl rfl rfl) rfl rfl rfl ?_
            refine ol_val (v := .int .i64 s12.2) (by exact xr_move rfl e9) rfl rfl rfl ?_
            refine ol_val (v := .int .i64 (IntKind.i64.wrap (2 * s12.2))) (by exact xr_mul rfl rfl rfl) rfl rfl rfl ?_
            refine ol_val (v := .int .i64 (IntKind.i64.wrap ((IntKind.i64.wrap (2 * s12.2)) + 2))) (by exact xr_add rfl rfl rfl) rfl rfl rfl ?_
            obtain ⟨g26, h⟩ := gs h
            refine ol_val (v := sv (cut t4.2.2.1 (IntKind.i64.wrap (2 * s12.2)) (IntKind.i64.wrap ((IntKind.i64.wrap (2 * s12.2)) + 2)))) (by exact xr_str_lh rfl Try.underlying9 rfl rfl rfl g26.1 g26.2.1 g26.2.2) rfl rfl rfl ?_
            obtain ⟨t27, k28, h⟩ := bs h
            refine ol_op (by exact opv_call rfl cal103 (ac rfl an) (rickyardref01_Int.ok fu _ (cut t4.2.2.1 (IntKind.i64.wrap (2 * s12.2)) (IntKind.i64.wrap ((IntKind.i64.wrap (2 * s12.2)) + 2))) _ k28)) rfl rfl rfl ?_
            rintro _ w30 ⟨rfl, q29⟩
            have o20 := o20.gr q29
            have fB := fB.gr q29
            refine ol_op (by exact opv_buildSlice (K := (kI .i64)) (xs := [t27]) (vals := [.int .i64 t27]) rfl Try.underlying45 el3 rfl rfl ⟨rfl, rfl, trivial⟩ rfl rfl rfl fB.size) rfl rfl rfl ?_
            rintro v31 w36 ⟨o33, q32, z34⟩
            have a37 := OffV.new o20 z34
            have o20 := o20.gr q32
            have fB := fB.gr q32
            obtain ⟨g42, h⟩ := gs h
            have f44 := o20.geO
            refine ol_op (by exact opv_append (K := (kI .i64)) rfl Try.underlying45 el3 rfl rfl rfl rfl rfl o20 o33.rd g42 fB.size) rfl rfl rfl ?_
            rintro v38 w45 ⟨o39, q40, n41⟩
            have fB := fB.wrO q40 f44
            refine ol_val (v := v38) (by exact xr_assign rfl rfl) rfl rfl rfl ?_
            refine ol_nil ?_
            refine blk_i ?_
            refine cw_region ?_
            refine ol_val (v := .int .i64 s12.2) (by exact xr_move rfl e9) rfl rfl rfl ?_
            refine ol_val (v := .int .i64 (IntKind.i64.wrap (s12.2 + 1))) (by exact xr_add rfl rfl rfl) rfl rfl rfl ?_
            refine ol_val (v := .int .i64 (IntKind.i64.wrap (s12.2 + 1))) (by exact xr_assign rfl rfl) rfl rfl rfl ?_
            refine ol_nil ?_
            obtain rfl := Option.some.inj h
            refine lp_in ?_
            exact ⟨v38, o39, e0, e5, e6, rfl, rfl, fB⟩
          · refine cw_condF rfl c25 ?_
            refine cw_exit ?_
            repeat (first | with_reducible refine thn_e ?_ | with_reducible refine blk_e rfl ?_)
            obtain rfl := Option.some.inj h
            refine lp_exit ?_
            rintro rfl
            refine thn_x ?_
            exact ⟨v19, o20, e0, e8, fB⟩
      · rintro ρ46 w47 ⟨v16, o17, e0, e8, fB⟩
        have h := h15
        refine cw_seq ?_
        refine cw_region ?_
        refine ol_val (v := v16) (by exact xr_move rfl e8) rfl rfl rfl ?_
        obtain ⟨t48, k49, h⟩ := bs h
        refine ol_op (by exact opv_call rfl cal81 (ac rfl an) (rickyardref11_Dir.ok fu _ e13 v16 (o17.rd) _ k49)) rfl rfl rfl ?_
        rintro _ w51 ⟨rfl, q50⟩
        have o17 := o17.gr q50
        have fB := fB.gr q50
        refine ol_val (v := .tuple #[sv t48.1, .bool t48.2]) (by exact xr_move rfl rfl) rfl rfl rfl ?_
        refine ol_val (v := sv t48.1) (by exact xr_extract rfl rfl rfl) rfl rfl rfl ?_
        refine ol_val (v := .bool t48.2) (by exact xr_extract rfl rfl rfl) rfl rfl rfl ?_
        refine ol_val (v := sv t48.1) (by exact xr_assign rfl rfl) rfl rfl rfl ?_
        refine ol_val (v := .bool t48.2) (by exact xr_assign rfl rfl) rfl rfl rfl ?_
        refine ol_nil ?_
        refine cw_seq ?_
        refine cw_seq ?_
        refine cw_mid (fun ρ' w' => ρ' 8 = v16 ∧ ρ' 57 = .bool (if (!t48.2) = true then true else (!decide (t48.1 = (List.map toB a0)))) ∧ w51 = w') ?_ ?_
        · skip
          refine cw_region ?_
          refine ol_val (v := .bool t48.2) (by exact xr_move rfl rfl) rfl rfl rfl ?_
          refine ol_val (v := .bool (!t48.2)) (by exact xr_not rfl rfl) rfl rfl rfl ?_
          refine ol_val (v := .bool (!t48.2)) (by exact xr_move rfl rfl) rfl rfl rfl ?_
          rcases bt (!t48.2) with c52 | c52
          · skip
            refine ol_gskip rfl rfl rfl rfl rfl c52 ?_
            refine ol_gskip rfl rfl rfl rfl rfl c52 ?_
            refine ol_gskip rfl rfl rfl rfl rfl c52 ?_
            refine ol_gskip rfl rfl rfl rfl rfl c52 ?_
            refine ol_val (v := .bool true) (by exact xr_pickT rfl rfl c52 rfl) rfl rfl rfl ?_
            refine ol_nil ?_
            refine thn_i ?_
            exact ⟨e8, (rfl).trans (congrArg (fun z => (.bool z : Value)) (show true = (if (!t48.2) = true then true else (!decide (t48.1 = (List.map toB a0)))) from by rw [ite_t c52])), rfl⟩
          · skip
            refine ol_gval (v := sv t48.1) (by exact xr_move rfl rfl) rfl rfl rfl rfl rfl c52 ?_
            refine ol_gval (v := V0_0) (by exact xr_move rfl e0) rfl rfl rfl rfl rfl c52 ?_
            refine ol_gval (v := sv (List.map toB a0)) (by exact xr_toStr rfl Try.underlying22 Try.underlying5 Try.underlying9 rfl (R0_0.gr fB)) rfl rfl rfl rfl rfl c52 ?_
            refine ol_gval (v := .bool (!decide (t48.1 = (List.map toB a0)))) (by exact xr_neStr rfl Try.underlying9 rfl rfl) rfl rfl rfl rfl rfl c52 ?_
            refine ol_val (v := .bool (!decide (t48.1 = (List.map toB a0)))) (by exact xr_pickF rfl rfl c52 rfl) rfl rfl rfl ?_
            refine ol_nil ?_
            refine thn_i ?_
            exact ⟨e8, (rfl).trans (congrArg (fun z => (.bool z : Value)) (show (!decide (t48.1 = (List.map toB a0))) = (if (!t48.2) = true then true else (!decide (t48.1 = (List.map toB a0)))) from by rw [ite_f c52])), rfl⟩
        · skip
          rintro ρ53 _ ⟨e8, e57, rfl⟩
          rcases is h with ⟨c54, h⟩ | ⟨c54, h⟩
          · refine cw_condT e57 c54 ?_
            refine cw_seq ?_
            refine cw_region ?_
            refine ol_val (v := .slice none 0 0) (by exact xr_assign rfl rfl) rfl rfl rfl ?_
            refine ol_val (v := .bool false) (by exact xr_assign rfl rfl) rfl rfl rfl ?_
            refine ol_nil ?_
            refine cw_ret ?_
            repeat (first | with_reducible refine thn_r ?_ | with_reducible refine blk_r ?_)
            obtain rfl := Option.some.inj h
            refine fin_ret2 Try.results85 rfl rfl ?_
            exact ⟨_, rfl, (.slice none 0 0), Own.nil _ _ _ _, rfl, fB⟩
          · refine cw_condF e57 c54 ?_
            refine cw_skip ?_
            refine cw_seq ?_
            refine cw_region ?_
            refine ol_val (v := v16) (by exact xr_move rfl e8) rfl rfl rfl ?_
            refine ol_val (v := v16) (by exact xr_assign rfl rfl) rfl rfl rfl ?_
            refine ol_val (v := .bool true) (by exact xr_assign rfl rfl) rfl rfl rfl ?_
            refine ol_nil ?_
            refine cw_ret ?_
            repeat (first | with_reducible refine thn_r ?_ | with_reducible refine blk_r ?_)
            obtain rfl := Option.some.inj h
            refine fin_ret2 Try.results85 rfl rfl ?_
            exact ⟨_, rfl, v16, o17, rfl, fB⟩
end Go.Proofs.Ytjhajfkfhdnciaa

/- rickyard/rickyardlaw11.LabelReads: its model, and that the Go function computes it: written by gen.py. -/
set_option linter.unusedVariables false
namespace Go.Proofs.Ytjhajfkfhdnciaa
open Go Go.Xw
def rickyardlaw11_LabelReads.f (fu : Nat) (a0 : List Int) : Option Bool := ((((rickyardlaw11_awake.f fu : Option Bool).bind fun t3 => (if (!t3) = true then some (true) else some ((decide ((List.length a0 : Int) > 200))))) : Option Bool).bind fun x1 => (if x1 = true then ((rickyardlaw11_awake.f fu : Option Bool).bind fun t12 => some (t12)) else ((label_GetQueue.f fu a0 : Option (S_api_Queue × Bool)).bind fun t16 => ((rickyardref11_Get.f fu a0 : Option (S_api_Queue × Bool)).bind fun t28 => ((label_GetDir.f fu a0 : Option (S_api_Dir × Bool)).bind fun t41 => ((rickyardref11_GetDir.f fu a0 : Option ((List Int) × Bool)).bind fun t59 => (((if (decide (t16.2 = t28.2)) = true then (if (decide (t16.1 = t28.1)) = true then (if (decide (t41.2 = t59.2)) = true then ((rickyardref01_Ints.f fu t41.1.Queues t59.1 : Option Bool).bind fun t72 => some (t72)) else some (false)) else some (false)) else some (false)) : Option Bool).bind fun x67 => some (x67))))))))
set_option maxRecDepth 100000 in
set_option maxHeartbeats 400000 in
theorem rickyardlaw11_LabelReads.ok (fu : Nat) (w : World) (a0 : List Int) (V0_0 : Value) (R0_0 : Rd (kI .u8) w V0_0 a0) (r : Bool) (h : rickyardlaw11_LabelReads.f fu a0 = some r) :
    Calls Try.prog 22 (([V0_0] : List Value).toArray) w (fun e w' => ∃ v, e = .returned v ∧ v = .bool r ∧ Gr w w') := by
  unfold rickyardlaw11_LabelReads.f at h
  have fB : Gr w w := Fr.refl _ _
  refine calls_cw Try.func22 rfl Try.ntmps22 rfl ?_
  refine cw_seq ?_
  refine cw_region ?_
  refine ol_val (v := .bool false) (by exact xr_assign rfl rfl) rfl rfl rfl ?_
  refine ol_nil ?_
  refine cw_seq ?_
  refine cw_seq ?_
  obtain ⟨x1, j2, h⟩ := bs h
  refine cw_mid (fun ρ' w' => ρ' 0 = V0_0 ∧ ρ' 17 = .bool x1 ∧ Gr w w') ?_ ?_
  · skip
    refine cw_region ?_
    obtain ⟨t3, k4, j2⟩ := bs j2
    refine ol_op (by exact opv_call rfl cal73 an (rickyardlaw11_awake.ok fu _ _ k4)) rfl rfl rfl ?_
    rintro _ w6 ⟨rfl, q5⟩
    have fB := fB.gr q5
    refine ol_val (v := .bool (!t3)) (by exact xr_not rfl rfl) rfl rfl rfl ?_
    refine ol_val (v := .bool (!t3)) (by exact xr_move rfl rfl) rfl rfl rfl ?_
    rcases is j2 with ⟨c7, j2⟩ | ⟨c7, j2⟩
    · skip
      refine ol_gskip rfl rfl rfl rfl rfl c7 ?_
      refine ol_gskip rfl rfl rfl rfl rfl c7 ?_
      refine ol_gskip rfl rfl rfl rfl rfl c7 ?_
      refine ol_val (v := .bool true) (by exact xr_pickT rfl rfl c7 rfl) rfl rfl rfl ?_
      refine ol_nil ?_
      obtain rfl := Option.some.inj j2
      refine thn_i ?_
      exact ⟨rfl, rfl, q5⟩
    · skip
      refine ol_gval (v := V0_0) (by exact xr_move rfl rfl) rfl rfl rfl rfl rfl c7 ?_
      refine ol_gval (v := .int .i64 (List.length a0 : Int)) (by exact xr_lenR rfl Try.underlying22 rfl (R0_0.gr fB)) rfl rfl rfl rfl rfl c7 ?_
      refine ol_gval (v := .bool (decide ((List.length a0 : Int) > 200))) (by exact xr_gtr rfl rfl rfl) rfl rfl rfl rfl rfl c7 ?_
      refine ol_val (v := .bool (decide ((List.length a0 : Int) > 200))) (by exact xr_pickF rfl rfl c7 rfl) rfl rfl rfl ?_
      refine ol_nil ?_
      obtain rfl := Option.some.inj j2
      refine thn_i ?_
      exact ⟨rfl, rfl, q5⟩
  · skip
    rintro ρ8 w9 ⟨e0, e17, q10⟩
    have fB := fB.gr q10
    rcases is h with ⟨c11, h⟩ | ⟨c11, h⟩
    · refine cw_condT e17 c11 ?_
      refine cw_seq ?_
      refine cw_region ?_
      obtain ⟨t12, k13, h⟩ := bs h
      refine ol_op (by exact opv_call rfl cal73 an (rickyardlaw11_awake.ok fu _ _ k13)) rfl rfl rfl ?_
      rintro _ w15 ⟨rfl, q14⟩
      have fB := fB.gr q14
      refine ol_val (v := .bool t12) (by exact xr_assign rfl rfl) rfl rfl rfl ?_
      refine ol_nil ?_
      refine cw_ret ?_
      repeat (first | with_reducible refine thn_r ?_ | with_reducible refine blk_r ?_)
      obtain rfl := Option.some.inj h
      refine fin_ret1 Try.results22 rfl ?_
      exact ⟨_, rfl, rfl, fB⟩
    · refine cw_condF e17 c11 ?_
      refine cw_skip ?_
      refine cw_seq ?_
      refine cw_region ?_
      refine ol_val (v := V0_0) (by exact xr_move rfl e0) rfl rfl rfl ?_
      obtain ⟨t16, k17, h⟩ := bs h
      refine ol_op (by exact opv_call rfl cal77 (ac rfl an) (label_GetQueue.ok fu _ a0 V0_0 (R0_0.gr fB) _ k17)) rfl rfl rfl ?_
      rintro _ w19 ⟨rfl, q18⟩
      have fB := fB.gr q18
      refine ol_val (v := .tuple #[aggV [Seg.cell (sv t16.1.Name), Seg.cell (.int .i64 t16.1.Count), Kd.seg (kA 12 (kI .i64)) t16.1.Roots], .bool t16.2]) (by exact xr_move rfl rfl) rfl rfl rfl ?_
      refine ol_val (v := aggV [Seg.cell (sv t16.1.Name), Seg.cell (.int .i64 t16.1.Count), Kd.seg (kA 12 (kI .i64)) t16.1.Roots]) (by exact xr_extract rfl rfl rfl) rfl rfl rfl ?_
      refine ol_val (v := .bool t16.2) (by exact xr_extract rfl rfl rfl) rfl rfl rfl ?_
      refine ol_op (by exact opv_alloc (ss := [Seg.cell (sv []), Seg.cell (.int .i64 (0 : Int)), Kd.seg (kA 12 (kI .i64)) (Arr.rep 12 (0 : Int))]) rfl ze98 rfl) rfl rfl rfl ?_
      rintro _ w25 ⟨G20, rfl, b21, q22, z23⟩
      have z23 := Nat.le_trans fB.size z23
      have fB := fB.gr q22
      refine ol_op0 (by exact opv_store (ss' := [Seg.cell (sv t16.1.Name), Seg.cell (.int .i64 t16.1.Count), Kd.seg (kA 12 (kI .i64)) t16.1.Roots]) (xs := cellsOf [Seg.cell (sv t16.1.Name), Seg.cell (.int .i64 t16.1.Count), Kd.seg (kA 12 (kI .i64)) t16.1.Roots]) rfl sz98 rfl rfl rfl (len_cellsOf _) (one_cellsOf _) b21 (Spl.segs _ 0 3 [Seg.cell (sv t16.1.Name), Seg.cell (.int .i64 t16.1.Count), Kd.seg (kA 12 (kI .i64)) t16.1.Roots] rfl rfl)) rfl rfl ?_
      rintro _ w27 ⟨b21, q26⟩
      have fB := fB.wr q26 z23
      refine ol_val (v := .bool t16.2) (by exact xr_assign rfl rfl) rfl rfl rfl ?_
      refine ol_nil ?_
      refine cw_seq ?_
      refine cw_region ?_
      refine ol_val (v := V0_0) (by exact xr_move rfl e0) rfl rfl rfl ?_
      obtain ⟨t28, k29, h⟩ := bs h
      refine ol_op (by exact opv_call rfl cal84 (ac rfl an) (rickyardref11_Get.ok fu _ a0 V0_0 (R0_0.gr fB) _ k29)) rfl rfl rfl ?_
      rintro _ w31 ⟨rfl, q30⟩
      have b21 := b21.gr q30
      have fB := fB.gr q30
      refine ol_val (v := .tuple #[aggV [Seg.cell (sv t28.1.Name), Seg.cell (.int .i64 t28.1.Count), Kd.seg (kA 12 (kI .i64)) t28.1.Roots], .bool t28.2]) (by exact xr_move rfl rfl) rfl rfl rfl ?_
      refine ol_val (v := aggV [Seg.cell (sv t28.1.Name), Seg.cell (.int .i64 t28.1.Count), Kd.seg (kA 12 (kI .i64)) t28.1.Roots]) (by exact xr_extract rfl rfl rfl) rfl rfl rfl ?_
      refine ol_val (v := .bool t28.2) (by exact xr_extract rfl rfl rfl) rfl rfl rfl ?_
      refine ol_op (by exact opv_alloc (ss := [Seg.cell (sv []), Seg.cell (.int .i64 (0 : Int)), Kd.seg (kA 12 (kI .i64)) (Arr.rep 12 (0 : Int))]) rfl ze98 rfl) rfl rfl rfl ?_
      rintro _ w37 ⟨G32, rfl, b33, q34, z35⟩
      have n38 := b21.ne z35
      have z35 := Nat.le_trans fB.size z35
      have b21 := b21.gr q34
      have fB := fB.gr q34
      refine ol_op0 (by exact opv_store (ss' := [Seg.cell (sv t28.1.Name), Seg.cell (.int .i64 t28.1.Count), Kd.seg (kA 12 (kI .i64)) t28.1.Roots]) (xs := cellsOf [Seg.cell (sv t28.1.Name), Seg.cell (.int .i64 t28.1.Count), Kd.seg (kA 12 (kI .i64)) t28.1.Roots]) rfl sz98 rfl rfl rfl (len_cellsOf _) (one_cellsOf _) b33 (Spl.segs _ 0 3 [Seg.cell (sv t28.1.Name), Seg.cell (.int .i64 t28.1.Count), Kd.seg (kA 12 (kI .i64)) t28.1.Roots] rfl rfl)) rfl rfl ?_
      rintro _ w40 ⟨b33, q39⟩
      have b21 := b21.wr q39 n38
      have fB := fB.wr q39 z35
      refine ol_val (v := .bool t28.2) (by exact xr_assign rfl rfl) rfl rfl rfl ?_
      refine ol_nil ?_
      refine cw_seq ?_
      refine cw_region ?_
      refine ol_val (v := V0_0) (by exact xr_move rfl e0) rfl rfl rfl ?_
      obtain ⟨t41, k42, h⟩ := bs h
      refine ol_op (by exact opv_call rfl cal82 (ac rfl an) (label_GetDir.ok fu _ a0 V0_0 (R0_0.gr fB) _ k42)) rfl rfl rfl ?_
      rintro _ w47 ⟨u43, o44, rfl, q46⟩
      have o44 := Own.base o44 fB.size
      have b21 := b21.gr q46
      have b33 := b33.gr q46
      have fB := fB.gr q46
      refine ol_val (v := .tuple #[aggV [Seg.cell u43 o44.one], .bool t41.2]) (by exact xr_move rfl rfl) rfl rfl rfl ?_
      refine ol_val (v := aggV [Seg.cell u43 o44.one]) (by exact xr_extract rfl rfl rfl) rfl rfl rfl ?_
      refine ol_val (v := .bool t41.2) (by exact xr_extract rfl rfl rfl) rfl rfl rfl ?_
      refine ol_op (by exact opv_alloc (ss := [Seg.cell (.slice none 0 0) (by rfl)]) rfl ze107 rfl) rfl rfl rfl ?_
      rintro _ w53 ⟨G48, rfl, b49, q50, z51⟩
      have n54 := b21.ne z51
      have n55 := b33.ne z51
      have z51 := Nat.le_trans fB.size z51
      have b21 := b21.gr q50
      have b33 := b33.gr q50
      have o44 := o44.gr q50
      have fB := fB.gr q50
      have f57 := off_ty b49 o44 (by decide)
      refine ol_op0 (by exact opv_store (ss' := [Seg.cell u43 o44.one]) (xs := cellsOf [Seg.cell u43 o44.one]) rfl sz107 rfl rfl rfl (len_cellsOf _) (one_cellsOf _) b49 (Spl.segs _ 0 1 [Seg.cell u43 o44.one] rfl rfl)) rfl rfl ?_
      rintro _ w58 ⟨b49, q56⟩
      have b21 := b21.wr q56 n54
      have b33 := b33.wr q56 n55
      have o44 := o44.wr q56 f57
      have fB := fB.wr q56 z51
      refine ol_val (v := .bool t41.2) (by exact xr_assign rfl rfl) rfl rfl rfl ?_
      refine ol_nil ?_
      refine cw_seq ?_
      refine cw_region ?_
      refine ol_val (v := V0_0) (by exact xr_move rfl e0) rfl rfl rfl ?_
      obtain ⟨t59, k60, h⟩ := bs h
      refine ol_op (by exact opv_call rfl cal85 (ac rfl an) (rickyardref11_GetDir.ok fu _ a0 V0_0 (R0_0.gr fB) _ k60)) rfl rfl rfl ?_
      rintro _ w65 ⟨u61, o62, rfl, q64⟩
      have a66 := OffV.call o44 o62
      have o62 := Own.base o62 fB.size
      have b21 := b21.gr q64
      have b33 := b33.gr q64
      have b49 := b49.gr q64
      have o44 := o44.gr q64
      have fB := fB.gr q64
      refine ol_val (v := .tuple #[u61, .bool t59.2]) (by exact xr_move rfl rfl) rfl rfl rfl ?_
      refine ol_val (v := u61) (by exact xr_extract rfl rfl rfl) rfl rfl rfl ?_
      refine ol_val (v := .bool t59.2) (by exact xr_extract rfl rfl rfl) rfl rfl rfl ?_
      refine ol_val (v := u61) (by exact xr_assign rfl rfl) rfl rfl rfl ?_
      refine ol_val (v := .bool t59.2) (by exact xr_assign rfl rfl) rfl rfl rfl ?_
      refine ol_nil ?_
      refine cw_seq ?_
      obtain ⟨x67, j68, h⟩ := bs h
      refine cw_mid (fun ρ' w' => ρ' 2 = .bool x67 ∧ Gr w65 w') ?_ ?_
      · skip
        refine cw_region ?_
        refine ol_val (v := .bool t16.2) (by exact xr_move rfl rfl) rfl rfl rfl ?_
        refine ol_val (v := .bool t28.2) (by exact xr_move rfl rfl) rfl rfl rfl ?_
        refine ol_val (v := .bool (decide (t16.2 = t28.2))) (by exact xr_eqB rfl Try.underlying4 rfl rfl) rfl rfl rfl ?_
        refine ol_val (v := .bool (decide (t16.2 = t28.2))) (by exact xr_move rfl rfl) rfl rfl rfl ?_
        rcases is j68 with ⟨c69, j68⟩ | ⟨c69, j68⟩
        · skip
          refine ol_gval (v := aggV [Seg.cell (sv t16.1.Name), Seg.cell (.int .i64 t16.1.Count), Kd.seg (kA 12 (kI .i64)) t16.1.Roots]) (by exact xr_loadS (ss := [Seg.cell (sv t16.1.Name), Seg.cell (.int .i64 t16.1.Count), Kd.seg (kA 12 (kI .i64)) t16.1.Roots]) rfl ag98 sz98 rfl rfl (b21.segs 0 3 rfl)) rfl rfl rfl rfl rfl c69 ?_
          refine ol_gval (v := aggV [Seg.cell (sv t28.1.Name), Seg.cell (.int .i64 t28.1.Count), Kd.seg (kA 12 (kI .i64)) t28.1.Roots]) (by exact xr_loadS (ss := [Seg.cell (sv t28.1.Name), Seg.cell (.int .i64 t28.1.Count), Kd.seg (kA 12 (kI .i64)) t28.1.Roots]) rfl ag98 sz98 rfl rfl (b33.segs 0 3 rfl)) rfl rfl rfl rfl rfl c69 ?_
          refine ol_gval (v := .bool (decide (t16.1 = t28.1))) (by exact xr_eqA (a := t16.1) (b := t28.1) rfl eqa98 rfl Try.eqGuardType97 rfl rfl rfl rfl) rfl rfl rfl rfl rfl c69 ?_
          refine ol_val (v := .bool (decide (t16.1 = t28.1))) (by exact xr_pickT rfl rfl c69 rfl) rfl rfl rfl ?_
          refine ol_val (v := .bool (decide (t16.1 = t28.1))) (by exact xr_move rfl rfl) rfl rfl rfl ?_
          rcases is j68 with ⟨c70, j68⟩ | ⟨c70, j68⟩
          · skip
            refine ol_gval (v := .bool t41.2) (by exact xr_move rfl rfl) rfl rfl rfl rfl rfl c70 ?_
            refine ol_gval (v := .bool t59.2) (by exact xr_move rfl rfl) rfl rfl rfl rfl rfl c70 ?_
            refine ol_gval (v := .bool (decide (t41.2 = t59.2))) (by exact xr_eqB rfl Try.underlying4 rfl rfl) rfl rfl rfl rfl rfl c70 ?_
            refine ol_val (v := .bool (decide (t41.2 = t59.2))) (by exact xr_pickT rfl rfl c70 rfl) rfl rfl rfl ?_
            refine ol_val (v := .bool (decide (t41.2 = t59.2))) (by exact xr_move rfl rfl) rfl rfl rfl ?_
            rcases is j68 with ⟨c71, j68⟩ | ⟨c71, j68⟩
            · skip
              refine ol_gval (v := .pointer (some ⟨G48, 0, none⟩)) (by exact xr_fieldAddr (p := 0) (q := 0) rfl fl107_0 rfl) rfl rfl rfl rfl rfl c71 ?_
              refine ol_gval (v := u43) (by exact xr_load1 (v := u43) rfl ag45 rfl (b49.seg 0 rfl rfl)) rfl rfl rfl rfl rfl c71 ?_
              refine ol_gval (v := u61) (by exact xr_move rfl rfl) rfl rfl rfl rfl rfl c71 ?_
              obtain ⟨t72, k73, j68⟩ := bs j68
              refine ol_gop (by exact opv_call rfl cal66 (ac rfl (ac rfl an)) (rickyardref01_Ints.ok fu _ t41.1.Queues u43 (o44.rd) t59.1 u61 (o62.rd) _ k73)) rfl rfl rfl rfl rfl c71 ?_
              rintro _ w75 ⟨rfl, q74⟩
              have fB := fB.gr q74
              refine ol_val (v := .bool t72) (by exact xr_pickT rfl rfl c71 rfl) rfl rfl rfl ?_
              refine ol_val (v := .bool t72) (by exact xr_assign rfl rfl) rfl rfl rfl ?_
              refine ol_nil ?_
              obtain rfl := Option.some.inj j68
              refine thn_i ?_
              exact ⟨rfl, q74⟩
            · skip
              refine ol_gskip rfl rfl rfl rfl rfl c71 ?_
              refine ol_gskip rfl rfl rfl rfl rfl c71 ?_
              refine ol_gskip rfl rfl rfl rfl rfl c71 ?_
              refine ol_gskip rfl rfl rfl rfl rfl c71 ?_
              refine ol_val (v := .bool false) (by exact xr_pickF rfl rfl c71 rfl) rfl rfl rfl ?_
              refine ol_val (v := .bool false) (by exact xr_assign rfl rfl) rfl rfl rfl ?_
              refine ol_nil ?_
              obtain rfl := Option.some.inj j68
              refine thn_i ?_
              exact ⟨rfl, Fr.refl _ _⟩
          · skip
            refine ol_gskip rfl rfl rfl rfl rfl c70 ?_
            refine ol_gskip rfl rfl rfl rfl rfl c70 ?_
            refine ol_gskip rfl rfl rfl rfl rfl c70 ?_
            refine ol_val (v := .bool false) (by exact xr_pickF rfl rfl c70 rfl) rfl rfl rfl ?_
            refine ol_val (v := .bool false) (by exact xr_move rfl rfl) rfl rfl rfl ?_
            refine ol_gskip rfl rfl rfl rfl rfl rfl ?_
            refine ol_gskip rfl rfl rfl rfl rfl rfl ?_
            refine ol_gskip rfl rfl rfl rfl rfl rfl ?_
            refine ol_gskip rfl rfl rfl rfl rfl rfl ?_
            refine ol_val (v := .bool false) (by exact xr_pickF rfl rfl rfl rfl) rfl rfl rfl ?_
            refine ol_val (v := .bool false) (by exact xr_assign rfl rfl) rfl rfl rfl ?_
            refine ol_nil ?_
            obtain rfl := Option.some.inj j68
            refine thn_i ?_
            exact ⟨rfl, Fr.refl _ _⟩
        · skip
          refine ol_gskip rfl rfl rfl rfl rfl c69 ?_
          refine ol_gskip rfl rfl rfl rfl rfl c69 ?_
          refine ol_gskip rfl rfl rfl rfl rfl c69 ?_
          refine ol_val (v := .bool false) (by exact xr_pickF rfl rfl c69 rfl) rfl rfl rfl ?_
          refine ol_val (v := .bool false) (by exact xr_move rfl rfl) rfl rfl rfl ?_
          refine ol_gskip rfl rfl rfl rfl rfl rfl ?_
          refine ol_gskip rfl rfl rfl rfl rfl rfl ?_
          refine ol_gskip rfl rfl rfl rfl rfl rfl ?_
          refine ol_val (v := .bool false) (by exact xr_pickF rfl rfl rfl rfl) rfl rfl rfl ?_
          refine ol_val (v := .bool false) (by exact xr_move rfl rfl) rfl rfl rfl ?_
          refine ol_gskip rfl rfl rfl rfl rfl rfl ?_
          refine ol_gskip rfl rfl rfl rfl rfl rfl ?_
          refine ol_gskip rfl rfl rfl rfl rfl rfl ?_
          refine ol_gskip rfl rfl rfl rfl rfl rfl ?_
          refine ol_val (v := .bool false) (by exact xr_pickF rfl rfl rfl rfl) rfl rfl rfl ?_
          refine ol_val (v := .bool false) (by exact xr_assign rfl rfl) rfl rfl rfl ?_
          refine ol_nil ?_
          obtain rfl := Option.some.inj j68
          refine thn_i ?_
          exact ⟨rfl, Fr.refl _ _⟩
      · skip
        rintro ρ76 w77 ⟨e2, q78⟩
        have fB := fB.gr q78
        refine cw_ret ?_
        repeat (first | with_reducible refine thn_r ?_ | with_reducible refine blk_r ?_)
        obtain rfl := Option.some.inj h
        refine fin_ret1 Try.results22 e2 ?_
        exact ⟨_, rfl, rfl, fB⟩
end Go.Proofs.Ytjhajfkfhdnciaa

/- What a row's arguments are: the readings of arguments opened into records, lists and their facts. -/
set_option linter.unusedVariables false
set_option linter.unusedSimpArgs false
namespace Go.Xw
open Go
variable {P : Program} {w : World}
def Opn {α : Type} (P : Program) (w : World) (T : TypeId) (K : Kd α) (ok : α → Prop) : Prop :=
  ∀ {H : Type} (enc : TypeId × Value → H) (base : Nat) (sp : Nat → Bool) (held : Bool) (fuel : Nat) (cs : List Value) (x : DataW H × List MemPlace), DataW.trod enc P w base sp held fuel T cs = some x → ∃ a : α, cs = K.enc a ∧ ok a
theorem opn_int {T : TypeId} {k : IntKind} (ht : P.underlying T = some (.int k)) : Opn P w T (kI k) (fun n => (Lit.int k n).wf = true) := by
  intro H enc base sp held fuel cs x h
  obtain ⟨n, rfl, _, hw⟩ := DataW.trod_int ht h
  exact ⟨n, rfl, hw⟩
theorem opn_bool {T : TypeId} (ht : P.underlying T = some .bool) : Opn P w T kB (fun _ => True) := by
  intro H enc base sp held fuel cs x h
  obtain ⟨b, rfl, _⟩ := DataW.trod_bool ht h
  exact ⟨b, rfl, trivial⟩
theorem opn_str {T : TypeId} (ht : P.underlying T = some .string) : Opn P w T kS (fun l => l.length ≤ maxLen) := by
  intro H enc base sp held fuel cs x h
  obtain ⟨⟨⟨l⟩⟩, rfl, _, hs⟩ := DataW.trod_string ht h
  exact ⟨l, rfl, by simpa [ByteArray.size] using hs⟩
theorem chunks {α : Type} (K : Kd α) (ok : α → Prop) : ∀ (n : Nat) (cs : List Value), cs.length = n * K.size → (∀ i, i < n → ∃ a, (cs.drop (i * K.size)).take K.size = K.enc a ∧ ok a) → ∃ l : List α, l.length = n ∧ cs = l.flatMap K.enc ∧ ∀ a ∈ l, ok a
  | 0, cs, hl, _ => ⟨[], rfl, by simpa using hl, by simp⟩
  | n + 1, cs, hl, h => by
    obtain ⟨a, ha, hok⟩ := h 0 (by omega)
    rw [Nat.zero_mul, List.drop_zero] at ha
    have hl' : cs.length = n * K.size + K.size := by rw [hl, Nat.succ_mul]
    obtain ⟨l, h1, h2, h3⟩ := chunks K ok n (cs.drop K.size) (by rw [List.length_drop]; omega) (fun i hi => by
      have := h (i + 1) (by omega)
      rw [List.drop_drop, Nat.add_comm, ← Nat.succ_mul]
      exact this)
    refine ⟨a :: l, by simp [h1], ?_, ?_⟩
    · rw [List.flatMap_cons, ← h2, ← ha, List.take_append_drop]
    · intro b hb
      rcases List.mem_cons.1 hb with rfl | hb
      · exact hok
      · exact h3 b hb
theorem ms_len {α β : Type} {f : α → Option β} : ∀ {l : List α} {ys : List β}, l.mapM f = some ys → ys.length = l.length
  | [], ys, h => by simp at h; subst h; rfl
  | a :: l, ys, h => by
    rw [List.mapM_cons] at h
    obtain ⟨b, _, h⟩ := Option.bind_eq_some_iff.1 h
    obtain ⟨bs, hb, h⟩ := Option.bind_eq_some_iff.1 h
    simp at h
    subst h
    simp [ms_len hb]
theorem ms_get {α β : Type} {f : α → Option β} : ∀ {l : List α} {ys : List β}, l.mapM f = some ys → ∀ (i : Nat) (a : α), l[i]? = some a → ∃ y, ys[i]? = some y ∧ f a = some y
  | [], ys, h, i, a, ha => by simp at ha
  | b :: l, ys, h, i, a, ha => by
    rw [List.mapM_cons] at h
    obtain ⟨c, hc, h⟩ := Option.bind_eq_some_iff.1 h
    obtain ⟨bs, hb, h⟩ := Option.bind_eq_some_iff.1 h
    simp at h
    subst h
    cases i with
    | zero =>
      simp at ha
      subst ha
      exact ⟨c, rfl, hc⟩
    | succ i =>
      simp at ha
      obtain ⟨y, h1, h2⟩ := ms_get hb i a ha
      exact ⟨y, by simpa using h1, h2⟩
theorem trod_arr {H : Type} {enc : TypeId × Value → H} {base : Nat} {sp : Nat → Bool} {held : Bool} {fuel : Nat} {T e : TypeId} {n : Nat} {cs : List Value} {x : DataW H × List MemPlace} (ht : P.underlying T = some (.array n e)) (h : DataW.trod enc P w base sp held fuel T cs = some x) :
    cs.length = P.cellsOf T ∧ ∃ m, ∀ i, i < n → ∃ y, DataW.trod enc P w base sp held m e ((cs.drop (i * P.cellsOf e)).take (P.cellsOf e)) = some y := by
  cases fuel with
  | zero => simp [DataW.trod] at h
  | succ m =>
    unfold DataW.trod at h
    rw [ht] at h
    simp only at h
    split at h
    · rename_i hl
      refine ⟨hl, m, fun i hi => ?_⟩
      obtain ⟨xs, hx, _⟩ := Option.map_eq_some_iff.1 h
      obtain ⟨y, _, hy⟩ := ms_get hx i i (by simp [hi])
      exact ⟨y, hy⟩
    · cases h
theorem opn_arr {α : Type} {K : Kd α} {ok : α → Prop} {T e : TypeId} {n : Nat} (ht : P.underlying T = some (.array n e)) (hc : P.cellsOf T = n * P.cellsOf e) (he : P.cellsOf e = K.size) (ho : Opn P w e K ok) : Opn P w T (kA n K) (fun a => ∀ x ∈ a.l, ok x) := by
  intro H enc base sp held fuel cs x h
  obtain ⟨hl, m, hm⟩ := trod_arr ht h
  obtain ⟨l, h1, h2, h3⟩ := chunks K ok n cs (by rw [hl, hc, he]) (fun i hi => by
    obtain ⟨y, hy⟩ := hm i hi
    obtain ⟨a, ha⟩ := ho enc base sp held m _ y hy
    rw [he] at ha
    exact ⟨a, ha⟩)
  exact ⟨⟨l, h1⟩, h2, h3⟩
/-- The fields of a struct, one behind another. -/
theorem fld_cons {cs : List Value} {o n : Nat} {c r : List Value} (h : (cs.drop o).take n = c) (hr : cs.drop (o + n) = r) : cs.drop o = c ++ r := by
  rw [← h, ← hr, ← List.drop_drop, List.take_append_drop]
theorem trod_st {H : Type} {enc : TypeId × Value → H} {base : Nat} {sp : Nat → Bool} {held : Bool} {fuel : Nat} {T : TypeId} {fs : Array Field} {cs : List Value} {x : DataW H × List MemPlace} (ht : P.underlying T = some (.struct fs)) (h : DataW.trod enc P w base sp held fuel T cs = some x) :
    cs.length = P.cellsOf T ∧ ∃ m, ∀ (i : Nat) (f : Field), fs[i]? = some f → ∃ y, DataW.trod enc P w base sp held m f.type ((cs.drop f.offset).take (P.cellsOf f.type)) = some y := by
  obtain ⟨xs, m, _, _, hl, hn, hf⟩ := DataW.trod_struct ht h
  refine ⟨hl, m, fun i f hi => ?_⟩
  have hx : i < xs.length := by rw [hn]; exact (Array.getElem?_eq_some_iff.1 hi).1
  exact ⟨xs[i], by rw [hf i f hi, List.getElem?_eq_getElem hx]⟩
/-- Slices: a cell that reads as a list. -/
def OpnS {α : Type} (P : Program) (w : World) (T : TypeId) (K : Kd α) (ok : α → Prop) : Prop :=
  ∀ {H : Type} (enc : TypeId × Value → H) (base : Nat) (sp : Nat → Bool) (held : Bool) (fuel : Nat) (cs : List Value) (x : DataW H × List MemPlace), DataW.trod enc P w base sp held fuel T cs = some x → ∃ (l : List α) (V : Value), cs = [V] ∧ Rd K w V l ∧ (∀ a ∈ l, ok a) ∧ l.length ≤ maxLen ∧ (sb V < w.heap.size ∨ l = [])
theorem cells_get {base : Nat} {a : Addr} {n : Nat} {cs : List Value} (h : w.cells? base a n = some cs) : cs.length = n ∧ ∀ j, j < n → w.cell? (a.add j) = cs[j]? := by
  unfold World.cells? at h
  split at h
  · refine ⟨by simpa using ms_len h, fun j hj => ?_⟩
    obtain ⟨y, h1, h2⟩ := ms_get h j j (by simp [hj])
    rw [h1, h2]
  · cases h
theorem opn_slice {α : Type} {K : Kd α} {ok : α → Prop} {T e : TypeId} (ht : P.underlying T = some (.slice e)) (he : P.cellsOf e = K.size) (hk : 0 < K.size) (ho : Opn P w e K ok) : OpnS P w T K ok := by
  intro H enc base sp held fuel cs x h
  rcases DataW.trod_slice ht h with ⟨rfl, _⟩ | ⟨a, len, cap, elems, rest, n, rfl, rfl, _, _, hl, hm, hlen, hel, _, _⟩
  · exact ⟨[], _, rfl, Rd.nil K w, by simp, by simp, .inr rfl⟩
  · have hex : ∀ i, i < len → ∃ b, (∀ j z, (K.enc b)[j]? = some z → w.cell? (a.add (i * K.size + j)) = some z) ∧ ok b := by
      intro i hi
      have h1 := hel i hi
      rw [List.getElem?_eq_getElem (by omega)] at h1
      obtain ⟨cs, h2, h3⟩ := Option.bind_eq_some_iff.1 h1
      obtain ⟨b, rfl, hb⟩ := ho enc base sp held n cs _ h3
      obtain ⟨h4, h5⟩ := cells_get h2
      rw [he] at h4 h5
      refine ⟨b, fun j z hz => ?_, hb⟩
      have hj : j < K.size := by rw [← h4]; exact (List.getElem?_eq_some_iff.1 hz).1
      have := h5 j hj
      rw [hz] at this
      rw [← this]
      congr 1
      unfold Addr.add
      by_cases hi0 : i * K.size = 0
      · by_cases hj0 : j = 0
        · simp [hi0, hj0]
        · simp [hi0, hj0]
      · by_cases hj0 : j = 0
        · simp [hi0, hj0]
        · have : i * K.size + j ≠ 0 := by omega
          simp [hi0, hj0, this, Nat.add_assoc]
    have hlist : ∀ m, m ≤ len → ∃ l : List α, l.length = m ∧ (∀ b ∈ l, ok b) ∧ ∀ j z, (l.flatMap K.enc)[j]? = some z → w.cell? (a.add j) = some z := by
      intro m
      induction m with
      | zero => intro _; exact ⟨[], rfl, by simp, by simp⟩
      | succ m ih =>
        intro hm
        obtain ⟨l, h1, h2, h3⟩ := ih (by omega)
        obtain ⟨b, h4, h5⟩ := hex m (by omega)
        refine ⟨l ++ [b], by simp [h1], ?_, ?_⟩
        · intro c hc
          rcases List.mem_append.1 hc with hc | hc
          · exact h2 c hc
          · obtain rfl := List.mem_singleton.1 hc
            exact h5
        · intro j z hz
          have hL : (l.flatMap K.enc).length = m * K.size := by rw [len_flat, h1]
          simp only [List.flatMap_append, List.flatMap_cons, List.flatMap_nil, List.append_nil] at hz
          by_cases hj : j < m * K.size
          · rw [List.getElem?_append_left (by omega)] at hz
            exact h3 j z hz
          · rw [List.getElem?_append_right (by omega), hL] at hz
            have := h4 (j - m * K.size) z hz
            rwa [show m * K.size + (j - m * K.size) = j from by omega] at this
    obtain ⟨l, h1, h2, h3⟩ := hlist len (Nat.le_refl _)
    have hpos : 0 < l.length → ∃ z, w.cell? a = some z := by
      intro hp
      cases l with
      | nil => simp at hp
      | cons b l =>
        have hb : (K.enc b).length = K.size := K.len b
        have : ∃ z, ((b :: l).flatMap K.enc)[0]? = some z := ⟨_, List.getElem?_eq_getElem (by simp [List.flatMap_cons, hb]; omega)⟩
        obtain ⟨z, hz⟩ := this
        have := h3 0 z hz
        exact ⟨z, by simpa [Addr.add] using this⟩
    refine ⟨l, _, rfl, ⟨some a, cap, by rw [h1], by omega, fun hp => ?_⟩, h2, by omega, ?_⟩
    · obtain ⟨z, hz⟩ := hpos hp
      obtain ⟨b, o, s⟩ := a
      have hs : s = none := by
        unfold World.cell? at hz
        split at hz
        · cases s with
          | none => rfl
          | some _ => simp at hz
        · cases hz
      subst hs
      refine ⟨b, o, rfl, fun j v hv => ?_⟩
      have := h3 j v hv
      rwa [Addr.add_lit] at this
    · rcases Nat.eq_zero_or_pos l.length with h0 | hp
      · exact .inr (List.eq_nil_of_length_eq_zero h0)
      · obtain ⟨z, hz⟩ := hpos hp
        refine .inl ?_
        unfold World.cell? at hz
        split at hz
        · rename_i hh
          exact (Array.getElem?_eq_some_iff.1 hh).1
        · cases hz
theorem agg_of {T : TypeId} {v : Value} {cs : List Value} {base : Nat} (h : aggB P T = some true) (hv : Value.okWide P w .any base T v) (hc : v.cells.toList = cs) : v = .agg cs.toArray := by
  unfold aggB at h
  obtain ⟨d, hu, hd⟩ := Option.map_eq_some_iff.1 h
  unfold Value.okWide at hv
  rw [hu] at hv
  cases d <;> simp at hd <;> (obtain ⟨c2, rfl, _⟩ := hv; subst hc; simp [Value.cells])
end Go.Xw

/- What the laws' arguments open into: written by rows.py. -/
set_option linter.unusedVariables false
set_option linter.unusedSimpArgs false
namespace Go.Proofs.Ytjhajfkfhdnciaa
open Go Go.Xw
def ok_api_Queue (a : S_api_Queue) : Prop := List.length a.Name ≤ maxLen ∧ (Lit.int .i64 a.Count).wf = true ∧ (∀ x ∈ a.Roots.l, (Lit.int .i64 x).wf = true)
theorem opn_api_Queue {w : World} : Opn Try.prog w 98 k_api_Queue ok_api_Queue := by
  intro H enc base sp held fuel cs x h
  obtain ⟨hl, m, hf⟩ := trod_st Try.underlying98 h
  obtain ⟨y0, h0⟩ := hf 0 _ rfl
  have c0 : Try.prog.cellsOf 9 = 1 := by kernel_rfl
  obtain ⟨b0, e0, o0⟩ := (opn_str Try.underlying9) enc base sp held m _ y0 h0
  have e0 : (cs.drop 0).take 1 = kS.enc b0 := (congrArg (fun n => (cs.drop 0).take n) c0).symm.trans e0
  obtain ⟨y1, h1⟩ := hf 1 _ rfl
  have c1 : Try.prog.cellsOf 3 = 1 := by kernel_rfl
  obtain ⟨b1, e1, o1⟩ := (opn_int Try.underlying3) enc base sp held m _ y1 h1
  have e1 : (cs.drop 1).take 1 = (kI .i64).enc b1 := (congrArg (fun n => (cs.drop 1).take n) c1).symm.trans e1
  obtain ⟨y2, h2⟩ := hf 2 _ rfl
  have c2 : Try.prog.cellsOf 96 = 12 := by kernel_rfl
  obtain ⟨b2, e2, o2⟩ := (opn_arr Try.underlying96 (by kernel_rfl) (by kernel_rfl) (opn_int Try.underlying3)) enc base sp held m _ y2 h2
  have e2 : (cs.drop 2).take 12 = (kA 12 (kI .i64)).enc b2 := (congrArg (fun n => (cs.drop 2).take n) c2).symm.trans e2
  have hn : cs.drop 14 = [] := List.drop_eq_nil_of_le (by rw [hl]; exact Nat.le_of_eq (by kernel_rfl))
  have hc : cs = kS.enc b0 ++ ((kI .i64).enc b1 ++ ((kA 12 (kI .i64)).enc b2 ++ [])) := (fld_cons (o := 0) (n := 1) e0 (fld_cons (o := 1) (n := 1) e1 (fld_cons (o := 2) (n := 12) e2 hn)))
  refine ⟨⟨b0, b1, b2⟩, ?_, o0, o1, o2⟩
  rw [hc]
  simp [kA, kI, kB, kS, kT, cellsOf, Seg.cell, Kd.seg, k_api_Queue, segs_api_Queue]
def ok_api_Dir (a : S_api_Dir) : Prop := ((∀ x ∈ a.Queues, (Lit.int .i64 x).wf = true) ∧ List.length a.Queues ≤ maxLen)
theorem opn_api_Dir {w : World} {H : Type} (enc : TypeId × Value → H) (base : Nat) (sp : Nat → Bool) (held : Bool) (fuel : Nat) (cs : List Value) (x : DataW H × List MemPlace) (h : DataW.trod enc Try.prog w base sp held fuel 107 cs = some x) : ∃ a : S_api_Dir, ∃ V0 : Value, ∃ R0 : Rd (kI .i64) w V0 a.Queues, cs = cellsOf [Seg.cell V0 R0.one] ∧ ok_api_Dir a := by
  obtain ⟨hl, m, hf⟩ := trod_st Try.underlying107 h
  obtain ⟨y0, h0⟩ := hf 0 _ rfl
  have c0 : Try.prog.cellsOf 45 = 1 := by kernel_rfl
  obtain ⟨b0, W0, e0, r0, o0, l0, _⟩ := (opn_slice (K := (kI .i64)) Try.underlying45 (by kernel_rfl) (by decide) (opn_int Try.underlying3)) enc base sp held m _ y0 h0
  have e0 : (cs.drop 0).take 1 = [W0] := (congrArg (fun n => (cs.drop 0).take n) c0).symm.trans e0
  have hn : cs.drop 1 = [] := List.drop_eq_nil_of_le (by rw [hl]; exact Nat.le_of_eq (by kernel_rfl))
  have hc : cs = [W0] ++ [] := (fld_cons (o := 0) (n := 1) e0 hn)
  refine ⟨⟨b0⟩, W0, r0, ?_, ⟨o0, l0⟩⟩
  rw [hc]
  simp [kA, kI, kB, kS, kT, cellsOf, Seg.cell, Kd.seg, k_api_Queue, segs_api_Queue]
end Go.Proofs.Ytjhajfkfhdnciaa

/- Plain words on the models: rounds, numbers that fit, lists. -/
set_option linter.unusedVariables false
set_option linter.unusedSimpArgs false
namespace Go.Xw
open Go
theorem w64 {n : Int} (h1 : -9223372036854775808 ≤ n) (h2 : n ≤ 9223372036854775807) : IntKind.i64.wrap n = n := by
  unfold IntKind.wrap
  simp only [IntKind.signed, IntKind.bits]
  simp
  split <;> omega
theorem wu8 {n : Int} (h1 : 0 ≤ n) (h2 : n ≤ 255) : IntKind.u8.wrap n = n := by
  unfold IntKind.wrap
  simp only [IntKind.signed, IntKind.bits]
  simp
  omega
theorem wu64 {n : Int} (h1 : 0 ≤ n) (h2 : n ≤ 18446744073709551615) : IntKind.u64.wrap n = n := by
  unfold IntKind.wrap
  simp only [IntKind.signed, IntKind.bits]
  simp
  omega
theorem wu32 {n : Int} (h1 : 0 ≤ n) (h2 : n ≤ 4294967295) : IntKind.u32.wrap n = n := by
  unfold IntKind.wrap
  simp only [IntKind.signed, IntKind.bits]
  simp
  omega
theorem wf64 {n : Int} : (Lit.int .i64 n).wf = true ↔ -9223372036854775808 ≤ n ∧ n ≤ 9223372036854775807 := by
  simp only [Lit.wf, IntKind.min, IntKind.max, IntKind.signed, IntKind.bits, Bool.and_eq_true, decide_eq_true_eq]
  simp
theorem wfu64 {n : Int} : (Lit.int .u64 n).wf = true ↔ 0 ≤ n ∧ n ≤ 18446744073709551615 := by
  simp only [Lit.wf, IntKind.min, IntKind.max, IntKind.signed, IntKind.bits, Bool.and_eq_true, decide_eq_true_eq]
  simp
theorem wf8 {n : Int} : (Lit.int .u8 n).wf = true ↔ 0 ≤ n ∧ n ≤ 255 := by
  simp only [Lit.wf, IntKind.min, IntKind.max, IntKind.signed, IntKind.bits, Bool.and_eq_true, decide_eq_true_eq]
  simp
theorem loopM_from {σ ε : Type} {step : σ → Option (Sum ε σ)} (S : Nat → σ) (n : Nat) (e : ε) (h : ∀ j, j < n → step (S j) = some (.inr (S (j + 1)))) (he : step (S n) = some (.inl e)) : ∀ k m, m ≤ n → n - m < k → loopM step k (S m) = some e
  | 0, m, _, hk => by omega
  | k + 1, m, hm, hk => by
    unfold loopM
    by_cases e1 : m = n
    · subst e1
      rw [he]
    · rw [h m (by omega)]
      exact loopM_from S n e h he k (m + 1) (by omega) (by omega)
theorem loopM_run {σ ε : Type} {step : σ → Option (Sum ε σ)} (S : Nat → σ) (n : Nat) {e : ε} {k : Nat} {s : σ} (hs : S 0 = s) (h : ∀ j, j < n → step (S j) = some (.inr (S (j + 1)))) (he : step (S n) = some (.inl e)) (hk : n < k) : loopM step k s = some e := by
  subst hs
  exact loopM_from S n e h he k 0 (by omega) (by omega)
theorem loopM_bad {σ ε : Type} {step : σ → Option (Sum ε σ)} (S : Nat → σ) (N : Nat) (good : Nat → Prop) {e : ε} {k : Nat} {s : σ} (hs : S 0 = s) (hex : ∃ j, j < N ∧ ¬ good j)
    (h : ∀ j, j < N → (∀ i, i < j → good i) → good j → step (S j) = some (.inr (S (j + 1)))) (hb : ∀ j, j < N → (∀ i, i < j → good i) → ¬ good j → step (S j) = some (.inl e)) (hk : N < k) : loopM step k s = some e := by
  have hmin : ∀ m j, j ≤ m → (j < N ∧ ¬ good j) → ∃ n, (n < N ∧ ¬ good n) ∧ ∀ i, i < n → good i := by
    intro m
    induction m with
    | zero =>
      intro j hj hjj
      exact ⟨j, hjj, fun i hi => by omega⟩
    | succ m ih =>
      intro j hj hjj
      by_cases hx : ∃ i, i < j ∧ ¬ good i
      · obtain ⟨i, hi, hgi⟩ := hx
        exact ih i (by omega) ⟨by omega, hgi⟩
      · exact ⟨j, hjj, fun i hi => Classical.byContradiction fun hg => hx ⟨i, hi, hg⟩⟩
  obtain ⟨j, hj⟩ := hex
  obtain ⟨n, ⟨hn, hg⟩, hall⟩ := hmin j j (Nat.le_refl _) hj
  exact loopM_run S n hs (fun i hi => h i (by omega) (fun q hq => hall q (by omega)) (hall i hi)) (hb n hn hall hg) (by omega)
end Go.Xw

/- Sums in plain words: steps of one bit over words of 32 bits; the program's halves of octets and the document's single steps tell the same. -/
set_option linter.unusedVariables false
set_option linter.unusedSimpArgs false
namespace Go.Proofs.Ytjhajfkfhdnciaa.Pure
open Go Go.Xw
def I32 (x : BitVec 32) : Int := (x.toNat : Int)
theorem I32_lt (x : BitVec 32) : 0 ≤ I32 x ∧ I32 x ≤ 4294967295 := by
  unfold I32
  have := x.isLt
  omega
theorem ofI (x : BitVec 32) : BitVec.ofInt 32 (I32 x) = x := by
  unfold I32
  rw [BitVec.ofInt_natCast, BitVec.ofNat_toNat, BitVec.setWidth_eq]
theorem I32_of {n : Int} (h0 : 0 ≤ n) (h1 : n ≤ 4294967295) : n = I32 (BitVec.ofNat 32 n.toNat) := by
  unfold I32
  rw [BitVec.toNat_ofNat, Nat.mod_eq_of_lt (by omega)]
  omega
theorem wI32 (x : BitVec 32) : IntKind.u32.wrap (I32 x) = I32 x := wu32 (I32_lt x).1 (I32_lt x).2
theorem bx32 (x y : BitVec 32) : bXor .u32 (I32 x) (I32 y) = I32 (x ^^^ y) := by
  unfold bXor
  show IntKind.u32.wrap (((BitVec.ofInt 32 (I32 x) ^^^ BitVec.ofInt 32 (I32 y)).toNat : Nat) : Int) = _
  rw [ofI, ofI]
  exact wI32 _
theorem ba32 (x y : BitVec 32) : bAnd .u32 (I32 x) (I32 y) = I32 (x &&& y) := by
  unfold bAnd
  show IntKind.u32.wrap (((BitVec.ofInt 32 (I32 x) &&& BitVec.ofInt 32 (I32 y)).toNat : Nat) : Int) = _
  rw [ofI, ofI]
  exact wI32 _
theorem sr32 (x : BitVec 32) (n : Nat) (hn : n ≤ 32) : shR .u32 (I32 x) (n : Int) = I32 (x >>> n) := by
  unfold shR I32
  rw [BitVec.toNat_ushiftRight, Nat.shiftRight_eq_div_pow]
  show Int.fdiv (x.toNat : Int) (2 ^ min ((n : Int).toNat) 32) = _
  rw [Int.toNat_natCast, Nat.min_eq_left hn, Int.fdiv_eq_ediv_of_nonneg _ (Int.le_of_lt (Int.pow_pos (by decide)))]
  simp
def poly : BitVec 32 := 2197175160#32
def stp (x : BitVec 32) : BitVec 32 := (x >>> 1) ^^^ (if x.getLsbD 0 then poly else 0#32)
theorem lsb_and (x : BitVec 32) : (I32 (x &&& 1#32) = 1) ↔ x.getLsbD 0 = true := by
  unfold I32
  rw [BitVec.toNat_and]
  show ((x.toNat &&& 1 : Nat) : Int) = 1 ↔ x.toNat.testBit 0 = true
  rw [Nat.and_one_is_mod, Nat.testBit_zero]
  simp
  omega
theorem step_eq (fu : Nat) (x : BitVec 32) : crc_step.f fu (I32 x) = some (I32 (stp x)) := by
  unfold crc_step.f stp
  have e1 : bAnd .u32 (I32 x) 1 = I32 (x &&& 1#32) := ba32 x 1#32
  have e2 : shR .u32 (I32 x) 1 = I32 (x >>> 1) := sr32 x 1 (by decide)
  have e3 : bXor .u32 (I32 (x >>> 1)) 2197175160 = I32 (x >>> 1 ^^^ poly) := bx32 (x >>> 1) poly
  rw [e1, e2, e3]
  by_cases h : x.getLsbD 0 = true
  · rw [if_pos (by simpa using (lsb_and x).2 h), if_pos h]
  · rw [if_neg (by simpa using fun e => h ((lsb_and x).1 e)), if_neg h]
    simp
theorem rstep_eq (fu : Nat) (x : BitVec 32) : rickyardref02_Step.f fu (I32 x) = some (I32 (stp x)) := by
  unfold rickyardref02_Step.f stp
  have hb := I32_lt x
  have e1 : Int.tmod (I32 x) 2 = I32 (x &&& 1#32) := by
    rw [Int.tmod_eq_emod_of_nonneg hb.1]
    unfold I32
    rw [BitVec.toNat_and]
    show ((x.toNat : Int)) % 2 = ((x.toNat &&& 1 : Nat) : Int)
    rw [Nat.and_one_is_mod]
    omega
  have e2 : Int.tdiv (I32 x) 2 = I32 (x >>> 1) := by
    rw [Int.tdiv_eq_ediv_of_nonneg hb.1]
    unfold I32
    rw [BitVec.toNat_ushiftRight, Nat.shiftRight_eq_div_pow]
    omega
  have e3 : bXor .u32 (I32 (x >>> 1)) 2197175160 = I32 (x >>> 1 ^^^ poly) := bx32 (x >>> 1) poly
  rw [e1, e2, wI32, e3]
  by_cases h : x.getLsbD 0 = true
  · rw [if_pos (by simpa using (lsb_and x).2 h), if_pos h]
  · rw [if_neg (by simpa using fun e => h ((lsb_and x).1 e)), if_neg h]
    simp
theorem xor4 (a b p q : BitVec 32) : (a ^^^ b) ^^^ (p ^^^ q) = (a ^^^ p) ^^^ (b ^^^ q) := by
  rw [BitVec.xor_assoc, ← BitVec.xor_assoc b, BitVec.xor_comm b p, BitVec.xor_assoc p, ← BitVec.xor_assoc]
theorem sel_xor (a b : Bool) (p : BitVec 32) : (if (a ^^ b) = true then p else 0#32) = (if a = true then p else 0#32) ^^^ (if b = true then p else 0#32) := by
  cases a <;> cases b <;> simp
theorem stp_xor (x y : BitVec 32) : stp (x ^^^ y) = stp x ^^^ stp y := by
  unfold stp
  rw [BitVec.ushiftRight_xor_distrib, BitVec.getLsbD_xor, sel_xor, xor4]
def stps : Nat → BitVec 32 → BitVec 32
  | 0, x => x
  | n + 1, x => stps n (stp x)
theorem stps_xor : ∀ (n : Nat) (x y : BitVec 32), stps n (x ^^^ y) = stps n x ^^^ stps n y
  | 0, x, y => rfl
  | n + 1, x, y => by
    unfold stps
    rw [stp_xor, stps_xor n]
theorem stps_add (m : Nat) : ∀ (n : Nat) (x : BitVec 32), stps (n + m) x = stps m (stps n x)
  | 0, x => by simp [stps]
  | n + 1, x => by
    rw [Nat.add_right_comm]
    show stps (n + m) (stp x) = stps m (stps n (stp x))
    exact stps_add m n (stp x)
theorem stps_succ (n : Nat) (x : BitVec 32) : stps (n + 1) x = stp (stps n x) := stps_add 1 n x
theorem stp_even {x : BitVec 32} (h : x.getLsbD 0 = false) : stp x = x >>> 1 := by
  unfold stp
  rw [h]
  simp
theorem stps_high (x : BitVec 32) : ∀ n, (∀ j, j < n → x.getLsbD j = false) → stps n x = x >>> n
  | 0, _ => by simp [stps]
  | n + 1, h => by
    rw [stps_succ, stps_high x n fun j hj => h j (by omega)]
    rw [stp_even (by rw [BitVec.getLsbD_ushiftRight]; exact h (n + 0) (by omega)), ← BitVec.shiftRight_add]
theorem low_bit (n j : Nat) (hj : j < n) (hn : n ≤ 32) : (BitVec.ofNat 32 (2 ^ n - 1)).getLsbD j = true := by
  rw [BitVec.getLsbD_ofNat, Nat.testBit_two_pow_sub_one]
  simp
  omega
theorem high_bit (n j : Nat) (hj : n ≤ j) : (BitVec.ofNat 32 (2 ^ n - 1)).getLsbD j = false := by
  rw [BitVec.getLsbD_ofNat, Nat.testBit_two_pow_sub_one]
  simp
  omega
/-- n steps: what is above the lowest n bits moves down, the lowest n bits make the rest. -/
theorem stps_split (n : Nat) (hn : n ≤ 32) (x : BitVec 32) : stps n x = (x >>> n) ^^^ stps n (x &&& BitVec.ofNat 32 (2 ^ n - 1)) := by
  have e : x = (x &&& ~~~ BitVec.ofNat 32 (2 ^ n - 1)) ^^^ (x &&& BitVec.ofNat 32 (2 ^ n - 1)) := by
    apply BitVec.eq_of_getLsbD_eq
    intro i hi
    rw [BitVec.getLsbD_xor, BitVec.getLsbD_and, BitVec.getLsbD_and, BitVec.getLsbD_not]
    cases x.getLsbD i <;> cases (BitVec.ofNat 32 (2 ^ n - 1)).getLsbD i <;> simp [hi]
  conv => lhs; rw [e]
  rw [stps_xor, stps_high]
  · congr 1
    apply BitVec.eq_of_getLsbD_eq
    intro i hi
    rw [BitVec.getLsbD_ushiftRight, BitVec.getLsbD_ushiftRight, BitVec.getLsbD_and, BitVec.getLsbD_not, high_bit n (n + i) (by omega)]
    by_cases h : n + i < 32
    · simp [h]
    · have : x.getLsbD (n + i) = false := BitVec.getLsbD_of_ge _ _ (by omega)
      simp [this]
  · intro j hj
    rw [BitVec.getLsbD_and, BitVec.getLsbD_not, low_bit n j hj hn]
    simp
/-- Steps lose nothing. -/
theorem stp_inj0 {x : BitVec 32} (h : stp x = 0#32) : x = 0#32 := by
  unfold stp at h
  have hp : poly.getLsbD 31 = true := by decide
  have h31 : (stp x).getLsbD 31 = x.getLsbD 0 := by
    unfold stp
    rw [BitVec.getLsbD_xor, BitVec.getLsbD_ushiftRight, BitVec.getLsbD_of_ge x (1 + 31) (by omega)]
    cases x.getLsbD 0 <;> simp [hp]
  have h0 : x.getLsbD 0 = false := by
    rw [← h31]
    unfold stp
    rw [h]
    simp
  simp only [h0] at h
  apply BitVec.eq_of_getLsbD_eq
  intro i hi
  cases i with
  | zero => rw [h0]; simp
  | succ i =>
    have := congrArg (fun z => z.getLsbD i) h
    simp [BitVec.getLsbD_ushiftRight] at this
    rw [Nat.add_comm] at this
    simpa using this
theorem stps_inj0 : ∀ (n : Nat) {x : BitVec 32}, stps n x = 0#32 → x = 0#32
  | 0, x, h => h
  | n + 1, x, h => stp_inj0 (stps_inj0 n h)
def Bytes (l : List Int) : Prop := ∀ x ∈ l, 0 ≤ x ∧ x ≤ 255
def b32 (c : Int) : BitVec 32 := BitVec.ofNat 32 c.toNat
theorem b32_eq {c : Int} (h : 0 ≤ c ∧ c ≤ 255) : IntKind.u32.wrap c = I32 (b32 c) := by
  rw [wu32 h.1 (by omega)]
  exact I32_of h.1 (by omega)
def take8 (x : BitVec 32) (c : Int) : BitVec 32 := stps 8 (x ^^^ b32 c)
def regs (x : BitVec 32) (l : List Int) : BitVec 32 := l.foldl take8 x
def tabL : List Int := (List.range 16).map fun i => I32 (stps 4 (BitVec.ofNat 32 i))
def tabA : Arr 16 Int := ⟨tabL, rfl⟩
theorem table_at (n : Nat) : crc_Table.f (n + 20) = some tabA := by kernel_rfl
theorem table_eq {fu : Nat} (h : 20 ≤ fu) : crc_Table.f fu = some tabA := by
  obtain ⟨n, rfl⟩ : ∃ n, fu = n + 20 := ⟨fu - 20, by omega⟩
  exact table_at n
theorem tab_get : ∀ i : Fin 16, Arr.get tabA ((i : Nat) : Int) = I32 (stps 4 (BitVec.ofNat 32 (i : Nat))) := by decide +kernel
theorem nib (x : BitVec 32) : bXor .u32 (shR .u32 (I32 x) 4) (Arr.get tabA (bAnd .u32 (I32 x) 15)) = I32 (stps 4 x) := by
  have e1 : bAnd .u32 (I32 x) 15 = I32 (x &&& 15#32) := ba32 x 15#32
  have e2 : shR .u32 (I32 x) 4 = I32 (x >>> 4) := sr32 x 4 (by decide)
  have hlt : (x &&& 15#32).toNat < 16 := by
    rw [BitVec.toNat_and]
    exact Nat.lt_of_le_of_lt Nat.and_le_right (by decide)
  have e3 : Arr.get tabA (I32 (x &&& 15#32)) = I32 (stps 4 (x &&& 15#32)) := by
    have := tab_get ⟨(x &&& 15#32).toNat, hlt⟩
    simp only [BitVec.ofNat_toNat, BitVec.setWidth_eq] at this
    exact this
  rw [e1, e2, e3, bx32]
  exact congrArg I32 (stps_split 4 (by decide) x).symm
theorem nib_in (x : BitVec 32) : 0 ≤ bAnd .u32 (I32 x) 15 ∧ bAnd .u32 (I32 x) 15 < 16 := by
  have e1 : bAnd .u32 (I32 x) 15 = I32 (x &&& 15#32) := ba32 x 15#32
  have hlt : (x &&& 15#32).toNat < 16 := by
    rw [BitVec.toNat_and]
    exact Nat.lt_of_le_of_lt Nat.and_le_right (by decide)
  rw [e1]
  unfold I32
  omega
theorem ix_nat {α : Type} [Inhabited α] {l : List α} {j : Nat} (h : j < l.length) : ix l (j : Int) = l[j] := by
  simp [ix, List.getD_eq_getElem?_getD, List.getElem?_eq_getElem h]
theorem take_next {α : Type} {l : List α} {j : Nat} (h : j < l.length) : l.take (j + 1) = l.take j ++ [l[j]] := by
  rw [List.take_add_one, List.getElem?_eq_getElem h]
  rfl
theorem reg_eq {fu : Nat} {x : BitVec 32} {l : List Int} (hb : Bytes l) (hl : l.length ≤ 9000000000000000000) (hf : l.length < fu) : crc_register.f fu tabA (I32 x) l = some (I32 (regs x l)) := by
  unfold crc_register.f
  have : loopM (crc_register.s0 fu tabA l) fu (I32 x, 0) = some (I32 (regs x l)) := by
    refine loopM_run (S := fun j => (I32 (regs x (l.take j)), (j : Int))) l.length (by simp [regs]) ?_ ?_ hf
    · intro j hj
      unfold crc_register.s0
      have h1 : (j : Int) < (l.length : Int) := by omega
      have w3 : IntKind.i64.wrap ((j : Int) + 1) = ((j + 1 : Nat) : Int) := by rw [w64 (by omega) (by omega)]; omega
      have hc := hb _ (List.getElem_mem hj)
      have e1 : bXor .u32 (I32 (regs x (l.take j))) (IntKind.u32.wrap (ix l (j : Int))) = I32 (regs x (l.take j) ^^^ b32 l[j]) := by
        rw [ix_nat hj, b32_eq hc, bx32]
      have e2 : regs x (l.take (j + 1)) = stps 4 (stps 4 (regs x (l.take j) ^^^ b32 l[j])) := by
        rw [take_next hj]
        unfold regs
        rw [List.foldl_append]
        exact stps_add 4 4 _
      simp only [h1, decide_true, if_true, e1, nib, w3, e2]
      rw [if_pos ⟨by omega, trivial⟩, if_pos (nib_in _), if_pos (nib_in _)]
    · unfold crc_register.s0
      simp
  rw [this]
  rfl
def ones : BitVec 32 := 4294967295#32
def crc (l : List Int) : BitVec 32 := regs ones l ^^^ ones
theorem regs_append (x : BitVec 32) (a b : List Int) : regs x (a ++ b) = regs (regs x a) b := by
  unfold regs
  rw [List.foldl_append]
theorem sum_eq {fu : Nat} {l : List Int} (hb : Bytes l) (hl : l.length ≤ 9000000000000000000) (hf : l.length + 20 < fu) : crc_Sum.f fu [l] = some (I32 (crc l)) := by
  unfold crc_Sum.f
  rw [table_eq (by omega)]
  have : loopM (crc_Sum.s0 fu [l] tabA) fu (4294967295, 0) = some (I32 (regs ones l)) := by
    refine loopM_run (S := fun j => (if j = 0 then I32 ones else I32 (regs ones l), (j : Int))) 1 rfl ?_ ?_ (by omega)
    · intro j hj
      obtain rfl : j = 0 := by omega
      unfold crc_Sum.s0
      have e0 : ix [l] ((0 : Nat) : Int) = l := rfl
      have w3 : IntKind.i64.wrap (((0 : Nat) : Int) + 1) = ((0 + 1 : Nat) : Int) := by decide
      simp only [e0, w3, if_true, reg_eq hb hl (by omega : l.length < fu)]
      simp
    · unfold crc_Sum.s0
      simp
  simp only [Option.bind_some]
  rw [this]
  simp only [Option.bind_some]
  exact congrArg some (bx32 _ ones)
theorem rsteps_eq {fu : Nat} {x : BitVec 32} (hf : 8 < fu) : rickyardref02_Steps.f fu (I32 x) 8 = some (I32 (stps 8 x)) := by
  unfold rickyardref02_Steps.f
  have : loopM (rickyardref02_Steps.s0 fu 8) fu (I32 x, 0) = some (I32 (stps 8 x)) := by
    refine loopM_run (S := fun j => (I32 (stps j x), (j : Int))) 8 rfl ?_ ?_ hf
    · intro j hj
      unfold rickyardref02_Steps.s0
      have h1 : (j : Int) < 8 := by omega
      have w3 : IntKind.i64.wrap ((j : Int) + 1) = ((j + 1 : Nat) : Int) := by rw [w64 (by omega) (by omega)]; omega
      simp only [h1, decide_true, if_true, rstep_eq, w3, stps_succ]
      rfl
    · unfold rickyardref02_Steps.s0
      simp
  rw [this]
  rfl
theorem rsum_eq {fu : Nat} {l : List Int} (hb : Bytes l) (hl : l.length ≤ 9000000000000000000) (hf : l.length + 20 < fu) : rickyardref02_Sum.f fu l = some (I32 (crc l)) := by
  unfold rickyardref02_Sum.f
  have : loopM (rickyardref02_Sum.s0 fu l) fu (4294967295, 0) = some (I32 (regs ones l)) := by
    refine loopM_run (S := fun j => (I32 (regs ones (l.take j)), (j : Int))) l.length (by simp [regs]; rfl) ?_ ?_ (by omega)
    · intro j hj
      unfold rickyardref02_Sum.s0
      have h1 : (j : Int) < (l.length : Int) := by omega
      have w3 : IntKind.i64.wrap ((j : Int) + 1) = ((j + 1 : Nat) : Int) := by rw [w64 (by omega) (by omega)]; omega
      have hc := hb _ (List.getElem_mem hj)
      have e1 : bXor .u32 (I32 (regs ones (l.take j))) (IntKind.u32.wrap (ix l (j : Int))) = I32 (regs ones (l.take j) ^^^ b32 l[j]) := by
        rw [ix_nat hj, b32_eq hc, bx32]
      have e2 : regs ones (l.take (j + 1)) = stps 8 (regs ones (l.take j) ^^^ b32 l[j]) := by
        rw [take_next hj]
        unfold regs
        rw [List.foldl_append]
        rfl
      simp only [h1, decide_true, if_true, e1, w3, e2, rsteps_eq (by omega : 8 < fu)]
      rw [if_pos ⟨by omega, trivial⟩]
      rfl
    · unfold rickyardref02_Sum.s0
      simp
  rw [this]
  have e : IntKind.u32.wrap (4294967295 - I32 (regs ones l)) = I32 (crc l) := by
    have hlt := (regs ones l).isLt
    have h2 : (crc l).toNat = 4294967295 - (regs ones l).toNat := by
      unfold crc
      have : regs ones l ^^^ ones = ~~~ (regs ones l) := by
        apply BitVec.eq_of_getLsbD_eq
        intro i hi
        have ho : ones.getLsbD i = true := by
          have := low_bit 32 i hi (by decide)
          exact this
        rw [BitVec.getLsbD_xor, BitVec.getLsbD_not, ho]
        simp [hi]
      rw [this, BitVec.toNat_not]
    unfold I32
    rw [h2, wu32 (by omega) (by omega)]
    omega
  simp only [Option.bind_some, e]
end Go.Proofs.Ytjhajfkfhdnciaa.Pure

/- Numbers as octets, in plain words. -/
set_option linter.unusedVariables false
set_option linter.unusedSimpArgs false
namespace Go.Proofs.Ytjhajfkfhdnciaa.Pure
open Go Go.Xw
def lay (v n : Nat) : List Int := (List.range n).map fun i => ((v / 256 ^ i % 256 : Nat) : Int)
theorem lay_len (v n : Nat) : (lay v n).length = n := by simp [lay]
theorem lay_succ (v n : Nat) : lay v (n + 1) = lay v n ++ [((v / 256 ^ n % 256 : Nat) : Int)] := by
  simp [lay, List.range_succ]
theorem lay_bytes (v n : Nat) : Bytes (lay v n) := by
  intro x hx
  simp only [lay, List.mem_map] at hx
  obtain ⟨i, _, rfl⟩ := hx
  omega
theorem wu8_mod {n : Nat} : IntKind.u8.wrap (n : Int) = ((n % 256 : Nat) : Int) := by
  unfold IntKind.wrap
  simp only [IntKind.signed, IntKind.bits]
  simp
theorem shr64 (n : Nat) : shR .u64 (n : Int) 8 = ((n / 256 : Nat) : Int) := by
  unfold shR
  show Int.fdiv (n : Int) (2 ^ min ((8 : Int).toNat) 64) = _
  rw [show (2 : Int) ^ min ((8 : Int).toNat) 64 = 256 from by decide, Int.fdiv_eq_ediv_of_nonneg _ (by decide)]
  omega
theorem wn64 (q : Nat) (h : q < 18446744073709551616) : IntKind.u64.wrap (q : Int) = (q : Int) := wu64 (by omega) (by omega)
theorem tdn (q : Nat) : Int.tdiv (q : Int) 256 = ((q / 256 : Nat) : Int) := by
  rw [Int.tdiv_eq_ediv_of_nonneg (by omega)]
  omega
theorem tmn (q : Nat) : Int.tmod (q : Int) 256 = ((q % 256 : Nat) : Int) := by
  rw [Int.tmod_eq_emod_of_nonneg (by omega)]
  omega
theorem wn8 (q : Nat) : IntKind.u8.wrap ((q % 256 : Nat) : Int) = ((q % 256 : Nat) : Int) := wu8 (by omega) (by omega)
theorem olay_eq {fu v n : Nat} (hn : n ≤ 8) (hf : n < fu) : octet_Lay.f fu (v : Int) (n : Int) = some (lay v n) := by
  unfold octet_Lay.f
  have h0 : ¬ ((n : Int) < 0) := by omega
  have h8 : ¬ ((n : Int) > 8) := by omega
  have hL : Int.toNat (n : Int) ≤ LIM := by
    have : (8 : Nat) ≤ LIM := by decide
    omega
  simp only [h0, h8, decide_false, Bool.false_eq_true, if_false]
  rw [if_pos ⟨by omega, hL⟩]
  have : loopM (octet_Lay.s0 fu (n : Int)) fu ((v : Int), 0, List.replicate (Int.toNat (n : Int)) (0 : Int)) = some (lay v n) := by
    refine loopM_run (S := fun j => (((v / 256 ^ j : Nat) : Int), (j : Int), lay v j ++ List.replicate (n - j) (0 : Int))) n (by simp [lay]) ?_ ?_ hf
    · intro j hj
      unfold octet_Lay.s0
      have w3 : IntKind.i64.wrap ((j : Int) + 1) = ((j + 1 : Nat) : Int) := by rw [w64 (by omega) (by omega)]; omega
      have e1 : (List.replicate (Int.toNat (n : Int)) (0 : Int)).length = n := by simp
      have e2 : (lay v j ++ List.replicate (n - j) (0 : Int)).length = n := by rw [List.length_append, lay_len, List.length_replicate]; omega
      have e3 : List.set (lay v j ++ List.replicate (n - j) (0 : Int)) (Int.toNat (j : Int)) (IntKind.u8.wrap ((v / 256 ^ j : Nat) : Int)) = lay v (j + 1) ++ List.replicate (n - (j + 1)) (0 : Int) := by
        rw [Int.toNat_natCast, List.set_append, if_neg (by rw [lay_len]; omega), lay_len, Nat.sub_self, wu8_mod, lay_succ, show n - j = n - (j + 1) + 1 from by omega, List.replicate_succ]
        simp
      have e4 : shR .u64 ((v / 256 ^ j : Nat) : Int) 8 = ((v / 256 ^ (j + 1) : Nat) : Int) := by
        rw [shr64, Nat.div_div_eq_div_mul, Nat.pow_succ]
      have h1 : (j : Int) < (n : Int) := by omega
      simp only [e1, e2, e3, e4, w3, h1, decide_true, if_true]
      rw [if_pos ⟨by omega, trivial⟩]
    · unfold octet_Lay.s0
      simp
  rw [this]
  rfl
theorem roctet_eq {fu v i : Nat} (hv : v < 18446744073709551616) (hi : i ≤ 1000) (hf : i < fu) : rickyardref01_Octet.f fu (v : Int) (i : Int) = some ((v / 256 ^ i % 256 : Nat) : Int) := by
  unfold rickyardref01_Octet.f
  have : loopM (rickyardref01_Octet.s0 fu (i : Int)) fu ((v : Int), 0) = some ((v / 256 ^ i : Nat) : Int) := by
    refine loopM_run (S := fun j => (((v / 256 ^ j : Nat) : Int), (j : Int))) i (by simp) ?_ ?_ hf
    · intro j hj
      unfold rickyardref01_Octet.s0
      have w3 : IntKind.i64.wrap ((j : Int) + 1) = ((j + 1 : Nat) : Int) := by rw [w64 (by omega) (by omega)]; omega
      have h1 : (j : Int) < (i : Int) := by omega
      have hle : v / 256 ^ j ≤ v := Nat.div_le_self _ _
      have e1 : Int.tdiv ((v / 256 ^ j : Nat) : Int) 256 = ((v / 256 ^ (j + 1) : Nat) : Int) := by
        rw [tdn, Nat.pow_succ, ← Nat.div_div_eq_div_mul]
      have hle2 : v / 256 ^ (j + 1) ≤ v := Nat.div_le_self _ _
      have e2 : IntKind.u64.wrap ((v / 256 ^ (j + 1) : Nat) : Int) = ((v / 256 ^ (j + 1) : Nat) : Int) := wn64 _ (Nat.lt_of_le_of_lt hle2 hv)
      simp only [h1, decide_true, if_true, e1, e2, w3]
    · unfold rickyardref01_Octet.s0
      simp
  rw [this]
  simp only [Option.bind_some, tmn, wn8]
theorem rlay_eq {fu v n : Nat} (hv : v < 18446744073709551616) (hn : n ≤ 8) (hf : n < fu) : rickyardref01_Lay.f fu (v : Int) (n : Int) = some ((lay v n).map toB) := by
  unfold rickyardref01_Lay.f
  have : loopM (rickyardref01_Lay.s0 fu (v : Int) (n : Int)) fu ([], 0) = some ((lay v n).map toB) := by
    refine loopM_run (S := fun j => ((lay v j).map toB, (j : Int))) n (by simp [lay]) ?_ ?_ hf
    · intro j hj
      unfold rickyardref01_Lay.s0
      have w3 : IntKind.i64.wrap ((j : Int) + 1) = ((j + 1 : Nat) : Int) := by rw [w64 (by omega) (by omega)]; omega
      have h1 : (j : Int) < (n : Int) := by omega
      have hlim : ((lay v j).map toB).length + ([((v / 256 ^ j % 256 : Nat) : Int)].map toB).length ≤ LIM := by
        have : (9 : Nat) ≤ LIM := by decide
        simp only [List.length_map, lay_len, List.length_cons, List.length_nil]
        omega
      simp only [h1, decide_true, if_true, roctet_eq (fu := fu) hv (by omega : j ≤ 1000) (by omega), Option.bind_some, w3]
      rw [if_pos hlim, lay_succ, List.map_append]
    · unfold rickyardref01_Lay.s0
      simp
  rw [this]
  rfl
def num : List Int → Nat
  | [] => 0
  | c :: l => c.toNat + 256 * num l
theorem num_append : ∀ (a b : List Int), num (a ++ b) = num a + 256 ^ a.length * num b
  | [], b => by simp [num]
  | c :: a, b => by
    simp only [List.cons_append, num, num_append a b, List.length_cons, Nat.pow_succ]
    rw [Nat.mul_add, Nat.add_assoc, ← Nat.mul_assoc, Nat.mul_comm 256 (256 ^ a.length)]
theorem num_lt : ∀ {l : List Int}, Bytes l → num l < 256 ^ l.length
  | [], _ => by simp [num]
  | c :: l, h => by
    have h1 := h c (by simp)
    have h2 := num_lt (l := l) fun x hx => h x (by simp [hx])
    simp only [num, List.length_cons, Nat.pow_succ]
    omega
theorem lay_num : ∀ {l : List Int}, Bytes l → lay (num l) l.length = l
  | [], _ => rfl
  | c :: l, h => by
    have h1 := h c (by simp)
    have h2 := lay_num (l := l) fun x hx => h x (by simp [hx])
    have e : lay (num (c :: l)) (l.length + 1) = c :: lay (num l) l.length := by
      unfold lay
      rw [List.range_succ_eq_map, List.map_cons, List.map_map]
      congr 1
      · simp only [num, Nat.pow_zero, Nat.div_one]
        omega
      · apply List.map_congr_left
        intro i hi
        simp only [Function.comp, num, Nat.succ_eq_add_one, Nat.pow_succ]
        rw [Nat.mul_comm (256 ^ i) 256, ← Nat.div_div_eq_div_mul, show (c.toNat + 256 * num l) / 256 = num l from by omega]
    rw [List.length_cons, e, h2]
theorem num_lay (v : Nat) : ∀ n, num (lay v n) = v % 256 ^ n
  | 0 => by simp [lay, num, Nat.mod_one]
  | n + 1 => by
    rw [lay_succ, num_append, num_lay v n, lay_len]
    simp only [num]
    rw [Int.toNat_natCast, Nat.mul_zero, Nat.add_zero, Nat.pow_succ, Nat.mod_mul]
theorem or_add (a c j : Nat) (ha : a < 256 ^ j) : a ||| c * 256 ^ j = a + 256 ^ j * c := by
  have e : 256 ^ j = 2 ^ (8 * j) := by rw [Nat.pow_mul]
  rw [e] at ha ⊢
  rw [Nat.mul_comm c, Nat.or_comm, ← Nat.two_pow_add_eq_or_of_lt ha, Nat.add_comm]
theorem read_eq {fu : Nat} {l : List Int} (hb : Bytes l) (hl : l.length ≤ 8) (hf : l.length < fu) : octet_Read.f fu l = some ((num l : Nat) : Int) := by
  unfold octet_Read.f
  have hm : mnI (l.length : Int) 8 = (l.length : Int) := by
    unfold mnI
    split <;> omega
  have hc : cut l 0 (l.length : Int) = l := by
    unfold cut
    simp
  rw [hm, if_pos ⟨by omega, Int.le_refl _⟩]
  have : loopM (octet_Read.s0 fu l) fu (0, 0) = some ((num l : Nat) : Int) := by
    refine loopM_run (S := fun j => (((num (l.take j) : Nat) : Int), (j : Int))) l.length (by simp [num]) ?_ ?_ hf
    · intro j hj
      unfold octet_Read.s0
      rw [hm, hc]
      have h1 : (j : Int) < (l.length : Int) := by omega
      have w3 : IntKind.i64.wrap ((j : Int) + 1) = ((j + 1 : Nat) : Int) := by rw [w64 (by omega) (by omega)]; omega
      have w4 : IntKind.i64.wrap (8 * (j : Int)) = ((8 * j : Nat) : Int) := by rw [w64 (by omega) (by omega)]; omega
      have hcb := hb _ (List.getElem_mem hj)
      obtain ⟨c, hc'⟩ : ∃ c : Nat, l[j] = (c : Int) := ⟨l[j].toNat, by omega⟩
      have hlt : num (l.take j) < 256 ^ j := by
        have := num_lt (l := l.take j) fun x hx => hb x (List.mem_of_mem_take hx)
        rwa [List.length_take, Nat.min_eq_left (by omega)] at this
      have e256 : (256 : Nat) ^ j * 256 ≤ 256 ^ 8 := by
        rw [← Nat.pow_succ]
        exact Nat.pow_le_pow_right (by decide) (by omega)
      have e8 : (256 : Nat) ^ 8 = 18446744073709551616 := by decide
      have hcj : c * 256 ^ j < 18446744073709551616 := by
        have : c * 256 ^ j ≤ 255 * 256 ^ j := Nat.mul_le_mul_right _ (by omega)
        have : 0 < 256 ^ j := Nat.pow_pos (by decide)
        omega
      have e1 : shL .u64 (IntKind.u64.wrap (ix l (j : Int))) ((8 * j : Nat) : Int) = ((c * 256 ^ j : Nat) : Int) := by
        rw [ix_nat hj, hc', wu64 (by omega) (by omega)]
        unfold shL
        rw [Int.toNat_natCast, Nat.min_eq_left (by show 8 * j ≤ 64; omega)]
        have : (c : Int) * 2 ^ (8 * j) = ((c * 256 ^ j : Nat) : Int) := by
          have h256 : ((256 ^ j : Nat) : Int) = 2 ^ (8 * j) := by
            rw [Int.natCast_pow, Int.pow_mul]
            exact congrArg (fun z : Int => z ^ j) (by decide : ((256 : Nat) : Int) = 2 ^ 8)
          rw [Int.natCast_mul, h256]
        rw [this, wu64 (by omega) (by omega)]
      have e2 : bOr .u64 ((num (l.take j) : Nat) : Int) ((c * 256 ^ j : Nat) : Int) = ((num (l.take (j + 1)) : Nat) : Int) := by
        unfold bOr
        show IntKind.u64.wrap (((BitVec.ofInt 64 ((num (l.take j) : Nat) : Int) ||| BitVec.ofInt 64 ((c * 256 ^ j : Nat) : Int)).toNat : Nat) : Int) = _
        rw [BitVec.ofInt_natCast, BitVec.ofInt_natCast, BitVec.toNat_or, BitVec.toNat_ofNat, BitVec.toNat_ofNat, Nat.mod_eq_of_lt (by omega), Nat.mod_eq_of_lt (by omega), or_add _ _ _ hlt, take_next hj, num_append]
        have hs : num (l.take j) + 256 ^ j * c < 18446744073709551616 := by
          rw [Nat.mul_comm]
          have : c * 256 ^ j ≤ 255 * 256 ^ j := Nat.mul_le_mul_right _ (by omega)
          omega
        rw [wu64 (by omega) (by omega)]
        simp only [num, hc', Int.toNat_natCast, List.length_take, Nat.min_eq_left (by omega : j ≤ l.length), Nat.mul_zero, Nat.add_zero]
      simp only [h1, decide_true, if_true, w4, e1, e2, w3]
      rw [if_pos ⟨by omega, trivial⟩, if_pos (by omega)]
    · unfold octet_Read.s0
      rw [hm, hc]
      simp
  rw [this]
  rfl
end Go.Proofs.Ytjhajfkfhdnciaa.Pure

/- rickyard/block.Kind: its model, and that the Go function computes it: written by gen.py. -/
set_option linter.unusedVariables false
namespace Go.Proofs.Ytjhajfkfhdnciaa
open Go Go.Xw
def block_Kind.f (fu : Nat) (a0 : List Int) : Option Int := ((block_right.f fu a0 : Option Bool).bind fun t1 => (if (!t1) = true then some (0) else (if (4 : Int) < (List.length a0 : Int) then some ((IntKind.i64.wrap (ix a0 4))) else none)))
set_option maxRecDepth 100000 in
set_option maxHeartbeats 400000 in
theorem block_Kind.ok (fu : Nat) (w : World) (a0 : List Int) (V0_0 : Value) (R0_0 : Rd (kI .u8) w V0_0 a0) (r : Int) (h : block_Kind.f fu a0 = some r) :
    Calls Try.prog 33 (([V0_0] : List Value).toArray) w (fun e w' => ∃ v, e = .returned v ∧ v = .int .i64 r ∧ Gr w w') := by
  unfold block_Kind.f at h
  have fB : Gr w w := Fr.refl _ _
  refine calls_cw Try.func33 rfl Try.ntmps33 rfl ?_
  refine cw_seq ?_
  refine cw_region ?_
  refine ol_val (v := .int .i64 0) (by exact xr_assign rfl rfl) rfl rfl rfl ?_
  refine ol_nil ?_
  refine cw_seq ?_
  refine cw_seq ?_
  refine cw_region ?_
  refine ol_val (v := V0_0) (by exact xr_move rfl rfl) rfl rfl rfl ?_
  obtain ⟨t1, k2, h⟩ := bs h
  refine ol_op (by exact opv_call rfl cal97 (ac rfl an) (block_right.ok fu _ a0 V0_0 (R0_0.gr fB) _ k2)) rfl rfl rfl ?_
  rintro _ w4 ⟨rfl, q3⟩
  have fB := fB.gr q3
  refine ol_val (v := .bool (!t1)) (by exact xr_not rfl rfl) rfl rfl rfl ?_
  refine ol_nil ?_
  rcases is h with ⟨c5, h⟩ | ⟨c5, h⟩
  · refine cw_condT rfl c5 ?_
    refine cw_seq ?_
    refine cw_region ?_
    refine ol_val (v := .int .i64 0) (by exact xr_assign rfl rfl) rfl rfl rfl ?_
    refine ol_nil ?_
    refine cw_ret ?_
    repeat (first | with_reducible refine thn_r ?_ | with_reducible refine blk_r ?_)
    obtain rfl := Option.some.inj h
    refine fin_ret1 Try.results33 rfl ?_
    exact ⟨_, rfl, rfl, fB⟩
  · refine cw_condF rfl c5 ?_
    refine cw_skip ?_
    refine cw_seq ?_
    refine cw_region ?_
    refine ol_val (v := V0_0) (by exact xr_move rfl rfl) rfl rfl rfl ?_
    obtain ⟨g6, h⟩ := gs h
    refine ol_val (v := .pointer (some ⟨(sb V0_0), so V0_0 + Int.toNat 4 * 1, none⟩)) (by exact xr_indexR (K := (kI .u8)) (v := V0_0) rfl Try.underlying22 sz5 rfl (R0_0.gr fB) rfl (by decide) g6) rfl rfl rfl ?_
    refine ol_val (v := .int .u8 (ix a0 4)) (by exact xr_load1 (v := .int .u8 (ix a0 4)) rfl ag5 rfl ((R0_0.gr fB).elem (by decide) g6)) rfl rfl rfl ?_
    refine ol_val (v := .int .i64 (IntKind.i64.wrap (ix a0 4))) (by exact xr_conv rfl Try.underlying5 Try.underlying3 rfl) rfl rfl rfl ?_
    refine ol_val (v := .int .i64 (IntKind.i64.wrap (ix a0 4))) (by exact xr_assign rfl rfl) rfl rfl rfl ?_
    refine ol_nil ?_
    refine cw_ret ?_
    repeat (first | with_reducible refine thn_r ?_ | with_reducible refine blk_r ?_)
    obtain rfl := Option.some.inj h
    refine fin_ret1 Try.results33 rfl ?_
    exact ⟨_, rfl, rfl, fB⟩
end Go.Proofs.Ytjhajfkfhdnciaa

/- Blocks in plain words: how one is sealed, which octets are one, as the program and the document tell it. -/
set_option linter.unusedVariables false
set_option linter.unusedSimpArgs false
namespace Go.Proofs.Ytjhajfkfhdnciaa.Pure
open Go Go.Xw
theorem toB_inj {a b : Int} (ha : 0 ≤ a ∧ a ≤ 255) (hb : 0 ≤ b ∧ b ≤ 255) (h : toB a = toB b) : a = b := by
  unfold toB at h
  have := congrArg UInt8.toNat h
  simp only [UInt8.toNat_ofNat'] at this
  omega
theorem map_toB_inj : ∀ {a b : List Int}, Bytes a → Bytes b → a.map toB = b.map toB → a = b
  | [], [], _, _, _ => rfl
  | [], _ :: _, _, _, h => by simp at h
  | _ :: _, [], _, _, h => by simp at h
  | x :: a, y :: b, ha, hb, h => by
    simp only [List.map_cons, List.cons.injEq] at h
    rw [toB_inj (ha x (by simp)) (hb y (by simp)) h.1, map_toB_inj (fun z hz => ha z (by simp [hz])) (fun z hz => hb z (by simp [hz])) h.2]
theorem map_toB_iff {a b : List Int} (ha : Bytes a) (hb : Bytes b) : (a.map toB = b.map toB) ↔ a = b := ⟨map_toB_inj ha hb, fun h => by rw [h]⟩
theorem of_toB {l : List Int} (h : Bytes l) : (l.map toB).map ofB = l := by
  rw [List.map_map]
  conv => rhs; rw [← List.map_id l]
  apply List.map_congr_left
  intro x hx
  have := h x hx
  simp only [Function.comp, ofB, toB, UInt8.toNat_ofNat', id]
  omega
theorem Bytes.app {a b : List Int} (ha : Bytes a) (hb : Bytes b) : Bytes (a ++ b) := by
  intro x hx
  rcases List.mem_append.1 hx with h | h
  · exact ha x h
  · exact hb x h
theorem Bytes.rep (n : Nat) : Bytes (List.replicate n (0 : Int)) := by
  intro x hx
  obtain rfl := List.eq_of_mem_replicate hx
  omega
theorem Bytes.drop {l : List Int} (h : Bytes l) (n : Nat) : Bytes (l.drop n) := fun x hx => h x (List.mem_of_mem_drop hx)
theorem Bytes.take {l : List Int} (h : Bytes l) (n : Nat) : Bytes (l.take n) := fun x hx => h x (List.mem_of_mem_take hx)
/-- What is summed: kind, tag, a gap, the body with noughts behind it. -/
def summed (k t : Int) (body : List Int) : List Int := [k, t, 0, 0] ++ (body ++ List.replicate (56 - body.length) 0)
def sealed (s : List Int) : List Int := lay (crc s).toNat 4 ++ s
theorem summed_len {k t : Int} {body : List Int} (h : body.length ≤ 56) : (summed k t body).length = 60 := by
  simp [summed]
  omega
theorem summed_bytes {k t : Int} {body : List Int} (hk : 0 ≤ k ∧ k ≤ 255) (ht : 0 ≤ t ∧ t ≤ 255) (hb : Bytes body) : Bytes (summed k t body) := by
  refine Bytes.app ?_ (Bytes.app hb (Bytes.rep _))
  intro x hx
  simp only [List.mem_cons, List.not_mem_nil, or_false] at hx
  rcases hx with rfl | rfl | rfl | rfl <;> omega
theorem sealed_len {s : List Int} (h : s.length = 60) : (sealed s).length = 64 := by
  simp [sealed, lay_len, h]
theorem sealed_bytes {s : List Int} (h : Bytes s) : Bytes (sealed s) := Bytes.app (lay_bytes _ _) h
theorem x2_eq (k t : Int) : List.set (List.set (List.replicate (Int.toNat 64) (0 : Int)) (Int.toNat 4) k) (Int.toNat 5) t = [0, 0, 0, 0, k, t, 0, 0] ++ List.replicate 56 (0 : Int) := rfl
theorem x3_eq {k t : Int} {body : List Int} (h : body.length ≤ 56) : splL ([0, 0, 0, 0, k, t, 0, 0] ++ List.replicate 56 (0 : Int)) (Int.toNat 8) (List.take (List.length ([0, 0, 0, 0, k, t, 0, 0] ++ List.replicate 56 (0 : Int)) - Int.toNat 8) body) = [0, 0, 0, 0] ++ summed k t body := by
  have e : List.take (List.length ([0, 0, 0, 0, k, t, 0, 0] ++ List.replicate 56 (0 : Int)) - Int.toNat 8) body = body := List.take_of_length_le (by simpa using h)
  rw [e]
  have e2 : List.drop (8 + body.length) ([0, 0, 0, 0, k, t, 0, 0] ++ List.replicate 56 (0 : Int)) = List.replicate (56 - body.length) 0 := by
    have h8 : ([0, 0, 0, 0, k, t, 0, 0] : List Int).length = 8 := rfl
    rw [List.drop_append, List.drop_eq_nil_of_le (by rw [h8]; omega), List.nil_append, h8, List.drop_replicate]
    congr 1
    omega
  unfold splL summed
  rw [show (Int.toNat 8) = 8 from rfl, e2]
  simp
theorem lay4_eq {fu : Nat} (x : BitVec 32) (hf : 8 < fu) : octet_Lay.f fu (IntKind.u64.wrap (I32 x)) 4 = some (lay x.toNat 4) := by
  have hb := I32_lt x
  rw [wu64 hb.1 (by omega)]
  exact olay_eq (n := 4) (by decide) (by omega)
theorem rlay4_eq {fu : Nat} (x : BitVec 32) (hf : 8 < fu) : rickyardref01_Lay.f fu (IntKind.u64.wrap (I32 x)) 4 = some ((lay x.toNat 4).map toB) := by
  have hb := I32_lt x
  rw [wu64 hb.1 (by omega)]
  exact rlay_eq (n := 4) (by have := x.isLt; omega) (by decide) (by omega)
theorem seal_eq {fu : Nat} {k t : Int} {body : List Int} (hb : Bytes body) (hk : 1 ≤ k ∧ k ≤ 255) (ht : 0 ≤ t ∧ t ≤ 255) (hl : body.length ≤ 56) (hf : 100 < fu) : block_Seal.f fu k t body = some (sealed (summed k t body), true) := by
  have hs := summed_len (k := k) (t := t) hl
  have hsb := summed_bytes ⟨by omega, hk.2⟩ ht hb
  unfold block_Seal.f
  rw [wu8 (by omega : 0 ≤ k) hk.2, wu8 ht.1 ht.2]
  have c0 : (if (decide (k < 1)) = true then true else (if (decide (k ≥ 256)) = true then true else (if (decide (t < 0)) = true then true else (if (decide (t ≥ 256)) = true then true else (decide ((List.length body : Int) > 56)))))) = false := by
    have h1 : ¬ k < 1 := by omega
    have h2 : ¬ k ≥ 256 := by omega
    have h3 : ¬ t < 0 := by omega
    have h4 : ¬ t ≥ 256 := by omega
    have h5 : ¬ (List.length body : Int) > 56 := by omega
    simp [h1, h2, h3, h4, h5]
  rw [c0]
  simp only [x2_eq, x3_eq hl]
  have e1 : cut ([0, 0, 0, 0] ++ summed k t body) 4 (List.length ([0, 0, 0, 0] ++ summed k t body) : Int) = summed k t body := by
    unfold cut
    rw [Int.toNat_natCast, List.take_length]
    rfl
  have e2 : ∀ v, splL ([0, 0, 0, 0] ++ summed k t body) 0 (List.take (List.length ([0, 0, 0, 0] ++ summed k t body)) (lay v 4)) = lay v 4 ++ summed k t body := by
    intro v
    rw [List.take_of_length_le (by simp [lay_len])]
    unfold splL
    simp [lay_len]
  simp only [e1, e2, sum_eq (fu := fu) hsb (by omega) (by omega), Option.bind_some, lay4_eq (fu := fu) _ (by omega)]
  simp [hs, sealed]
theorem seal_no {fu : Nat} {k t : Int} {body : List Int} (h : k < 1 ∨ k > 255 ∨ t < 0 ∨ t > 255 ∨ body.length > 56) : block_Seal.f fu k t body = some ([], false) := by
  unfold block_Seal.f
  have c0 : (if (decide (k < 1)) = true then true else (if (decide (k ≥ 256)) = true then true else (if (decide (t < 0)) = true then true else (if (decide (t ≥ 256)) = true then true else (decide ((List.length body : Int) > 56)))))) = true := by
    by_cases h1 : k < 1
    · simp [h1]
    · by_cases h2 : k ≥ 256
      · simp [h2]
      · by_cases h3 : t < 0
        · simp [h3]
        · by_cases h4 : t ≥ 256
          · simp [h4]
          · have h5 : (List.length body : Int) > 56 := by omega
            simp [h5]
  rw [c0]
  rfl
theorem fill_eq {fu : Nat} {body : List Int} (hl : body.length ≤ 56) : rickyardref07_Fill.f fu (body.map toB) 56 = some ((body ++ List.replicate (56 - body.length) 0).map toB) := by
  unfold rickyardref07_Fill.f
  have e1 : mxI (IntKind.i64.wrap (56 - (List.length (body.map toB) : Int))) 0 = ((56 - body.length : Nat) : Int) := by
    rw [List.length_map, w64 (by omega) (by omega)]
    unfold mxI
    split <;> omega
  have hL : (100 : Nat) ≤ LIM := by decide
  rw [e1, Int.toNat_natCast, if_pos ⟨by omega, by omega⟩, if_pos (by simp only [List.length_map, List.length_replicate]; omega), List.map_append]
theorem rseal_eq {fu : Nat} {k t : Int} {body : List Int} (hb : Bytes body) (hk : 0 ≤ k ∧ k ≤ 255) (ht : 0 ≤ t ∧ t ≤ 255) (hl : body.length ≤ 56) (hf : 100 < fu) : rickyardref07_Seal.f fu k t (body.map toB) = some ((sealed (summed k t body)).map toB) := by
  have hs := summed_len (k := k) (t := t) hl
  have hsb := summed_bytes hk ht hb
  unfold rickyardref07_Seal.f
  rw [wu8 hk.1 hk.2, wu8 ht.1 ht.2]
  have e1 : List.map toB [k, t, 0, 0] ++ List.map toB (body ++ List.replicate (56 - body.length) 0) = (summed k t body).map toB := by
    rw [← List.map_append]
    rfl
  have hL : (100 : Nat) ≤ LIM := by decide
  have e2 : List.length (List.map toB [k, t, 0, 0]) + List.length (List.map toB (body ++ List.replicate (56 - body.length) 0)) ≤ LIM := by
    simp
    omega
  simp only [fill_eq (fu := fu) hl, Option.bind_some, e1, of_toB hsb, rsum_eq (fu := fu) hsb (by omega) (by omega), rlay4_eq (fu := fu) _ (by omega : 8 < fu)]
  rw [if_pos e2, if_pos (by simp [lay_len, hs]; omega)]
  simp [sealed]
theorem there_eq {fu : Nat} {b : List Int} {i n : Nat} (hl : b.length ≤ 9000000000000000000) (h : i + n ≤ b.length) : octet_there.f fu b (i : Int) (n : Int) = some true := by
  unfold octet_there.f
  have h1 : (i : Int) ≥ 0 := by omega
  have h2 : (n : Int) ≥ 0 := by omega
  have h3 : (n : Int) ≤ (b.length : Int) := by omega
  have h4 : IntKind.i64.wrap ((b.length : Int) - (n : Int)) = (b.length : Int) - (n : Int) := w64 (by omega) (by omega)
  have h5 : (i : Int) ≤ (b.length : Int) - (n : Int) := by omega
  simp [h1, h2, h3, h4, h5]
theorem noughts_from {fu : Nat} (b : List Int) (x n : Int) {C : List Int} (hC : cut b x (IntKind.i64.wrap (x + n)) = C) (hl : C.length ≤ 9000000000000000000) : ∀ k m, m ≤ C.length → C.length - m < k → loopM (octet_Noughts.s0 fu b x n) k (m : Int) = some (if ∀ y ∈ C.drop m, y = 0 then .inr () else .inl false)
  | 0, m, _, hk => by omega
  | k + 1, m, hm, hk => by
    unfold loopM
    by_cases e : m = C.length
    · subst e
      have : octet_Noughts.s0 fu b x n (C.length : Int) = some (.inl (.inr ())) := by
        unfold octet_Noughts.s0
        rw [hC]
        simp
      rw [this]
      simp
    · have hlt : m < C.length := by omega
      have hx : ix C (m : Int) = C[m] := ix_nat hlt
      rw [List.drop_eq_getElem_cons hlt]
      have h1 : (m : Int) < (C.length : Int) := by omega
      by_cases hn : C[m] = 0
      · have w3 : IntKind.i64.wrap ((m : Int) + 1) = ((m + 1 : Nat) : Int) := by rw [w64 (by omega) (by omega)]; omega
        have : octet_Noughts.s0 fu b x n (m : Int) = some (.inr ((m + 1 : Nat) : Int)) := by
          unfold octet_Noughts.s0
          rw [hC]
          simp [h1, hx, hn, w3, hlt]
        rw [this]
        simp only
        rw [noughts_from b x n hC hl k (m + 1) (by omega) (by omega)]
        have e3 : (∀ y ∈ C[m] :: C.drop (m + 1), y = 0) ↔ ∀ y ∈ C.drop (m + 1), y = 0 := by
          constructor
          · intro h y hy
            exact h y (List.mem_cons_of_mem _ hy)
          · intro h y hy
            rcases List.mem_cons.1 hy with rfl | hy
            · exact hn
            · exact h y hy
        simp only [e3]
      · have : octet_Noughts.s0 fu b x n (m : Int) = some (.inl (.inl false)) := by
          unfold octet_Noughts.s0
          rw [hC]
          simp [h1, hx, hn, hlt]
        rw [this]
        have e3 : ¬ (∀ y ∈ C[m] :: C.drop (m + 1), y = 0) := fun h => hn (h _ (List.mem_cons_self ..))
        simp only [e3, if_false]
theorem noughts_eq {fu : Nat} {b : List Int} {i n : Nat} (hl : b.length ≤ 9000000000000000000) (h : i + n ≤ b.length) (hf : n < fu) : octet_Noughts.f fu b (i : Int) (n : Int) = some (decide (∀ y ∈ (b.drop i).take n, y = 0)) := by
  unfold octet_Noughts.f
  rw [there_eq hl h]
  have w1 : IntKind.i64.wrap ((i : Int) + (n : Int)) = ((i + n : Nat) : Int) := by rw [w64 (by omega) (by omega)]; omega
  have hC : cut b (i : Int) (IntKind.i64.wrap ((i : Int) + (n : Int))) = (b.drop i).take n := by
    rw [w1]
    unfold cut
    rw [Int.toNat_natCast, Int.toNat_natCast, List.drop_take]
    congr 1
    omega
  have hlen : ((b.drop i).take n).length = n := by
    rw [List.length_take, List.length_drop]
    omega
  have := noughts_from (fu := fu) b (i : Int) (n : Int) hC (by omega) fu 0 (by omega) (by omega)
  rw [Int.natCast_zero, List.drop_zero] at this
  have c1 : 0 ≤ (i : Int) ∧ (i : Int) ≤ IntKind.i64.wrap ((i : Int) + (n : Int)) ∧ IntKind.i64.wrap ((i : Int) + (n : Int)) ≤ (b.length : Int) := by
    rw [w1]
    omega
  simp only [Option.bind_some, Bool.not_true, Bool.false_eq_true, if_false]
  rw [if_pos c1, this]
  by_cases hz : ∀ y ∈ (b.drop i).take n, y = 0
  · rw [if_pos hz]
    simp only [Option.bind_some, decide_eq_true hz]
  · rw [if_neg hz]
    simp only [Option.bind_some, decide_eq_false hz]
/-- Octets that are a block. -/
def Is (b : List Int) : Prop := b.length = 64 ∧ ix b 4 ≠ 0 ∧ b = sealed (summed (ix b 4) (ix b 5) (b.drop 8))
instance (b : List Int) : Decidable (Is b) := inferInstanceAs (Decidable (_ ∧ _))
theorem parts {b : List Int} (h : b.length = 64) : b = b.take 4 ++ ([ix b 4, ix b 5, ix b 6, ix b 7] ++ b.drop 8) := by
  have e : b.drop 4 = [ix b 4, ix b 5, ix b 6, ix b 7] ++ b.drop 8 := by
    have g : ∀ j : Nat, j < 64 → b.drop j = ix b (j : Int) :: b.drop (j + 1) := by
      intro j hj
      rw [List.drop_eq_getElem_cons (by omega), ix_nat (by omega)]
    rw [g 4 (by omega), g 5 (by omega), g 6 (by omega), g 7 (by omega)]
    rfl
  rw [← e, List.take_append_drop]
theorem gap_eq {b : List Int} (h : b.length = 64) : (b.drop 6).take 2 = [ix b 6, ix b 7] := by
  have g : ∀ j : Nat, j < 64 → b.drop j = ix b (j : Int) :: b.drop (j + 1) := by
    intro j hj
    rw [List.drop_eq_getElem_cons (by omega), ix_nat (by omega)]
  rw [g 6 (by omega), g 7 (by omega)]
  rfl
theorem drop4 {b : List Int} (h : b.length = 64) : b.drop 4 = [ix b 4, ix b 5, ix b 6, ix b 7] ++ b.drop 8 := by
  have g : ∀ j : Nat, j < 64 → b.drop j = ix b (j : Int) :: b.drop (j + 1) := by
    intro j hj
    rw [List.drop_eq_getElem_cons (by omega), ix_nat (by omega)]
  rw [g 4 (by omega), g 5 (by omega), g 6 (by omega), g 7 (by omega)]
  rfl
theorem summed_full (k t : Int) {body : List Int} (h : body.length = 56) : summed k t body = [k, t, 0, 0] ++ body := by
  unfold summed
  rw [h]
  simp
theorem is_iff {b : List Int} (hb : Bytes b) (h : b.length = 64) : b = sealed (summed (ix b 4) (ix b 5) (b.drop 8)) ↔ (ix b 6 = 0 ∧ ix b 7 = 0) ∧ num (b.take 4) = (crc (b.drop 4)).toNat := by
  have h8 : (b.drop 8).length = 56 := by rw [List.length_drop, h]
  have h4 : (b.take 4).length = 4 := by rw [List.length_take, h]; rfl
  rw [summed_full _ _ h8]
  constructor
  · intro e
    have e2 : b.take 4 ++ b.drop 4 = lay (crc ([ix b 4, ix b 5, 0, 0] ++ b.drop 8)).toNat 4 ++ ([ix b 4, ix b 5, 0, 0] ++ b.drop 8) := by
      rw [List.take_append_drop]
      exact e
    obtain ⟨e3, e4⟩ := List.append_inj e2 (by rw [h4, lay_len])
    have e5 := e4
    rw [drop4 h] at e5
    have e6 := List.append_inj_left e5 rfl
    simp only [List.cons.injEq, and_true, true_and] at e6
    refine ⟨e6, ?_⟩
    rw [e3, e4, num_lay]
    exact Nat.mod_eq_of_lt (crc _).isLt
  · rintro ⟨⟨h6, h7⟩, hn⟩
    have e4 : b.drop 4 = [ix b 4, ix b 5, 0, 0] ++ b.drop 8 := by
      have := drop4 h
      rw [h6, h7] at this
      exact this
    unfold sealed
    rw [← e4, ← hn]
    have := lay_num (hb.take 4)
    rw [h4] at this
    rw [this, List.take_append_drop]
theorem right_is {fu : Nat} {b : List Int} (hb : Bytes b) (hl : b.length ≤ 9000000000000000000) (hf : 100 < fu) : block_right.f fu b = some (decide (Is b)) := by
  unfold block_right.f
  by_cases h : b.length = 64
  · have hL : (b.length : Int) = 64 := by omega
    by_cases h4 : ix b 4 = 0
    · simp [hL, h4, Is]
    · have hn : octet_Noughts.f fu b 6 2 = some (decide (∀ y ∈ (b.drop 6).take 2, y = 0)) := noughts_eq (i := 6) (n := 2) hl (by omega) (by omega)
      have hg : (∀ y ∈ (b.drop 6).take 2, y = 0) ↔ ix b 6 = 0 ∧ ix b 7 = 0 := by
        rw [gap_eq h]
        simp
      by_cases hz : ix b 6 = 0 ∧ ix b 7 = 0
      · have c1 : cut b 0 4 = b.take 4 := by
          unfold cut
          rfl
        have c2 : cut b 4 (b.length : Int) = b.drop 4 := by
          unfold cut
          rw [Int.toNat_natCast, List.take_length]
          rfl
        have h4' : (b.take 4).length = 4 := by rw [List.length_take, h]; rfl
        have hr : octet_Read.f fu (b.take 4) = some ((num (b.take 4) : Nat) : Int) := read_eq (hb.take 4) (by omega) (by omega)
        have hlt : num (b.take 4) < 4294967296 := by
          have := num_lt (hb.take 4)
          rwa [h4'] at this
        have hd : (b.drop 4).length = 60 := by rw [List.length_drop, h]
        have hs : crc_Sum.f fu [b.drop 4] = some (I32 (crc (b.drop 4))) := sum_eq (hb.drop 4) (by omega) (by omega)
        have hw : IntKind.u32.wrap ((num (b.take 4) : Nat) : Int) = ((num (b.take 4) : Nat) : Int) := wu32 (by omega) (by omega)
        have hi : Is b ↔ num (b.take 4) = (crc (b.drop 4)).toNat := by
          unfold Is
          rw [is_iff hb h]
          exact ⟨fun x => x.2.2.2, fun x => ⟨h, h4, hz, x⟩⟩
        have hq : (I32 (crc (b.drop 4)) = ((num (b.take 4) : Nat) : Int)) ↔ Is b := by
          rw [hi]
          unfold I32
          omega
        unfold crc_Fits.f
        rw [hn, decide_eq_true (hg.2 hz), c1, c2, hr]
        simp only [Option.bind_some, hw, hs, hq]
        have hL5 : (4 : Int) < (b.length : Int) := by omega
        have hL6 : (4 : Int) ≤ (b.length : Int) := by omega
        simp [hL, h4]
      · have hi : ¬ Is b := by
          intro x
          unfold Is at x
          rw [is_iff hb h] at x
          exact hz x.2.2.1
        rw [hn, decide_eq_false (fun x => hz (hg.1 x))]
        simp [hL, h4, hi]
  · have hi : ¬ Is b := fun x => h x.1
    have hL : ¬ (b.length : Int) = 64 := by omega
    simp [hL, hi]
theorem open_eq {fu : Nat} {b : List Int} (hb : Bytes b) (hl : b.length ≤ 9000000000000000000) (hf : 100 < fu) : block_Open.f fu b = some (if Is b then (ix b 4, ix b 5, b.drop 8, true) else (0, 0, [], false)) := by
  unfold block_Open.f
  rw [right_is hb hl hf]
  by_cases h : Is b
  · have h0 := h.1
    have c2 : cut b 8 (b.length : Int) = b.drop 8 := by
      unfold cut
      rw [Int.toNat_natCast, List.take_length]
      rfl
    have hc : bytes_Clone.f fu (b.drop 8) = some (b.drop 8) := by
      unfold bytes_Clone.f
      rw [if_pos]
      rw [List.length_drop, h0]
      decide
    have h4 : 0 ≤ ix b 4 ∧ ix b 4 ≤ 255 := by
      have := ix_nat (l := b) (j := 4) (by omega)
      rw [show ((4 : Nat) : Int) = 4 from rfl] at this
      rw [this]
      exact hb _ (List.getElem_mem _)
    have h5 : 0 ≤ ix b 5 ∧ ix b 5 ≤ 255 := by
      have := ix_nat (l := b) (j := 5) (by omega)
      rw [show ((5 : Nat) : Int) = 5 from rfl] at this
      rw [this]
      exact hb _ (List.getElem_mem _)
    have w4 : IntKind.i64.wrap (ix b 4) = ix b 4 := w64 (by omega) (by omega)
    have w5 : IntKind.i64.wrap (ix b 5) = ix b 5 := w64 (by omega) (by omega)
    simp only [c2, hc, w4, w5]
    simp [h, h0]
  · simp [h]
theorem kind_eq {fu : Nat} {b : List Int} (hb : Bytes b) (hl : b.length ≤ 9000000000000000000) (hf : 100 < fu) : block_Kind.f fu b = some (if Is b then ix b 4 else 0) := by
  unfold block_Kind.f
  rw [right_is hb hl hf]
  by_cases h : Is b
  · have h0 := h.1
    have h4 : 0 ≤ ix b 4 ∧ ix b 4 ≤ 255 := by
      have := ix_nat (l := b) (j := 4) (by omega)
      rw [show ((4 : Nat) : Int) = 4 from rfl] at this
      rw [this]
      exact hb _ (List.getElem_mem _)
    have w4 : IntKind.i64.wrap (ix b 4) = ix b 4 := w64 (by omega) (by omega)
    simp [h, h0, w4]
  · simp [h]
theorem sealed_parts (k t : Int) (body : List Int) : ix (sealed (summed k t body)) 4 = k ∧ ix (sealed (summed k t body)) 5 = t ∧ (sealed (summed k t body)).drop 8 = body ++ List.replicate (56 - body.length) 0 := by
  unfold sealed
  obtain ⟨a, b, c, d, e⟩ : ∃ a b c d, lay (crc (summed k t body)).toNat 4 = [a, b, c, d] := ⟨_, _, _, _, rfl⟩
  rw [e]
  exact ⟨rfl, rfl, rfl⟩
theorem fulled (body : List Int) (h : body.length ≤ 56) : (body ++ List.replicate (56 - body.length) (0 : Int)).length = 56 := by
  simp
  omega
theorem is_sealed {k t : Int} {body : List Int} (hk : k ≠ 0) (hl : body.length ≤ 56) : Is (sealed (summed k t body)) := by
  obtain ⟨h4, h5, h8⟩ := sealed_parts k t body
  refine ⟨sealed_len (summed_len hl), by rw [h4]; exact hk, ?_⟩
  rw [h4, h5, h8, summed_full k t (fulled body hl)]
  rfl
theorem ix_byte {b : List Int} (hb : Bytes b) (j : Nat) (h : j < b.length) : 0 ≤ ix b (j : Int) ∧ ix b (j : Int) ≤ 255 := by
  rw [ix_nat h]
  exact hb _ (List.getElem_mem _)
theorem ropen_eq {fu : Nat} {b : List Int} (hb : Bytes b) (hf : 100 < fu) : rickyardref07_Open.f fu b = some (if Is b then (ix b 4, ix b 5, (b.drop 8).map toB, true) else (0, 0, [], false)) := by
  unfold rickyardref07_Open.f
  by_cases h : b.length = 64
  · have hL : (b.length : Int) = 64 := by omega
    have b4 := ix_byte hb 4 (by omega)
    have b5 := ix_byte hb 5 (by omega)
    rw [show ((4 : Nat) : Int) = 4 from rfl] at b4
    rw [show ((5 : Nat) : Int) = 5 from rfl] at b5
    have w4 : IntKind.i64.wrap (ix b 4) = ix b 4 := w64 (by omega) (by omega)
    have w5 : IntKind.i64.wrap (ix b 5) = ix b 5 := w64 (by omega) (by omega)
    have c2 : cut b 8 (b.length : Int) = b.drop 8 := by
      unfold cut
      rw [Int.toNat_natCast, List.take_length]
      rfl
    have h8 : (b.drop 8).length = 56 := by rw [List.length_drop, h]
    have hs : rickyardref07_Seal.f fu (ix b 4) (ix b 5) ((b.drop 8).map toB) = some ((sealed (summed (ix b 4) (ix b 5) (b.drop 8))).map toB) := rseal_eq (hb.drop 8) b4 b5 (by omega) hf
    have hq : (sealed (summed (ix b 4) (ix b 5) (b.drop 8))).map toB = b.map toB ↔ b = sealed (summed (ix b 4) (ix b 5) (b.drop 8)) :=
      (map_toB_iff (sealed_bytes (summed_bytes b4 b5 (hb.drop 8))) hb).trans ⟨Eq.symm, Eq.symm⟩
    rw [c2, w4, w5]
    by_cases h4 : ix b 4 = 0
    · have hi : ¬ Is b := fun x => x.2.1 h4
      simp [hL, h4, hi]
    · by_cases he : b = sealed (summed (ix b 4) (ix b 5) (b.drop 8))
      · have hi : Is b := ⟨h, h4, he⟩
        simp only [hs, hq.2 he]
        simp [hL, h4, hi]
      · have hi : ¬ Is b := fun x => he x.2.2
        have hne : ¬ (sealed (summed (ix b 4) (ix b 5) (b.drop 8))).map toB = b.map toB := fun x => he (hq.1 x)
        simp only [hs, hne]
        simp [hL, h4, hi]
        exact hne
  · have hi : ¬ Is b := fun x => h x.1
    have hL : ¬ (b.length : Int) = 64 := by omega
    simp [hL, hi]
theorem bytes_of {l : List Int} (h : ∀ x ∈ l, (Lit.int .u8 x).wf = true) : Bytes l := fun x hx => wf8.1 (h x hx)
end Go.Proofs.Ytjhajfkfhdnciaa.Pure

/- Blocks that are sealed anew; arrays filled place by place. -/
set_option linter.unusedVariables false
set_option linter.unusedSimpArgs false
namespace Go.Proofs.Ytjhajfkfhdnciaa.Pure
open Go Go.Xw
theorem summed_fulled (k t : Int) (body : List Int) (h : body.length ≤ 56) : summed k t body = summed k t (body ++ List.replicate (56 - body.length) 0) := by
  rw [summed_full k t (fulled body h)]
  rfl
theorem sealed_iff {b : List Int} (hi : Is b) {k t : Int} {body : List Int} (hl : body.length ≤ 56) : sealed (summed k t body) = b ↔ k = ix b 4 ∧ t = ix b 5 ∧ body ++ List.replicate (56 - body.length) 0 = b.drop 8 := by
  obtain ⟨p4, p5, p8⟩ := sealed_parts k t body
  constructor
  · intro e
    rw [← e]
    exact ⟨p4.symm, p5.symm, p8.symm⟩
  · rintro ⟨h1, h2, h3⟩
    rw [summed_fulled k t body hl, h1, h2, h3]
    exact hi.2.2.symm
theorem sealed_map_iff {b : List Int} (hb : Bytes b) (hi : Is b) {k t : Int} {body : List Int} (hk : 0 ≤ k ∧ k ≤ 255) (ht : 0 ≤ t ∧ t ≤ 255) (hbb : Bytes body) (hl : body.length ≤ 56) :
    (sealed (summed k t body)).map toB = b.map toB ↔ k = ix b 4 ∧ t = ix b 5 ∧ body ++ List.replicate (56 - body.length) 0 = b.drop 8 :=
  (map_toB_iff (sealed_bytes (summed_bytes hk ht hbb)) hb).trans (sealed_iff hi hl)
theorem is_tag {b : List Int} (hb : Bytes b) (hi : Is b) : (0 ≤ ix b 4 ∧ ix b 4 ≤ 255) ∧ (0 ≤ ix b 5 ∧ ix b 5 ≤ 255) := by
  have h0 := hi.1
  exact ⟨ix_byte hb 4 (by omega), ix_byte hb 5 (by omega)⟩
theorem is_body {b : List Int} (hi : Is b) : (b.drop 8).length = 56 := by rw [List.length_drop, hi.1]
theorem full_iff {body full : List Int} (hl : body.length ≤ 56) (hf : full.length = 56) : body ++ List.replicate (56 - body.length) 0 = full ↔ body = full.take body.length ∧ ∀ y ∈ full.drop body.length, y = 0 := by
  constructor
  · intro e
    subst e
    refine ⟨by simp, fun y hy => ?_⟩
    rw [List.drop_left' rfl] at hy
    exact List.eq_of_mem_replicate hy
  · rintro ⟨h1, h2⟩
    have h3 : full.drop body.length = List.replicate (56 - body.length) 0 := by
      apply List.eq_replicate_iff.2
      exact ⟨by rw [List.length_drop, hf], h2⟩
    rw [← h3]
    conv => lhs; lhs; rw [h1]
    exact List.take_append_drop _ _
/-! ### Arrays filled place by place -/
def fillA {n : Nat} {α : Type} (f : Nat → α) (a : Arr n α) : Nat → Arr n α
  | 0 => a
  | j + 1 => Arr.set (fillA f a j) (j : Int) (f j)
theorem fillA_l {n : Nat} {α : Type} (f : Nat → α) (a : Arr n α) : ∀ j, j ≤ n → (fillA f a j).l = (List.range j).map f ++ a.l.drop j
  | 0, _ => by simp [fillA]
  | j + 1, h => by
    have ih := fillA_l f a j (by omega)
    have ha := a.h
    show List.set (fillA f a j).l (Int.toNat (j : Int)) (f j) = _
    rw [ih, Int.toNat_natCast, List.set_append_right _ _ (by simp), List.length_map, List.length_range, Nat.sub_self, List.range_succ, List.map_append]
    rw [List.drop_eq_getElem_cons (by omega), List.set_cons_zero]
    simp
theorem fillA_all {n : Nat} {α : Type} (f : Nat → α) (a : Arr n α) : (fillA f a n).l = (List.range n).map f := by
  rw [fillA_l f a n (Nat.le_refl _)]
  have := a.h
  simp [← this]
theorem take_range {l : List Int} {n : Nat} (h : n ≤ l.length) : l.take n = (List.range n).map fun (j : Nat) => ix l (j : Int) := by
  apply List.ext_getElem
  · simp [h]
  · intro i h1 h2
    have hi : i < n := by simpa using h2
    simp [ix_nat (show i < l.length by omega)]
theorem getA {n : Nat} {α : Type} [Inhabited α] (a : Arr n α) {i : Nat} (hi : i < n) : Arr.get a (i : Int) = a.l[i]'(by rw [a.h]; exact hi) := by
  have hl : i < a.l.length := by rw [a.h]; exact hi
  simp [Arr.get, ix, List.getD_eq_getElem?_getD, List.getElem?_eq_getElem hl]
theorem lA {n : Nat} {α : Type} [Inhabited α] (a : Arr n α) : a.l = (List.range n).map fun (i : Nat) => Arr.get a (i : Int) := by
  apply List.ext_getElem
  · simp [a.h]
  · intro i h1 h2
    have hi : i < n := by rw [← a.h]; exact h1
    simp [getA a hi]
theorem getD_toB {l : List Int} (hb : Bytes l) {i : Nat} (h : i < l.length) : ofB (List.getD (l.map toB) (Int.toNat (i : Int)) 0) = ix l (i : Int) := by
  rw [Int.toNat_natCast, List.getD_eq_getElem?_getD, List.getElem?_map, List.getElem?_eq_getElem h, ix_nat h]
  have := of_toB (l := [l[i]]) (by intro x hx; obtain rfl := List.mem_singleton.1 hx; exact hb _ (List.getElem_mem h))
  simpa using this
end Go.Proofs.Ytjhajfkfhdnciaa.Pure

/- Numbers laid as octets and read again, as the program and the document do it. -/
set_option linter.unusedVariables false
set_option linter.unusedSimpArgs false
namespace Go.Proofs.Ytjhajfkfhdnciaa.Pure
open Go Go.Xw
def u64n (x : Int) : Nat := (x % 18446744073709551616).toNat
theorem u64_wrap (x : Int) : IntKind.u64.wrap x = (u64n x : Int) := by
  unfold u64n IntKind.wrap
  simp only [IntKind.signed, IntKind.bits]
  simp
  omega
theorem u64n_lt (x : Int) : u64n x < 18446744073709551616 := by
  unfold u64n
  omega
theorem u64n_of {x : Int} (h0 : 0 ≤ x) (h1 : x ≤ 18446744073709551615) : u64n x = x.toNat := by
  unfold u64n
  rw [Int.emod_eq_of_lt h0 (by omega)]
theorem i64_u64 {x : Int} (h0 : -9223372036854775808 ≤ x) (h1 : x ≤ 9223372036854775807) : IntKind.i64.wrap (u64n x : Int) = x := by
  unfold u64n IntKind.wrap
  simp only [IntKind.signed, IntKind.bits]
  simp
  split <;> omega
theorem olay64 {fu n : Nat} {x : Int} (hn : n ≤ 8) (hf : n < fu) : octet_Lay.f fu (IntKind.u64.wrap x) (n : Int) = some (lay (u64n x) n) := by
  rw [u64_wrap]
  exact olay_eq hn hf
theorem rlay64 {fu n : Nat} {x : Int} (hn : n ≤ 8) (hf : n < fu) : rickyardref01_Lay.f fu (IntKind.u64.wrap x) (n : Int) = some ((lay (u64n x) n).map toB) := by
  rw [u64_wrap]
  exact rlay_eq (u64n_lt x) hn hf
theorem num_lt8 {l : List Int} (hb : Bytes l) (hl : l.length ≤ 8) : num l < 18446744073709551616 := by
  have h1 := num_lt hb
  have h2 : (256 : Nat) ^ l.length ≤ 256 ^ 8 := Nat.pow_le_pow_right (by decide) hl
  have h3 : (256 : Nat) ^ 8 = 18446744073709551616 := by decide
  omega
theorem rnumber_eq {fu : Nat} {l : List Int} (hb : Bytes l) (hl : l.length ≤ 8) (hf : l.length < fu) : rickyardref01_Number.f fu (l.map toB) = some ((num l : Nat) : Int) := by
  unfold rickyardref01_Number.f
  have w0 : IntKind.i64.wrap (((l.map toB).length : Int) - 1) = (l.length : Int) - 1 := by rw [List.length_map, w64 (by omega) (by omega)]
  rw [w0]
  have : loopM (rickyardref01_Number.s0 fu (l.map toB)) fu (0, (l.length : Int) - 1) = some ((num l : Nat) : Int) := by
    refine loopM_run (S := fun j => (((num (l.drop (l.length - j)) : Nat) : Int), (l.length : Int) - 1 - (j : Int))) l.length (by simp [num]) ?_ ?_ hf
    · intro j hj
      unfold rickyardref01_Number.s0
      obtain ⟨i, hi⟩ : ∃ i : Nat, l.length - j = i + 1 := ⟨l.length - j - 1, by omega⟩
      have e1 : (l.length : Int) - 1 - (j : Int) = (i : Int) := by omega
      have hil : i < l.length := by omega
      have e2 : l.length - (j + 1) = i := by omega
      have c1 : (i : Int) ≥ 0 := by omega
      have c2 : (i : Int) < 8 := by omega
      have c3 : True ∧ (i : Int) < ((l.map toB).length : Int) := ⟨trivial, by rw [List.length_map]; omega⟩
      have w1 : IntKind.i64.wrap ((i : Int) - 1) = (l.length : Int) - 1 - ((j + 1 : Nat) : Int) := by rw [w64 (by omega) (by omega)]; omega
      have hcb := hb _ (List.getElem_mem hil)
      obtain ⟨c, hc⟩ : ∃ c : Nat, l[i] = (c : Int) := ⟨l[i].toNat, by omega⟩
      have hd : l.drop i = l[i] :: l.drop (i + 1) := List.drop_eq_getElem_cons hil
      have hn : num (l.drop i) = c + 256 * num (l.drop (i + 1)) := by rw [hd, num, hc, Int.toNat_natCast]
      have hlt := num_lt8 (hb.drop i) (by rw [List.length_drop]; omega)
      rw [hn] at hlt
      have w2 : IntKind.u64.wrap (((num (l.drop (i + 1)) : Nat) : Int) * 256) = ((num (l.drop (i + 1)) : Nat) : Int) * 256 := wu64 (by omega) (by omega)
      have w3 : IntKind.u64.wrap (ix l (i : Int)) = (c : Int) := by rw [ix_nat hil, hc, wu64 (by omega) (by omega)]
      have w4 : IntKind.u64.wrap (((num (l.drop (i + 1)) : Nat) : Int) * 256 + (c : Int)) = ((num (l.drop i) : Nat) : Int) := by rw [wu64 (by omega) (by omega), hn]; omega
      simp only [e1, hi, e2, getD_toB hb hil, w1, w2, w3, w4, c1, c2, decide_true, if_true]
      rw [if_pos c3]
      rfl
    · unfold rickyardref01_Number.s0
      have : ¬ (l.length : Int) - 1 - (l.length : Int) ≥ 0 := by omega
      simp only [this]
      simp
  rw [this]
  rfl
theorem rint_eq {fu : Nat} {l : List Int} (hb : Bytes l) (hl : l.length ≤ 8) (hf : l.length < fu) : rickyardref01_Int.f fu (l.map toB) = some (IntKind.i64.wrap ((num l : Nat) : Int)) := by
  unfold rickyardref01_Int.f
  rw [rnumber_eq hb hl hf]
  rfl
theorem num_small {l : List Int} (hb : Bytes l) (hl : l.length ≤ 7) : IntKind.i64.wrap ((num l : Nat) : Int) = ((num l : Nat) : Int) := by
  have h1 := num_lt hb
  have h2 : (256 : Nat) ^ l.length ≤ 256 ^ 7 := Nat.pow_le_pow_right (by decide) hl
  have h3 : (256 : Nat) ^ 7 = 72057594037927936 := by decide
  exact w64 (by omega) (by omega)
/-! ### Rows of fields of one width -/
/-- The i-th field of w octets. -/
def fieldAt (l : List Int) (w i : Nat) : List Int := (l.drop (w * i)).take w
theorem fieldAt_len {l : List Int} {w i n : Nat} (h : w * n ≤ l.length) (hi : i < n) : (fieldAt l w i).length = w := by
  have : w * (i + 1) ≤ w * n := Nat.mul_le_mul_left w hi
  rw [Nat.mul_succ] at this
  unfold fieldAt
  rw [List.length_take, List.length_drop]
  omega
theorem fieldAt_bytes {l : List Int} (hb : Bytes l) (w i : Nat) : Bytes (fieldAt l w i) := (hb.drop _).take _
theorem cut_eq (l : List Int) (i n : Nat) : cut l (i : Int) ((i + n : Nat) : Int) = (l.drop i).take n := by
  unfold cut
  rw [Int.toNat_natCast, Int.toNat_natCast, List.drop_take]
  congr 1
  omega
theorem flat_len {α : Type} {g : Nat → List α} {w : Nat} (hg : ∀ i, (g i).length = w) : ∀ n, ((List.range n).flatMap g).length = w * n
  | 0 => by simp
  | n + 1 => by
    rw [List.range_succ, List.flatMap_append, List.length_append, flat_len hg n]
    simp [hg, Nat.mul_succ]
theorem flat_succ {α : Type} (g : Nat → List α) (n : Nat) : (List.range (n + 1)).flatMap g = (List.range n).flatMap g ++ g n := by
  rw [List.range_succ, List.flatMap_append]
  simp
theorem flat_field {g : Nat → List Int} {w : Nat} (hg : ∀ i, (g i).length = w) {n i : Nat} (hi : i < n) (t : List Int) : fieldAt ((List.range n).flatMap g ++ t) w i = g i := by
  have e : (List.range n).flatMap g = (List.range i).flatMap g ++ (g i ++ ((List.range (n - i - 1)).map (i + 1 + ·)).flatMap g) := by
    have h1 : n = i + (1 + (n - i - 1)) := by omega
    conv => lhs; rw [h1]
    rw [List.range_add, List.flatMap_append, List.range_add, List.map_append, List.flatMap_append]
    congr 1
    simp [List.map_map, Function.comp_def, Nat.add_assoc]
  unfold fieldAt
  rw [e, List.append_assoc, List.drop_left' (flat_len hg i), List.append_assoc, List.take_left' (hg i)]
theorem field_flat {l : List Int} {w : Nat} : ∀ n, w * n ≤ l.length → (List.range n).flatMap (fieldAt l w) = l.take (w * n)
  | 0, _ => by simp
  | n + 1, h => by
    rw [Nat.mul_succ] at h
    rw [flat_succ, field_flat n (by omega), Nat.mul_succ, List.take_add]
    rfl
theorem flat_congr {α : Type} {g k : Nat → List α} {n : Nat} (h : ∀ i, i < n → g i = k i) : (List.range n).flatMap g = (List.range n).flatMap k := by
  induction n with
  | zero => rfl
  | succ n ih => rw [flat_succ, flat_succ, ih fun i hi => h i (by omega), h n (by omega)]
theorem flat_bytes {g : Nat → List Int} (hg : ∀ i, Bytes (g i)) (n : Nat) : Bytes ((List.range n).flatMap g) := by
  intro x hx
  obtain ⟨i, _, h⟩ := List.mem_flatMap.1 hx
  exact hg i x h
theorem flat_map {g : Nat → List Int} (n : Nat) : ((List.range n).flatMap g).map toB = (List.range n).flatMap fun i => (g i).map toB := by
  induction n with
  | zero => rfl
  | succ n ih => rw [flat_succ, flat_succ, List.map_append, ih]
end Go.Proofs.Ytjhajfkfhdnciaa.Pure

/- slices.Equal[[]int,int]: its model, and that the Go function computes it: written by gen.py. -/
set_option linter.unusedVariables false
namespace Go.Proofs.Ytjhajfkfhdnciaa
open Go Go.Xw
def slices_Equal.s0 (fu : Nat) (a0 : List Int) (a1 : List Int) : Int → Option (Sum (Sum Bool Unit) Int) := fun s2 => (if (decide (s2 < (List.length a0 : Int))) = true then (if 0 ≤ s2 ∧ s2 < (List.length a0 : Int) then (if 0 ≤ s2 ∧ s2 < (List.length a1 : Int) then (if (!decide ((ix a0 s2) = (ix a1 s2))) = true then some (Sum.inl (Sum.inl (false))) else some (Sum.inr ((IntKind.i64.wrap (s2 + 1))))) else none) else none) else some (Sum.inl (Sum.inr ())))
def slices_Equal.f (fu : Nat) (a0 : List Int) (a1 : List Int) : Option Bool := (if (!decide ((List.length a0 : Int) = (List.length a1 : Int))) = true then some (false) else ((loopM (slices_Equal.s0 fu a0 a1) fu (0)).bind fun e3 => match e3 with | Sum.inl p => some p | Sum.inr x6 => some (true)))
set_option maxRecDepth 100000 in
set_option maxHeartbeats 400000 in
theorem slices_Equal.ok (fu : Nat) (w : World) (a0 : List Int) (V0_0 : Value) (R0_0 : Rd (kI .i64) w V0_0 a0) (a1 : List Int) (V1_0 : Value) (R1_0 : Rd (kI .i64) w V1_0 a1) (r : Bool) (h : slices_Equal.f fu a0 a1 = some r) :
    Calls Try.prog 110 (([V0_0, V1_0] : List Value).toArray) w (fun e w' => ∃ v, e = .returned v ∧ v = .bool r ∧ Gr w w') := by
  unfold slices_Equal.f at h
  have fB : Gr w w := Fr.refl _ _
  refine calls_cw Try.func110 rfl Try.ntmps110 rfl ?_
  refine cw_seq ?_
  refine cw_region ?_
  refine ol_val (v := .bool false) (by exact xr_assign rfl rfl) rfl rfl rfl ?_
  refine ol_nil ?_
  refine cw_seq ?_
  refine cw_seq ?_
  refine cw_region ?_
  refine ol_val (v := V0_0) (by exact xr_move rfl rfl) rfl rfl rfl ?_
  refine ol_val (v := .int .i64 (List.length a0 : Int)) (by exact xr_lenR rfl Try.underlying45 rfl (R0_0.gr fB)) rfl rfl rfl ?_
  refine ol_val (v := V1_0) (by exact xr_move rfl rfl) rfl rfl rfl ?_
  refine ol_val (v := .int .i64 (List.length a1 : Int)) (by exact xr_lenR rfl Try.underlying45 rfl (R1_0.gr fB)) rfl rfl rfl ?_
  refine ol_val (v := .bool (!decide ((List.length a0 : Int) = (List.length a1 : Int)))) (by exact xr_neI rfl Try.underlying3 rfl rfl rfl) rfl rfl rfl ?_
  refine ol_nil ?_
  rcases is h with ⟨c1, h⟩ | ⟨c1, h⟩
  · refine cw_condT rfl c1 ?_
    refine cw_seq ?_
    refine cw_region ?_
    refine ol_val (v := .bool false) (by exact xr_assign rfl rfl) rfl rfl rfl ?_
    refine ol_nil ?_
    refine cw_ret ?_
    repeat (first | with_reducible refine thn_r ?_ | with_reducible refine blk_r ?_)
    obtain rfl := Option.some.inj h
    refine fin_ret1 Try.results110 rfl ?_
    exact ⟨_, rfl, rfl, fB⟩
  · refine cw_condF rfl c1 ?_
    refine cw_skip ?_
    refine cw_seq ?_
    refine cw_seq ?_
    refine cw_region ?_
    refine ol_val (v := V0_0) (by exact xr_move rfl rfl) rfl rfl rfl ?_
    refine ol_val (v := .int .i64 (List.length a0 : Int)) (by exact xr_lenR rfl Try.underlying45 rfl (R0_0.gr fB)) rfl rfl rfl ?_
    refine ol_val (v := .int .i64 0) (by exact xr_move rfl rfl) rfl rfl rfl ?_
    refine ol_nil ?_
    obtain ⟨e3, l4, h5⟩ := bs h
    refine cw_mid (fun ρ' w' => ∃ x6, e3 = Sum.inr x6 ∧ Gr w w') ?_ ?_
    · refine cw_block ?_
      refine cw_round (fun (s2 : Int) ρ' w' => ρ' 0 = V0_0 ∧ ρ' 1 = V1_0 ∧ ρ' 12 = .int .i64 (List.length a0 : Int) ∧ ρ' 13 = .int .i64 s2 ∧ Gr w w') l4 ?_ ?_
      · skip
        exact ⟨rfl, rfl, rfl, rfl, fB⟩
      · rintro s2 x9 ρ7 w8 ⟨e0, e1, e12, e13, fB⟩ h
        unfold slices_Equal.s0 at h
        refine cw_seq ?_
        refine cw_region ?_
        refine ol_val (v := .bool (decide (s2 < (List.length a0 : Int)))) (by exact xr_lss rfl e13 e12) rfl rfl rfl ?_
        refine ol_nil ?_
        refine cw_seq ?_
        rcases is h with ⟨c10, h⟩ | ⟨c10, h⟩
        · refine cw_condT rfl c10 ?_
          refine cw_skip ?_
          refine cw_seq ?_
          refine cw_block ?_
          refine cw_seq ?_
          refine cw_region ?_
          refine ol_val (v := .int .i64 s2) (by exact xr_move rfl e13) rfl rfl rfl ?_
          refine ol_val (v := .int .i64 s2) (by exact xr_assign rfl rfl) rfl rfl rfl ?_
          refine ol_nil ?_
          refine cw_seq ?_
          obtain ⟨g11, h⟩ := gs h
          obtain ⟨g12, h⟩ := gs h
          refine cw_drawL 8 [fun vz wz => vz = (V0_0 : Value), fun vz wz => vz = (.int .i64 s2 : Value), fun vz wz => vz = (.pointer (some ⟨(sb V0_0), so V0_0 + Int.toNat s2 * 1, none⟩) : Value), fun vz wz => vz = (.int .i64 (ix a0 s2) : Value), fun vz wz => vz = (V1_0 : Value), fun vz wz => vz = (.int .i64 s2 : Value), fun vz wz => vz = (.pointer (some ⟨(sb V1_0), so V1_0 + Int.toNat s2 * 1, none⟩) : Value), fun vz wz => vz = (.int .i64 (ix a1 s2) : Value)] mo rfl ⟨fun _ _ _ h _ => h, fun _ _ _ h _ => h, fun _ _ _ h _ => h, fun _ _ _ h _ => h, fun _ _ _ h _ => h, fun _ _ _ h _ => h, fun _ _ _ h _ => h, fun _ _ _ h _ => h, trivial⟩ ?_ ?_
          · refine ⟨?_, ?_, ?_, ?_, ?_, ?_, ?_, ?_, trivial⟩
            · intro ρz wz hz hk hd
              exact sk_val (v := V0_0) (by exact xr_move rfl ((hk 0 rfl).trans e0)) rfl rfl
            · intro ρz wz hz hk hd
              exact sk_val (v := .int .i64 s2) (by exact xr_move rfl ((hk 5 rfl).trans rfl)) rfl rfl
            · intro ρz wz hz hk hd
              have d16 := hd 0 rfl 16 rfl
              have d17 := hd 1 rfl 17 rfl
              exact sk_val (by exact xr_indexR (K := (kI .i64)) (v := V0_0) rfl Try.underlying45 sz3 d16 (R0_0.gr (fB.gr hz)) d17 g11.1 g11.2) rfl rfl
            · intro ρz wz hz hk hd
              have d18 := hd 2 rfl 18 rfl
              exact sk_val (v := .int .i64 (ix a0 s2)) (by exact xr_load1 (v := .int .i64 (ix a0 s2)) rfl ag3 d18 ((R0_0.gr (fB.gr hz)).elem g11.1 g11.2)) rfl rfl
            · intro ρz wz hz hk hd
              exact sk_val (v := V1_0) (by exact xr_move rfl ((hk 1 rfl).trans e1)) rfl rfl
            · intro ρz wz hz hk hd
              exact sk_val (v := .int .i64 s2) (by exact xr_move rfl ((hk 5 rfl).trans rfl)) rfl rfl
            · intro ρz wz hz hk hd
              have d20 := hd 4 rfl 20 rfl
              have d21 := hd 5 rfl 21 rfl
              exact sk_val (by exact xr_indexR (K := (kI .i64)) (v := V1_0) rfl Try.underlying45 sz3 d20 (R1_0.gr (fB.gr hz)) d21 g12.1 g12.2) rfl rfl
            · intro ρz wz hz hk hd
              have d22 := hd 6 rfl 22 rfl
              exact sk_val (v := .int .i64 (ix a1 s2)) (by exact xr_load1 (v := .int .i64 (ix a1 s2)) rfl ag3 d22 ((R1_0.gr (fB.gr hz)).elem g12.1 g12.2)) rfl rfl
          · intro ρ13 w14 q15 hk hd
            have e0 := (hk 0 rfl).trans e0
            have e1 := (hk 1 rfl).trans e1
            have e12 := (hk 12 rfl).trans e12
            have e13 := (hk 13 rfl).trans e13
            have e19 := hd 3 rfl 19 rfl
            have e23 := hd 7 rfl 23 rfl
            have fB := fB.gr q15
            refine ol_val (v := .bool (!decide ((ix a0 s2) = (ix a1 s2)))) (by exact xr_neI rfl Try.underlying3 rfl e19 e23) rfl rfl rfl ?_
            refine ol_nil ?_
            rcases is h with ⟨c16, h⟩ | ⟨c16, h⟩
            · refine cw_condT rfl c16 ?_
              refine cw_seq ?_
              refine cw_region ?_
              refine ol_val (v := .bool false) (by exact xr_assign rfl rfl) rfl rfl rfl ?_
              refine ol_nil ?_
              refine cw_ret ?_
              repeat (first | with_reducible refine thn_r ?_ | with_reducible refine blk_r ?_)
              obtain rfl := Option.some.inj h
              refine lp_ret ?_
              rintro rfl
              repeat (first | with_reducible refine thn_r ?_ | with_reducible refine blk_r ?_)
              have h := h5
              obtain rfl := Option.some.inj h
              refine fin_ret1 Try.results110 rfl ?_
              exact ⟨_, rfl, rfl, fB⟩
            · refine cw_condF rfl c16 ?_
              refine cw_skip ?_
              refine blk_i ?_
              refine cw_region ?_
              refine ol_val (v := .int .i64 (IntKind.i64.wrap (s2 + 1))) (by exact xr_add rfl e13 rfl) rfl rfl rfl ?_
              refine ol_val (v := .int .i64 (IntKind.i64.wrap (s2 + 1))) (by exact xr_move rfl rfl) rfl rfl rfl ?_
              refine ol_nil ?_
              obtain rfl := Option.some.inj h
              refine lp_in ?_
              exact ⟨e0, e1, e12, rfl, fB⟩
        · refine cw_condF rfl c10 ?_
          refine cw_exit ?_
          repeat (first | with_reducible refine thn_e ?_ | with_reducible refine blk_e rfl ?_)
          obtain rfl := Option.some.inj h
          refine lp_exit ?_
          rintro rfl
          refine thn_x ?_
          exact ⟨_, rfl, fB⟩
    · rintro ρ17 w18 ⟨x6, rfl, fB⟩
      have h := h5
      refine cw_seq ?_
      refine cw_region ?_
      refine ol_val (v := .bool true) (by exact xr_assign rfl rfl) rfl rfl rfl ?_
      refine ol_nil ?_
      refine cw_ret ?_
      repeat (first | with_reducible refine thn_r ?_ | with_reducible refine blk_r ?_)
      obtain rfl := Option.some.inj h
      refine fin_ret1 Try.results110 rfl ?_
      exact ⟨_, rfl, rfl, fB⟩
end Go.Proofs.Ytjhajfkfhdnciaa

/- Lists that are alike; rows of octets read as numbers. -/
set_option linter.unusedVariables false
set_option linter.unusedSimpArgs false
namespace Go.Proofs.Ytjhajfkfhdnciaa.Pure
open Go Go.Xw
theorem ix_ext {a b : List Int} (hl : a.length = b.length) (h : ∀ j, j < a.length → ix a (j : Int) = ix b (j : Int)) : a = b := by
  apply List.ext_getElem hl
  intro i h1 h2
  rw [← ix_nat h1, ← ix_nat h2]
  exact h i h1
theorem ints2_eq {fu : Nat} {a b : List Int} (ha : a.length ≤ 9000000000000000000) (hf : a.length < fu) : rickyardref01_Ints.f fu a b = some (decide (a = b)) := by
  unfold rickyardref01_Ints.f
  by_cases hl : a.length = b.length
  · have hL : (a.length : Int) = (b.length : Int) := by omega
    rw [decide_eq_true hL]
    simp only [Bool.not_true, Bool.false_eq_true, if_false]
    have hs : ∀ j : Nat, j < a.length → rickyardref01_Ints.s0 fu a b (j : Int) = some (if ix a (j : Int) = ix b (j : Int) then .inr ((j + 1 : Nat) : Int) else .inl (.inl false)) := by
      intro j hj
      unfold rickyardref01_Ints.s0
      have h1 : (j : Int) < (a.length : Int) := by omega
      have h2 : (j : Int) < (b.length : Int) := by omega
      have c0 : 0 ≤ (j : Int) := by omega
      have w3 : IntKind.i64.wrap ((j : Int) + 1) = ((j + 1 : Nat) : Int) := by rw [w64 (by omega) (by omega)]; omega
      simp only [h1, h2, c0, and_self, decide_true, if_true, w3]
      by_cases e : ix a (j : Int) = ix b (j : Int) <;> simp [e]
    by_cases h : a = b
    · have : loopM (rickyardref01_Ints.s0 fu a b) fu 0 = some (.inr ()) := by
        refine loopM_run (S := fun j => (j : Int)) a.length rfl (fun j hj => by rw [hs j hj, if_pos (by rw [h])]) ?_ hf
        unfold rickyardref01_Ints.s0
        simp
      rw [this]
      simp [h]
    · have : loopM (rickyardref01_Ints.s0 fu a b) fu 0 = some (.inl false) := by
        refine loopM_bad (S := fun j => (j : Int)) a.length (fun j => ix a (j : Int) = ix b (j : Int)) rfl ?_ (fun j hj _ hg => by rw [hs j hj, if_pos hg]) (fun j hj _ hg => by rw [hs j hj, if_neg hg]) hf
        apply Classical.byContradiction
        intro hx
        exact h (ix_ext hl fun i hi => Classical.byContradiction fun hg => hx ⟨i, hi, hg⟩)
      rw [this]
      simp [h]
  · have hL : ¬ (a.length : Int) = (b.length : Int) := by omega
    have h : ¬ a = b := fun e => hl (by rw [e])
    rw [decide_eq_false hL, decide_eq_false h]
    rfl
theorem equal_eq {fu : Nat} {a b : List Int} (ha : a.length ≤ 9000000000000000000) (hf : a.length < fu) : slices_Equal.f fu a b = some (decide (a = b)) := by
  unfold slices_Equal.f
  by_cases hl : a.length = b.length
  · have hL : (a.length : Int) = (b.length : Int) := by omega
    rw [decide_eq_true hL]
    simp only [Bool.not_true, Bool.false_eq_true, if_false]
    have hs : ∀ j : Nat, j < a.length → slices_Equal.s0 fu a b (j : Int) = some (if ix a (j : Int) = ix b (j : Int) then .inr ((j + 1 : Nat) : Int) else .inl (.inl false)) := by
      intro j hj
      unfold slices_Equal.s0
      have h1 : (j : Int) < (a.length : Int) := by omega
      have h2 : (j : Int) < (b.length : Int) := by omega
      have c0 : 0 ≤ (j : Int) := by omega
      have w3 : IntKind.i64.wrap ((j : Int) + 1) = ((j + 1 : Nat) : Int) := by rw [w64 (by omega) (by omega)]; omega
      simp only [h1, h2, c0, and_self, decide_true, if_true, w3]
      by_cases e : ix a (j : Int) = ix b (j : Int) <;> simp [e]
    by_cases h : a = b
    · have : loopM (slices_Equal.s0 fu a b) fu 0 = some (.inr ()) := by
        refine loopM_run (S := fun j => (j : Int)) a.length rfl (fun j hj => by rw [hs j hj, if_pos (by rw [h])]) ?_ hf
        unfold slices_Equal.s0
        simp
      rw [this]
      simp [h]
    · have : loopM (slices_Equal.s0 fu a b) fu 0 = some (.inl false) := by
        refine loopM_bad (S := fun j => (j : Int)) a.length (fun j => ix a (j : Int) = ix b (j : Int)) rfl ?_ (fun j hj _ hg => by rw [hs j hj, if_pos hg]) (fun j hj _ hg => by rw [hs j hj, if_neg hg]) hf
        apply Classical.byContradiction
        intro hx
        exact h (ix_ext hl fun i hi => Classical.byContradiction fun hg => hx ⟨i, hi, hg⟩)
      rw [this]
      simp [h]
  · have hL : ¬ (a.length : Int) = (b.length : Int) := by omega
    have h : ¬ a = b := fun e => hl (by rw [e])
    rw [decide_eq_false hL, decide_eq_false h]
    rfl
def rowE (l : List Int) (n : Nat) : List Int := (List.range n).flatMap fun (i : Nat) => lay (u64n (ix l (i : Int))) 2
theorem rowE_len (l : List Int) (n : Nat) : (rowE l n).length = 2 * n := flat_len (fun i => lay_len _ _) n
theorem rowE_bytes (l : List Int) (n : Nat) : Bytes (rowE l n) := flat_bytes (fun i => lay_bytes _ _) n
theorem lim_of' {a b : Nat} (h : a + b ≤ 1000) : a + b ≤ LIM := by
  have : (1000 : Nat) ≤ LIM := by decide
  omega
def part (l : List Int) (i n : Nat) : List Int := (l.drop i).take n
theorem part_len {l : List Int} {i n : Nat} (h : i + n ≤ l.length) : (part l i n).length = n := by
  unfold part
  rw [List.length_take, List.length_drop]
  omega
theorem part_bytes {l : List Int} (hb : Bytes l) (i n : Nat) : Bytes (part l i n) := (hb.drop i).take n
def intAt (l : List Int) (i n : Nat) : Int := IntKind.i64.wrap ((num (part l i n) : Nat) : Int)
theorem rintAt_eq {fu : Nat} {b : List Int} {i n : Nat} (hb : Bytes b) (h : i + n ≤ b.length) (hn : n ≤ 8) (hf : 100 < fu) : rickyardref01_Int.f fu (cut (b.map toB) (i : Int) ((i + n : Nat) : Int)) = some (intAt b i n) := by
  have e : cut (b.map toB) (i : Int) ((i + n : Nat) : Int) = (part b i n).map toB := by
    unfold cut part
    rw [Int.toNat_natCast, Int.toNat_natCast, List.drop_take, ← List.map_drop, ← List.map_take]
    congr 2
    omega
  rw [e, rint_eq (part_bytes hb i n) (by rw [part_len h]; exact hn) (by rw [part_len h]; omega)]
  rfl
theorem u64n_i64 {n : Nat} (h : n < 18446744073709551616) : u64n (IntKind.i64.wrap (n : Int)) = n := by
  unfold u64n IntKind.wrap
  simp only [IntKind.signed, IntKind.bits]
  simp
  split <;> omega
theorem lay_part {l : List Int} {i n : Nat} (hb : Bytes l) (h : i + n ≤ l.length) (hn : n ≤ 8) : lay (u64n (intAt l i n)) n = part l i n := by
  have hpl := part_len h
  have hpb := part_bytes hb i n
  unfold intAt
  rw [u64n_i64 (num_lt8 hpb (by omega))]
  have := lay_num hpb
  rwa [hpl] at this
theorem intAt_small {l : List Int} {i n : Nat} (hb : Bytes l) (h : i + n ≤ l.length) (hn : n ≤ 7) : intAt l i n = ((num (part l i n) : Nat) : Int) := num_small (part_bytes hb i n) (by rw [part_len h]; exact hn)
theorem ix_map {f : Nat → Int} {t i : Nat} (h : i < t) : ix ((List.range t).map f) (i : Int) = f i := by
  rw [ix_nat (by simpa using h)]
  simp
end Go.Proofs.Ytjhajfkfhdnciaa.Pure

/- Runes of texts, and which texts are names, as the program and the document tell it. -/
set_option linter.unusedVariables false
set_option linter.unusedSimpArgs false
namespace Go.Proofs.Ytjhajfkfhdnciaa.Pure
open Go Go.Xw
def oct (m : List UInt8) (k : Nat) : Nat := (m.getD k 0).toNat
theorem oct_lt (m : List UInt8) (k : Nat) : oct m k < 256 := (m.getD k 0).toNat_lt
/-- The first rune, and how many octets it has, out of the first four octets and how many there are. -/
def fst4 (c0 c1 c2 c3 n : Nat) : Nat × Nat :=
  if c0 < 128 then (c0, 1)
  else if (194 ≤ c0 ∧ c0 ≤ 223) ∧ (1 < n ∧ 128 ≤ c1 ∧ c1 ≤ 191) then ((c0 - 192) * 64 + (c1 - 128), 2)
  else if (224 ≤ c0 ∧ c0 ≤ 239) ∧ (1 < n ∧ (if c0 = 224 then 160 else 128) ≤ c1 ∧ c1 ≤ (if c0 = 237 then 159 else 191)) ∧ (2 < n ∧ 128 ≤ c2 ∧ c2 ≤ 191) then ((c0 - 224) * 4096 + (c1 - 128) * 64 + (c2 - 128), 3)
  else if (240 ≤ c0 ∧ c0 ≤ 244) ∧ (1 < n ∧ (if c0 = 240 then 144 else 128) ≤ c1 ∧ c1 ≤ (if c0 = 244 then 143 else 191)) ∧ (2 < n ∧ 128 ≤ c2 ∧ c2 ≤ 191) ∧ (3 < n ∧ 128 ≤ c3 ∧ c3 ≤ 191) then ((c0 - 240) * 262144 + (c1 - 128) * 4096 + (c2 - 128) * 64 + (c3 - 128), 4)
  else (65533, 1)
def first (m : List UInt8) : Nat × Nat := fst4 (oct m 0) (oct m 1) (oct m 2) (oct m 3) m.length
def dec4 (c0 c1 c2 c3 : Nat) (k1 k2 k3 : Bool) : Nat × Nat :=
  if c0 < 0x80 then (c0, 1)
  else if (c0 / 32 == 6 && (k1 && c1 / 64 == 2)) = true then
    (if (c0 % 32) * 64 + c1 % 64 ≥ 0x80 then ((c0 % 32) * 64 + c1 % 64, 2) else (0xFFFD, 1))
  else if (c0 / 16 == 14 && (k1 && c1 / 64 == 2) && (k2 && c2 / 64 == 2)) = true then
    (if (decide ((c0 % 16) * 4096 + (c1 % 64) * 64 + c2 % 64 ≥ 0x800) && Utf8.valid (((c0 % 16) * 4096 + (c1 % 64) * 64 + c2 % 64 : Nat) : Int)) = true then ((c0 % 16) * 4096 + (c1 % 64) * 64 + c2 % 64, 3) else (0xFFFD, 1))
  else if (c0 / 8 == 30 && (k1 && c1 / 64 == 2) && (k2 && c2 / 64 == 2) && (k3 && c3 / 64 == 2)) = true then
    (if (decide ((c0 % 8) * 262144 + (c1 % 64) * 4096 + (c2 % 64) * 64 + c3 % 64 ≥ 0x10000) && Utf8.valid (((c0 % 8) * 262144 + (c1 % 64) * 4096 + (c2 % 64) * 64 + c3 % 64 : Nat) : Int)) = true then ((c0 % 8) * 262144 + (c1 % 64) * 4096 + (c2 % 64) * 64 + c3 % 64, 4) else (0xFFFD, 1))
  else (0xFFFD, 1)
theorem dec_fst {c0 c1 c2 c3 n : Nat} (b0 : c0 < 256) (b1 : c1 < 256) (b2 : c2 < 256) (b3 : c3 < 256) : dec4 c0 c1 c2 c3 (decide (1 < n)) (decide (2 < n)) (decide (3 < n)) = fst4 c0 c1 c2 c3 n := by
  unfold dec4 fst4 Utf8.valid
  simp only [Bool.and_eq_true, Bool.or_eq_true, beq_iff_eq, decide_eq_true_eq]
  by_cases h0 : c0 < 128
  · rw [if_pos h0, if_pos h0]
  · rw [if_neg h0, if_neg h0]
    by_cases k1 : 1 < n ∧ 128 ≤ c1 ∧ c1 ≤ 191
    · have e1 : 1 < n ∧ c1 / 64 = 2 := by omega
      by_cases r2 : 192 ≤ c0 ∧ c0 ≤ 223
      · rw [if_pos (show c0 / 32 = 6 ∧ 1 < n ∧ c1 / 64 = 2 from ⟨by omega, e1⟩)]
        by_cases l2 : 194 ≤ c0
        · rw [if_pos (by omega), if_pos ⟨⟨l2, r2.2⟩, k1⟩]
          exact Prod.ext (by simp only; omega) rfl
        · rw [if_neg (by omega), if_neg (fun x => l2 x.1.1), if_neg (fun x => by have := x.1; omega), if_neg (fun x => by have := x.1; omega)]
      · rw [if_neg (show ¬ (c0 / 32 = 6 ∧ 1 < n ∧ c1 / 64 = 2) from fun x => by have := x.1; omega), if_neg (show ¬ ((194 ≤ c0 ∧ c0 ≤ 223) ∧ (1 < n ∧ 128 ≤ c1 ∧ c1 ≤ 191)) from fun x => by have := x.1; omega)]
        by_cases k2 : 2 < n ∧ 128 ≤ c2 ∧ c2 ≤ 191
        · have e2 : 2 < n ∧ c2 / 64 = 2 := by omega
          by_cases r3 : 224 ≤ c0 ∧ c0 ≤ 239
          · rw [if_pos (show (c0 / 16 = 14 ∧ 1 < n ∧ c1 / 64 = 2) ∧ 2 < n ∧ c2 / 64 = 2 from ⟨⟨by omega, e1⟩, e2⟩)]
            by_cases l3 : (if c0 = 224 then 160 else 128) ≤ c1 ∧ c1 ≤ (if c0 = 237 then 159 else 191)
            · rw [if_pos (show (224 ≤ c0 ∧ c0 ≤ 239) ∧ (1 < n ∧ (if c0 = 224 then 160 else 128) ≤ c1 ∧ c1 ≤ (if c0 = 237 then 159 else 191)) ∧ (2 < n ∧ 128 ≤ c2 ∧ c2 ≤ 191) from ⟨r3, ⟨k1.1, l3⟩, k2⟩)]
              have hl1 : c0 = 224 → 160 ≤ c1 := fun e => by have := l3.1; rwa [if_pos e] at this
              have hl2 : c0 = 237 → c1 ≤ 159 := fun e => by have := l3.2; rwa [if_pos e] at this
              rw [if_pos (by omega)]
              exact Prod.ext (by simp only; omega) rfl
            · rw [if_neg (show ¬ ((224 ≤ c0 ∧ c0 ≤ 239) ∧ (1 < n ∧ (if c0 = 224 then 160 else 128) ≤ c1 ∧ c1 ≤ (if c0 = 237 then 159 else 191)) ∧ (2 < n ∧ 128 ≤ c2 ∧ c2 ≤ 191)) from fun x => l3 x.2.1.2), if_neg (show ¬ ((240 ≤ c0 ∧ c0 ≤ 244) ∧ _) from fun x => by have := x.1; omega)]
              have hl : (c0 = 224 ∧ c1 < 160) ∨ (c0 = 237 ∧ 159 < c1) := by
                by_cases e4 : c0 = 224
                · left
                  refine ⟨e4, ?_⟩
                  apply Classical.byContradiction
                  intro hh
                  apply l3
                  rw [if_pos e4, if_neg (by omega)]
                  omega
                · right
                  by_cases e7 : c0 = 237
                  · refine ⟨e7, ?_⟩
                    apply Classical.byContradiction
                    intro hh
                    apply l3
                    rw [if_neg e4, if_pos e7]
                    omega
                  · exfalso
                    apply l3
                    rw [if_neg e4, if_neg e7]
                    omega
              rw [if_neg (by omega)]
          · rw [if_neg (show ¬ ((c0 / 16 = 14 ∧ 1 < n ∧ c1 / 64 = 2) ∧ 2 < n ∧ c2 / 64 = 2) from fun x => by have := x.1.1; omega), if_neg (show ¬ ((224 ≤ c0 ∧ c0 ≤ 239) ∧ _) from fun x => r3 x.1)]
            by_cases k3 : 3 < n ∧ 128 ≤ c3 ∧ c3 ≤ 191
            · have e3 : 3 < n ∧ c3 / 64 = 2 := by omega
              by_cases r4 : 240 ≤ c0 ∧ c0 ≤ 247
              · rw [if_pos (show ((c0 / 8 = 30 ∧ 1 < n ∧ c1 / 64 = 2) ∧ 2 < n ∧ c2 / 64 = 2) ∧ 3 < n ∧ c3 / 64 = 2 from ⟨⟨⟨by omega, e1⟩, e2⟩, e3⟩)]
                by_cases l4 : c0 ≤ 244 ∧ (if c0 = 240 then 144 else 128) ≤ c1 ∧ c1 ≤ (if c0 = 244 then 143 else 191)
                · rw [if_pos (show (240 ≤ c0 ∧ c0 ≤ 244) ∧ (1 < n ∧ (if c0 = 240 then 144 else 128) ≤ c1 ∧ c1 ≤ (if c0 = 244 then 143 else 191)) ∧ (2 < n ∧ 128 ≤ c2 ∧ c2 ≤ 191) ∧ (3 < n ∧ 128 ≤ c3 ∧ c3 ≤ 191) from ⟨⟨r4.1, l4.1⟩, ⟨k1.1, l4.2⟩, k2, k3⟩)]
                  have hl1 : c0 = 240 → 144 ≤ c1 := fun e => by have := l4.2.1; rwa [if_pos e] at this
                  have hl2 : c0 = 244 → c1 ≤ 143 := fun e => by have := l4.2.2; rwa [if_pos e] at this
                  rw [if_pos (by omega)]
                  exact Prod.ext (by simp only; omega) rfl
                · rw [if_neg (show ¬ ((240 ≤ c0 ∧ c0 ≤ 244) ∧ (1 < n ∧ (if c0 = 240 then 144 else 128) ≤ c1 ∧ c1 ≤ (if c0 = 244 then 143 else 191)) ∧ (2 < n ∧ 128 ≤ c2 ∧ c2 ≤ 191) ∧ (3 < n ∧ 128 ≤ c3 ∧ c3 ≤ 191)) from fun x => l4 ⟨x.1.2, x.2.1.2⟩)]
                  have hl : 244 < c0 ∨ (c0 = 240 ∧ c1 < 144) ∨ (c0 = 244 ∧ 143 < c1) := by
                    by_cases e5 : 244 < c0
                    · exact .inl e5
                    · by_cases e4 : c0 = 240
                      · right
                        left
                        refine ⟨e4, ?_⟩
                        apply Classical.byContradiction
                        intro hh
                        apply l4
                        rw [if_pos e4, if_neg (by omega)]
                        omega
                      · right
                        right
                        by_cases e7 : c0 = 244
                        · refine ⟨e7, ?_⟩
                          apply Classical.byContradiction
                          intro hh
                          apply l4
                          rw [if_neg e4, if_pos e7]
                          omega
                        · exfalso
                          apply l4
                          rw [if_neg e4, if_neg e7]
                          omega
                  rw [if_neg (by omega)]
              · rw [if_neg (show ¬ (((c0 / 8 = 30 ∧ 1 < n ∧ c1 / 64 = 2) ∧ 2 < n ∧ c2 / 64 = 2) ∧ 3 < n ∧ c3 / 64 = 2) from fun x => by have := x.1.1.1; omega), if_neg (show ¬ ((240 ≤ c0 ∧ c0 ≤ 244) ∧ _) from fun x => by have := x.1; omega)]
            · rw [if_neg (show ¬ (((c0 / 8 = 30 ∧ 1 < n ∧ c1 / 64 = 2) ∧ 2 < n ∧ c2 / 64 = 2) ∧ 3 < n ∧ c3 / 64 = 2) from fun x => k3 (by have := x.2; omega)), if_neg (fun x => k3 x.2.2.2)]
        · rw [if_neg (show ¬ ((c0 / 16 = 14 ∧ 1 < n ∧ c1 / 64 = 2) ∧ 2 < n ∧ c2 / 64 = 2) from fun x => k2 (by have := x.2; omega)), if_neg (show ¬ (((c0 / 8 = 30 ∧ 1 < n ∧ c1 / 64 = 2) ∧ 2 < n ∧ c2 / 64 = 2) ∧ 3 < n ∧ c3 / 64 = 2) from fun x => k2 (by have := x.1.2; omega)), if_neg (fun x => k2 x.2.2), if_neg (fun x => k2 x.2.2.1)]
    · have q3 : (224 ≤ c0 ∧ c0 ≤ 239) ∧ (1 < n ∧ (if c0 = 224 then 160 else 128) ≤ c1 ∧ c1 ≤ (if c0 = 237 then 159 else 191)) ∧ (2 < n ∧ 128 ≤ c2 ∧ c2 ≤ 191) → False := by
        rintro ⟨_, ⟨h1, h2, h3⟩, _⟩
        have h4 : (128 : Nat) ≤ if c0 = 224 then 160 else 128 := by split <;> omega
        have h5 : (if c0 = 237 then 159 else 191) ≤ 191 := by split <;> omega
        exact k1 ⟨h1, by omega, by omega⟩
      have q4 : (240 ≤ c0 ∧ c0 ≤ 244) ∧ (1 < n ∧ (if c0 = 240 then 144 else 128) ≤ c1 ∧ c1 ≤ (if c0 = 244 then 143 else 191)) ∧ (2 < n ∧ 128 ≤ c2 ∧ c2 ≤ 191) ∧ (3 < n ∧ 128 ≤ c3 ∧ c3 ≤ 191) → False := by
        rintro ⟨_, ⟨h1, h2, h3⟩, _⟩
        have h4 : (128 : Nat) ≤ if c0 = 240 then 144 else 128 := by split <;> omega
        have h5 : (if c0 = 244 then 143 else 191) ≤ 191 := by split <;> omega
        exact k1 ⟨h1, by omega, by omega⟩
      rw [if_neg (show ¬ (c0 / 32 = 6 ∧ 1 < n ∧ c1 / 64 = 2) from fun x => k1 (by have := x.2; omega)), if_neg (show ¬ ((c0 / 16 = 14 ∧ 1 < n ∧ c1 / 64 = 2) ∧ 2 < n ∧ c2 / 64 = 2) from fun x => k1 (by have := x.1.2; omega)), if_neg (show ¬ (((c0 / 8 = 30 ∧ 1 < n ∧ c1 / 64 = 2) ∧ 2 < n ∧ c2 / 64 = 2) ∧ 3 < n ∧ c3 / 64 = 2) from fun x => k1 (by have := x.1.1.2; omega)), if_neg (fun x => k1 x.2), if_neg q3, if_neg q4]
theorem decode_eq (l : List UInt8) (i : Nat) : Utf8.decode ⟨l.toArray⟩ i = first (l.drop i) := by
  have hg : ∀ k, ((⟨l.toArray⟩ : ByteArray).get! (i + k)).toNat = oct (l.drop i) k := by
    intro k
    unfold oct
    rw [List.getD_eq_getElem?_getD, List.getElem?_drop]
    show ((l.toArray)[i + k]!).toNat = _
    rw [getElem!_def]
    simp
    cases l[i + k]? <;> rfl
  have hs : ∀ k, decide (i + k < (⟨l.toArray⟩ : ByteArray).size) = decide (k < (l.drop i).length) := by
    intro k
    apply decide_eq_decide.2
    rw [List.length_drop]
    show i + k < l.toArray.size ↔ _
    rw [List.size_toArray]
    omega
  have e : Utf8.decode ⟨l.toArray⟩ i = dec4 (oct (l.drop i) 0) (oct (l.drop i) 1) (oct (l.drop i) 2) (oct (l.drop i) 3) (decide (1 < (l.drop i).length)) (decide (2 < (l.drop i).length)) (decide (3 < (l.drop i).length)) := by
    unfold Utf8.decode dec4
    simp only [hg, hs, Utf8.runeError]
  rw [e]
  exact dec_fst (oct_lt _ _) (oct_lt _ _) (oct_lt _ _) (oct_lt _ _)
theorem first_wide {m : List UInt8} (h : 0 < m.length) : 1 ≤ (first m).2 ∧ (first m).2 ≤ m.length := by
  unfold first
  generalize oct m 0 = c0
  generalize oct m 1 = c1
  generalize oct m 2 = c2
  generalize oct m 3 = c3
  generalize m.length = n at *
  unfold fst4
  by_cases h0 : c0 < 128
  · rw [if_pos h0]
    exact ⟨Nat.le_refl _, h⟩
  · rw [if_neg h0]
    by_cases h2 : (194 ≤ c0 ∧ c0 ≤ 223) ∧ (1 < n ∧ 128 ≤ c1 ∧ c1 ≤ 191)
    · rw [if_pos h2]
      have := h2.2.1
      exact ⟨by simp, by simp only; omega⟩
    · rw [if_neg h2]
      by_cases h3 : (224 ≤ c0 ∧ c0 ≤ 239) ∧ (1 < n ∧ (if c0 = 224 then 160 else 128) ≤ c1 ∧ c1 ≤ (if c0 = 237 then 159 else 191)) ∧ (2 < n ∧ 128 ≤ c2 ∧ c2 ≤ 191)
      · rw [if_pos h3]
        have := h3.2.2.1
        exact ⟨by simp, by simp only; omega⟩
      · rw [if_neg h3]
        by_cases h4 : (240 ≤ c0 ∧ c0 ≤ 244) ∧ (1 < n ∧ (if c0 = 240 then 144 else 128) ≤ c1 ∧ c1 ≤ (if c0 = 244 then 143 else 191)) ∧ (2 < n ∧ 128 ≤ c2 ∧ c2 ≤ 191) ∧ (3 < n ∧ 128 ≤ c3 ∧ c3 ≤ 191)
        · rw [if_pos h4]
          have := h4.2.2.2.1
          exact ⟨by simp, by simp only; omega⟩
        · rw [if_neg h4]
          exact ⟨Nat.le_refl _, h⟩
end Go.Proofs.Ytjhajfkfhdnciaa.Pure
