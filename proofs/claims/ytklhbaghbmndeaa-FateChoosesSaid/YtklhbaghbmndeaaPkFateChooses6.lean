/- FateChooses: texts merged, part 6 of 8. The last part proves that the law FateChooses holds for every input. -/
import Derived.Test.YtklhbaghbmndeaaPkFateChooses5
import Derived.ProofKit
import Derived.OpenShut
import Derived.ChangeOld
import Derived.Below
import Derived.SizedLaws
import Derived.WalkKit
/- rickyard/rickyardref06.Choose: its model, and that the Go function computes it: written by gen.py. -/
set_option linter.unusedVariables false
namespace Go.Proofs.Ytklhbaghbmndeaa
open Go Go.Xw
def rickyardref06_Choose.s3 (fu : Nat) (a1 : List UInt8) (t20 : (List S_api_Fate)) (s27 : (List Int) × Int × (List Int)) : (Int × Int × (List Int)) → Option (Sum (Int × (List Int)) (Int × Int × (List Int))) := fun s42 => (if (decide (s42.2.1 ≥ 0)) = true then (if 0 ≤ s27.2.1 ∧ s27.2.1 < (List.length t20 : Int) then ((rickyardref05_Value.f fu (ix t20 s27.2.1) s42.2.1 : Option Int).bind fun t51 => ((rickyardref05_Text.f fu [t51] : Option (List UInt8)).bind fun t60 => (if 0 ≤ s27.2.1 ∧ s27.2.1 < (List.length t20 : Int) then (if 0 ≤ s27.2.1 ∧ s27.2.1 < (List.length t20 : Int) then (if (0 : Int) ≤ (IntKind.i64.wrap (8 * ((ix t20 s27.2.1).At))) ∧ (IntKind.i64.wrap (8 * ((ix t20 s27.2.1).At))) ≤ (IntKind.i64.wrap ((IntKind.i64.wrap (8 * ((ix t20 s27.2.1).At))) + 8)) ∧ (IntKind.i64.wrap ((IntKind.i64.wrap (8 * ((ix t20 s27.2.1).At))) + 8)) ≤ (List.length a1 : Int) then (((if (decide (t60 = (cut a1 (IntKind.i64.wrap (8 * ((ix t20 s27.2.1).At))) (IntKind.i64.wrap ((IntKind.i64.wrap (8 * ((ix t20 s27.2.1).At))) + 8))))) = true then (if 0 ≤ s27.2.1 ∧ s27.2.1 < (List.length t20 : Int) then (if 0 ≤ (ix t20 s27.2.1).At ∧ (ix t20 s27.2.1).At < (List.length s42.2.2 : Int) then some (s42.2.1, (List.set s42.2.2 (Int.toNat ((ix t20 s27.2.1).At)) t51)) else none) else none) else some (s42.1, s42.2.2)) : Option (Int × (List Int))).bind fun x69 => some (Sum.inr (x69.1, (IntKind.i64.wrap (s42.2.1 - 1)), x69.2))) else none) else none) else none))) else none) else some (Sum.inl (s42.1, s42.2.2)))
def rickyardref06_Choose.s2 (fu : Nat) (a1 : List UInt8) (t20 : (List S_api_Fate)) : ((List Int) × Int × (List Int)) → Option (Sum (Sum ((List Int) × Bool) ((List Int) × (List Int))) ((List Int) × Int × (List Int))) := fun s27 => (if (decide (s27.2.1 < (List.length t20 : Int))) = true then ((loopM (rickyardref06_Choose.s3 fu a1 t20 s27) fu ((-1), 2, s27.2.2)).bind fun e43 => (if (decide (e43.1 < 0)) = true then some (Sum.inl (Sum.inl ([], false))) else (if List.length s27.1 + List.length [e43.1] ≤ LIM then some (Sum.inr ((s27.1 ++ [e43.1]), (IntKind.i64.wrap (s27.2.1 + 1)), e43.2)) else none))) else some (Sum.inl (Sum.inr (s27.1, s27.2.2))))
def rickyardref06_Choose.f (fu : Nat) (a0 : S_rickyardref05_Device) (a1 : List UInt8) : Option ((List Int) × Bool) := (if (!decide ((List.length a1 : Int) = (IntKind.i64.wrap (8 * (List.length a0.Lasts : Int))))) = true then some ([], false) else (if List.length ([] : List Int) + List.length a0.Lasts ≤ LIM then ((rickyardref05_Device_Fates.f fu a0 : Option (List S_api_Fate)).bind fun t20 => ((loopM (rickyardref06_Choose.s2 fu a1 t20) fu ([], 0, (([] : List Int) ++ a0.Lasts))).bind fun e28 => match e28 with | Sum.inl p => some p | Sum.inr x31 => ((rickyardref05_Text.f fu x31.2 : Option (List UInt8)).bind fun t106 => some (x31.1, (decide (t106 = a1)))))) else none))
set_option maxRecDepth 100000 in
set_option maxHeartbeats 400000 in
theorem rickyardref06_Choose.ok (fu : Nat) (w : World) (a0 : S_rickyardref05_Device) (G_0 : Nat) (V0_0 : Value) (R0_0 : Rd (kI .u64) w V0_0 a0.Lasts) (V0_1 : Value) (R0_1 : Rd (kI .u64) w V0_1 a0.Stored) (V0_2 : Value) (R0_2 : Rd (kI .u64) w V0_2 a0.Sent) (V0_3 : Value) (R0_3 : Rd kB w V0_3 a0.Flushed) (V0_4 : Value) (R0_4 : Rd (kI .i64) w V0_4 a0.Plan) (b_0 : Blk w G_0 65 [Seg.cell V0_0 R0_0.one, Seg.cell V0_1 R0_1.one, Seg.cell V0_2 R0_2.one, Seg.cell V0_3 R0_3.one, Seg.cell V0_4 R0_4.one, Seg.cell (.int .i64 a0.Since), Seg.cell (.int .i64 a0.Left), Seg.cell (.int .i64 a0.Steps)]) (a1 : List UInt8) (r : (List Int) × Bool) (h : rickyardref06_Choose.f fu a0 a1 = some r) :
    Calls Try.prog 64 (([.pointer (some ⟨G_0, 0, none⟩), sv a1] : List Value).toArray) w (fun e w' => ∃ v, e = .returned v ∧ ∃ u1 : Value, ∃ o2 : Own (kI .i64) 3 w' w.heap.size u1 r.1, v = .tuple #[u1, .bool r.2] ∧ Gr w w') := by
  unfold rickyardref06_Choose.f at h
  have fB : Gr w w := Fr.refl _ _
  refine calls_cw Try.func64 rfl Try.ntmps64 rfl ?_
  refine cw_seq ?_
  refine cw_region ?_
  refine ol_val (v := .slice none 0 0) (by exact xr_assign rfl rfl) rfl rfl rfl ?_
  refine ol_val (v := .bool false) (by exact xr_assign rfl rfl) rfl rfl rfl ?_
  refine ol_nil ?_
  refine cw_seq ?_
  refine cw_seq ?_
  refine cw_region ?_
  refine ol_val (v := sv a1) (by exact xr_move rfl rfl) rfl rfl rfl ?_
  refine ol_val (v := .int .i64 (List.length a1 : Int)) (by exact xr_lenStr rfl Try.underlying9 rfl) rfl rfl rfl ?_
  refine ol_val (v := .pointer (some ⟨G_0, 0, none⟩)) (by exact xr_move rfl rfl) rfl rfl rfl ?_
  refine ol_val (v := .pointer (some ⟨G_0, 0, none⟩)) (by exact xr_nilCheck rfl rfl) rfl rfl rfl ?_
  refine ol_val (v := .pointer (some ⟨G_0, 0, none⟩)) (by exact xr_fieldAddr (p := 0) (q := 0) rfl fl65_0 rfl) rfl rfl rfl ?_
  refine ol_val (v := V0_0) (by exact xr_load1 (v := V0_0) rfl ag46 rfl (b_0.seg 0 rfl rfl)) rfl rfl rfl ?_
  refine ol_val (v := .int .i64 (List.length a0.Lasts : Int)) (by exact xr_lenR rfl Try.underlying46 rfl (R0_0.gr fB)) rfl rfl rfl ?_
  refine ol_val (v := .int .i64 (IntKind.i64.wrap (8 * (List.length a0.Lasts : Int)))) (by exact xr_mul rfl rfl rfl) rfl rfl rfl ?_
  refine ol_val (v := .bool (!decide ((List.length a1 : Int) = (IntKind.i64.wrap (8 * (List.length a0.Lasts : Int)))))) (by exact xr_neI rfl Try.underlying3 rfl rfl rfl) rfl rfl rfl ?_
  refine ol_nil ?_
  rcases is h with ⟨c4, h⟩ | ⟨c4, h⟩
  · refine cw_condT rfl c4 ?_
    refine cw_seq ?_
    refine cw_region ?_
    refine ol_val (v := .slice none 0 0) (by exact xr_assign rfl rfl) rfl rfl rfl ?_
    refine ol_val (v := .bool false) (by exact xr_assign rfl rfl) rfl rfl rfl ?_
    refine ol_nil ?_
    refine cw_ret ?_
    repeat (first | with_reducible refine thn_r ?_ | with_reducible refine blk_r ?_)
    obtain rfl := Option.some.inj h
    refine fin_ret2 Try.results64 rfl rfl ?_
    exact ⟨_, rfl, (.slice none 0 0), Own.nil _ _ _ _, rfl, fB⟩
  · refine cw_condF rfl c4 ?_
    refine cw_skip ?_
    refine cw_seq ?_
    refine cw_region ?_
    refine ol_op (by exact opv_buildSlice (K := (kI .u64)) (xs := ([] : List Int)) (vals := []) rfl Try.underlying46 el22 rfl rfl trivial rfl rfl rfl fB.size) rfl rfl rfl ?_
    rintro v5 w10 ⟨o7, q6, z8⟩
    have b_0 := b_0.gr q6
    have fB := fB.gr q6
    refine ol_val (v := .pointer (some ⟨G_0, 0, none⟩)) (by exact xr_move rfl rfl) rfl rfl rfl ?_
    refine ol_val (v := .pointer (some ⟨G_0, 0, none⟩)) (by exact xr_nilCheck rfl rfl) rfl rfl rfl ?_
    refine ol_val (v := .pointer (some ⟨G_0, 0, none⟩)) (by exact xr_fieldAddr (p := 0) (q := 0) rfl fl65_0 rfl) rfl rfl rfl ?_
    refine ol_val (v := V0_0) (by exact xr_load1 (v := V0_0) rfl ag46 rfl (b_0.seg 0 rfl rfl)) rfl rfl rfl ?_
    obtain ⟨g15, h⟩ := gs h
    have f17 := off_ty b_0 o7 (by decide)
    have f18 := o7.geO
    refine ol_op (by exact opv_append (K := (kI .u64)) rfl Try.underlying46 el22 rfl rfl rfl rfl rfl o7 (R0_0.gr fB) g15 fB.size) rfl rfl rfl ?_
    rintro v11 w19 ⟨o12, q13, n14⟩
    have b_0 := b_0.wrO q13 f17
    have fB := fB.wrO q13 f18
    refine ol_val (v := v11) (by exact xr_assign rfl rfl) rfl rfl rfl ?_
    refine ol_nil ?_
    refine cw_seq ?_
    refine cw_region ?_
    refine ol_val (v := .pointer (some ⟨G_0, 0, none⟩)) (by exact xr_move rfl rfl) rfl rfl rfl ?_
    obtain ⟨t20, k21, h⟩ := bs h
    refine ol_op (by exact opv_call rfl cal47 (ac rfl an) (rickyardref05_Device_Fates.ok fu _ a0 G_0 V0_0 (R0_0.gr fB) V0_1 (R0_1.gr fB) V0_2 (R0_2.gr fB) V0_3 (R0_3.gr fB) V0_4 (R0_4.gr fB) b_0 _ k21)) rfl rfl rfl ?_
    rintro u22 w26 ⟨_, o23, rfl, q25⟩
    have o23 := Own.base o23 fB.size
    have b_0 := b_0.gr q25
    have o12 := o12.gr q25
    have fB := fB.gr q25
    refine ol_val (v := u22) (by exact xr_assign rfl rfl) rfl rfl rfl ?_
    refine ol_nil ?_
    refine cw_seq ?_
    refine cw_region ?_
    refine ol_val (v := .slice none 0 0) (by exact xr_assign rfl rfl) rfl rfl rfl ?_
    refine ol_nil ?_
    refine cw_seq ?_
    refine cw_seq ?_
    refine cw_region ?_
    refine ol_val (v := .int .i64 0) (by exact xr_assign rfl rfl) rfl rfl rfl ?_
    refine ol_nil ?_
    obtain ⟨e28, l29, h30⟩ := bs h
    refine cw_mid (fun ρ' w' => ∃ x31, e28 = Sum.inr x31 ∧ ∃ v32 : Value, ∃ o12 : Own (kI .u64) 22 w' w.heap.size v11 x31.2, ∃ o33 : Own (kI .i64) 3 w' w.heap.size v32 x31.1, ρ' 1 = sv a1 ∧ ρ' 6 = v11 ∧ ρ' 8 = v32 ∧ Blk w' G_0 65 [Seg.cell V0_0 R0_0.one, Seg.cell V0_1 R0_1.one, Seg.cell V0_2 R0_2.one, Seg.cell V0_3 R0_3.one, Seg.cell V0_4 R0_4.one, Seg.cell (.int .i64 a0.Since), Seg.cell (.int .i64 a0.Left), Seg.cell (.int .i64 a0.Steps)] ∧ Gr w w') ?_ ?_
    · refine cw_block ?_
      refine cw_round (fun (s27 : (List Int) × Int × (List Int)) ρ' w' => ∃ v35 : Value, ∃ o12 : Own (kI .u64) 22 w' w.heap.size v11 s27.2.2, ∃ o23 : Own k_api_Fate 55 w' w.heap.size u22 t20, ∃ o36 : Own (kI .i64) 3 w' w.heap.size v35 s27.1, ρ' 1 = sv a1 ∧ ρ' 6 = v11 ∧ ρ' 7 = u22 ∧ ρ' 8 = v35 ∧ ρ' 9 = .int .i64 s27.2.1 ∧ Blk w' G_0 65 [Seg.cell V0_0 R0_0.one, Seg.cell V0_1 R0_1.one, Seg.cell V0_2 R0_2.one, Seg.cell V0_3 R0_3.one, Seg.cell V0_4 R0_4.one, Seg.cell (.int .i64 a0.Since), Seg.cell (.int .i64 a0.Left), Seg.cell (.int .i64 a0.Steps)] ∧ Gr w w') l29 ?_ ?_
      · skip
        exact ⟨(.slice none 0 0), o12, o23, Own.nil _ _ _ _, rfl, rfl, rfl, rfl, rfl, b_0, fB⟩
      · rintro s27 x40 ρ38 w39 ⟨v35, o12, o23, o36, e1, e6, e7, e8, e9, b_0, fB⟩ h
        unfold rickyardref06_Choose.s2 at h
        refine cw_seq ?_
        refine cw_seq ?_
        refine cw_region ?_
        refine ol_val (v := .int .i64 s27.2.1) (by exact xr_move rfl e9) rfl rfl rfl ?_
        refine ol_val (v := u22) (by exact xr_move rfl e7) rfl rfl rfl ?_
        refine ol_val (v := .int .i64 (List.length t20 : Int)) (by exact xr_lenR rfl Try.underlying52 rfl o23.rd) rfl rfl rfl ?_
        refine ol_val (v := .bool (decide (s27.2.1 < (List.length t20 : Int)))) (by exact xr_lss rfl rfl rfl) rfl rfl rfl ?_
        refine ol_nil ?_
        rcases is h with ⟨c41, h⟩ | ⟨c41, h⟩
        · refine cw_condT rfl c41 ?_
          refine cw_skip ?_
          refine cw_seq ?_
          refine cw_block ?_
          refine cw_seq ?_
          refine cw_region ?_
          refine ol_val (v := .int .i64 (-1)) (by exact xr_assign rfl rfl) rfl rfl rfl ?_
          refine ol_nil ?_
          refine cw_seq ?_
          refine cw_seq ?_
          refine cw_region ?_
          refine ol_val (v := .int .i64 2) (by exact xr_assign rfl rfl) rfl rfl rfl ?_
          refine ol_nil ?_
          obtain ⟨e43, l44, h45⟩ := bs h
          refine cw_mid (fun ρ' w' => ∃ o12 : Own (kI .u64) 22 w' w.heap.size v11 e43.2, ∃ o23 : Own k_api_Fate 55 w' w.heap.size u22 t20, ∃ o36 : Own (kI .i64) 3 w' w.heap.size v35 s27.1, ρ' 1 = sv a1 ∧ ρ' 6 = v11 ∧ ρ' 7 = u22 ∧ ρ' 8 = v35 ∧ ρ' 9 = .int .i64 s27.2.1 ∧ ρ' 10 = .int .i64 e43.1 ∧ Blk w' G_0 65 [Seg.cell V0_0 R0_0.one, Seg.cell V0_1 R0_1.one, Seg.cell V0_2 R0_2.one, Seg.cell V0_3 R0_3.one, Seg.cell V0_4 R0_4.one, Seg.cell (.int .i64 a0.Since), Seg.cell (.int .i64 a0.Left), Seg.cell (.int .i64 a0.Steps)] ∧ Gr w w') ?_ ?_
          · refine cw_block ?_
            refine cw_round (fun (s42 : Int × Int × (List Int)) ρ' w' => ∃ o12 : Own (kI .u64) 22 w' w.heap.size v11 s42.2.2, ∃ o23 : Own k_api_Fate 55 w' w.heap.size u22 t20, ∃ o36 : Own (kI .i64) 3 w' w.heap.size v35 s27.1, ρ' 1 = sv a1 ∧ ρ' 6 = v11 ∧ ρ' 7 = u22 ∧ ρ' 8 = v35 ∧ ρ' 9 = .int .i64 s27.2.1 ∧ ρ' 10 = .int .i64 s42.1 ∧ ρ' 11 = .int .i64 s42.2.1 ∧ Blk w' G_0 65 [Seg.cell V0_0 R0_0.one, Seg.cell V0_1 R0_1.one, Seg.cell V0_2 R0_2.one, Seg.cell V0_3 R0_3.one, Seg.cell V0_4 R0_4.one, Seg.cell (.int .i64 a0.Since), Seg.cell (.int .i64 a0.Left), Seg.cell (.int .i64 a0.Steps)] ∧ Gr w w') l44 ?_ ?_
            · skip
              exact ⟨o12, o23, o36, e1, e6, e7, e8, e9, rfl, rfl, b_0, fB⟩
            · rintro s42 x48 ρ46 w47 ⟨o12, o23, o36, e1, e6, e7, e8, e9, e10, e11, b_0, fB⟩ h
              unfold rickyardref06_Choose.s3 at h
              refine cw_seq ?_
              refine cw_seq ?_
              refine cw_region ?_
              refine ol_val (v := .int .i64 s42.2.1) (by exact xr_move rfl e11) rfl rfl rfl ?_
              refine ol_val (v := .bool (decide (s42.2.1 ≥ 0))) (by exact xr_geq rfl rfl rfl) rfl rfl rfl ?_
              refine ol_nil ?_
              rcases is h with ⟨c49, h⟩ | ⟨c49, h⟩
              · refine cw_condT rfl c49 ?_
                refine cw_skip ?_
                refine cw_seq ?_
                refine cw_block ?_
                refine cw_seq ?_
                refine cw_region ?_
                refine ol_val (v := u22) (by exact xr_move rfl e7) rfl rfl rfl ?_
                refine ol_val (v := .int .i64 s27.2.1) (by exact xr_move rfl e9) rfl rfl rfl ?_
                obtain ⟨g50, h⟩ := gs h
                refine ol_val (v := .pointer (some ⟨(sb u22), so u22 + Int.toNat s27.2.1 * 5, none⟩)) (by exact xr_indexR (K := k_api_Fate) (v := u22) rfl Try.underlying52 sz55 rfl o23.rd rfl g50.1 g50.2) rfl rfl rfl ?_
                refine ol_val (v := aggV [Seg.cell (.int .i64 ((ix t20 s27.2.1).At)), Seg.cell (.int .u64 ((ix t20 s27.2.1).Lasts)), Seg.cell (.bool ((ix t20 s27.2.1).Flushed)), Seg.cell (.int .u64 ((ix t20 s27.2.1).Sent)), Seg.cell (.int .u64 ((ix t20 s27.2.1).Stored))]) (by exact xr_loadS (ss := [Seg.cell (.int .i64 ((ix t20 s27.2.1).At)), Seg.cell (.int .u64 ((ix t20 s27.2.1).Lasts)), Seg.cell (.bool ((ix t20 s27.2.1).Flushed)), Seg.cell (.int .u64 ((ix t20 s27.2.1).Sent)), Seg.cell (.int .u64 ((ix t20 s27.2.1).Stored))]) rfl ag55 sz55 rfl rfl (o23.rd.elem g50.1 g50.2)) rfl rfl rfl ?_
                refine ol_val (v := .int .i64 s42.2.1) (by exact xr_move rfl e11) rfl rfl rfl ?_
                obtain ⟨t51, k52, h⟩ := bs h
                refine ol_op (by exact opv_call rfl cal42 (ac rfl (ac rfl an)) (rickyardref05_Value.ok fu _ (ix t20 s27.2.1) s42.2.1 _ k52)) rfl rfl rfl ?_
                rintro _ w54 ⟨rfl, q53⟩
                have b_0 := b_0.gr q53
                have o12 := o12.gr q53
                have o23 := o23.gr q53
                have o36 := o36.gr q53
                have fB := fB.gr q53
                refine ol_val (v := .int .u64 t51) (by exact xr_assign rfl rfl) rfl rfl rfl ?_
                refine ol_nil ?_
                refine cw_seq ?_
                obtain ⟨t60, k61, h⟩ := bs h
                obtain ⟨g63, h⟩ := gs h
                obtain ⟨g64, h⟩ := gs h
                obtain ⟨g65, h⟩ := gs h
                refine cw_drawL 18 [fun vz wz => vz = (.int .u64 t51 : Value), fun vz wz => ∃ v55 : Value, ∃ o57 : Own (kI .u64) 22 wz w.heap.size v55 [t51], vz = (v55 : Value), fun vz wz => vz = (sv t60 : Value), fun vz wz => vz = (sv a1 : Value), fun vz wz => vz = (u22 : Value), fun vz wz => vz = (.int .i64 s27.2.1 : Value), fun vz wz => vz = (.pointer (some ⟨(sb u22), so u22 + Int.toNat s27.2.1 * 5, none⟩) : Value), fun vz wz => vz = (.pointer (some ⟨(sb u22), so u22 + Int.toNat s27.2.1 * 5 + 0, none⟩) : Value), fun vz wz => vz = (.int .i64 ((ix t20 s27.2.1).At) : Value), fun vz wz => vz = (.int .i64 (IntKind.i64.wrap (8 * ((ix t20 s27.2.1).At))) : Value), fun vz wz => vz = (u22 : Value), fun vz wz => vz = (.int .i64 s27.2.1 : Value), fun vz wz => vz = (.pointer (some ⟨(sb u22), so u22 + Int.toNat s27.2.1 * 5, none⟩) : Value), fun vz wz => vz = (.pointer (some ⟨(sb u22), so u22 + Int.toNat s27.2.1 * 5 + 0, none⟩) : Value), fun vz wz => vz = (.int .i64 ((ix t20 s27.2.1).At) : Value), fun vz wz => vz = (.int .i64 (IntKind.i64.wrap (8 * ((ix t20 s27.2.1).At))) : Value), fun vz wz => vz = (.int .i64 (IntKind.i64.wrap ((IntKind.i64.wrap (8 * ((ix t20 s27.2.1).At))) + 8)) : Value), fun vz wz => vz = (sv (cut a1 (IntKind.i64.wrap (8 * ((ix t20 s27.2.1).At))) (IntKind.i64.wrap ((IntKind.i64.wrap (8 * ((ix t20 s27.2.1).At))) + 8))) : Value)] mo rfl ⟨fun _ _ _ h _ => h, fun _ _ _ ⟨v55, o57, h⟩ q => ⟨v55, o57.gr q, h⟩, fun _ _ _ h _ => h, fun _ _ _ h _ => h, fun _ _ _ h _ => h, fun _ _ _ h _ => h, fun _ _ _ h _ => h, fun _ _ _ h _ => h, fun _ _ _ h _ => h, fun _ _ _ h _ => h, fun _ _ _ h _ => h, fun _ _ _ h _ => h, fun _ _ _ h _ => h, fun _ _ _ h _ => h, fun _ _ _ h _ => h, fun _ _ _ h _ => h, fun _ _ _ h _ => h, fun _ _ _ h _ => h, trivial⟩ ?_ ?_
                · refine ⟨?_, ?_, ?_, ?_, ?_, ?_, ?_, ?_, ?_, ?_, ?_, ?_, ?_, ?_, ?_, ?_, ?_, ?_, trivial⟩
                  · intro ρz wz hz hk hd
                    exact sk_val (v := .int .u64 t51) (by exact xr_move rfl ((hk 12 rfl).trans rfl)) rfl rfl
                  · intro ρz wz hz hk hd
                    have d46 := hd 0 rfl 46 rfl
                    refine sk_op (by exact opv_buildSlice (K := (kI .u64)) (xs := [t51]) (vals := [.int .u64 t51]) rfl Try.underlying46 el22 rfl rfl ⟨rfl, d46, trivial⟩ rfl rfl rfl (Nat.le_trans fB.size hz.size)) rfl ?_
                    rintro v55 wy ⟨o57, q56, z58⟩
                    exact ⟨⟨v55, o57, rfl⟩, q56⟩
                  · intro ρz wz hz hk hd
                    obtain ⟨v55, o57, d47⟩ := hd 1 rfl 47 rfl
                    refine sk_op (by exact opv_call rfl cal34 (ac d47 an) (rickyardref05_Text.ok fu _ [t51] v55 (o57.rd) _ k61)) rfl ?_
                    rintro _ wy ⟨rfl, q62⟩
                    exact ⟨rfl, q62⟩
                  · intro ρz wz hz hk hd
                    exact sk_val (v := sv a1) (by exact xr_move rfl ((hk 1 rfl).trans e1)) rfl rfl
                  · intro ρz wz hz hk hd
                    exact sk_val (v := u22) (by exact xr_move rfl ((hk 7 rfl).trans e7)) rfl rfl
                  · intro ρz wz hz hk hd
                    exact sk_val (v := .int .i64 s27.2.1) (by exact xr_move rfl ((hk 9 rfl).trans e9)) rfl rfl
                  · intro ρz wz hz hk hd
                    have d50 := hd 4 rfl 50 rfl
                    have d51 := hd 5 rfl 51 rfl
                    exact sk_val (by exact xr_indexR (K := k_api_Fate) (v := u22) rfl Try.underlying52 sz55 d50 (o23.gr hz).rd d51 g63.1 g63.2) rfl rfl
                  · intro ρz wz hz hk hd
                    have d52 := hd 6 rfl 52 rfl
                    exact sk_val (by exact xr_fieldAddr (p := so u22 + Int.toNat s27.2.1 * 5) (q := 0) rfl fl55_0 d52) rfl rfl
                  · intro ρz wz hz hk hd
                    have d53 := hd 7 rfl 53 rfl
                    exact sk_val (v := .int .i64 ((ix t20 s27.2.1).At)) (by exact xr_load1 (v := .int .i64 ((ix t20 s27.2.1).At)) rfl ag3 d53 (At.segs (ss := segs_api_Fate (ix t20 s27.2.1)) ((o23.gr hz).rd.elem g63.1 g63.2) 0 1 rfl)) rfl rfl
                  · intro ρz wz hz hk hd
                    have d54 := hd 8 rfl 54 rfl
                    exact sk_val (v := .int .i64 (IntKind.i64.wrap (8 * ((ix t20 s27.2.1).At)))) (by exact xr_mul rfl rfl d54) rfl rfl
                  · intro ρz wz hz hk hd
                    exact sk_val (v := u22) (by exact xr_move rfl ((hk 7 rfl).trans e7)) rfl rfl
                  · intro ρz wz hz hk hd
                    exact sk_val (v := .int .i64 s27.2.1) (by exact xr_move rfl ((hk 9 rfl).trans e9)) rfl rfl
                  · intro ρz wz hz hk hd
                    have d56 := hd 10 rfl 56 rfl
                    have d57 := hd 11 rfl 57 rfl
                    exact sk_val (by exact xr_indexR (K := k_api_Fate) (v := u22) rfl Try.underlying52 sz55 d56 (o23.gr hz).rd d57 g64.1 g64.2) rfl rfl
                  · intro ρz wz hz hk hd
                    have d58 := hd 12 rfl 58 rfl
                    exact sk_val (by exact xr_fieldAddr (p := so u22 + Int.toNat s27.2.1 * 5) (q := 0) rfl fl55_0 d58) rfl rfl
                  · intro ρz wz hz hk hd
                    have d59 := hd 13 rfl 59 rfl
                    exact sk_val (v := .int .i64 ((ix t20 s27.2.1).At)) (by exact xr_load1 (v := .int .i64 ((ix t20 s27.2.1).At)) rfl ag3 d59 (At.segs (ss := segs_api_Fate (ix t20 s27.2.1)) ((o23.gr hz).rd.elem g64.1 g64.2) 0 1 rfl)) rfl rfl
                  · intro ρz wz hz hk hd
                    have d60 := hd 14 rfl 60 rfl
                    exact sk_val (v := .int .i64 (IntKind.i64.wrap (8 * ((ix t20 s27.2.1).At)))) (by exact xr_mul rfl rfl d60) rfl rfl
                  · intro ρz wz hz hk hd
                    have d61 := hd 15 rfl 61 rfl
                    exact sk_val (by exact xr_add rfl d61 rfl) rfl rfl
                  · intro ρz wz hz hk hd
                    have d49 := hd 3 rfl 49 rfl
                    have d55 := hd 9 rfl 55 rfl
                    have d62 := hd 16 rfl 62 rfl
                    exact sk_val (by exact xr_str_lh rfl Try.underlying9 d49 d55 d62 g65.1 g65.2.1 g65.2.2) rfl rfl
                · intro ρ66 w67 q68 hk hd
                  have e1 := (hk 1 rfl).trans e1
                  have e6 := (hk 6 rfl).trans e6
                  have e7 := (hk 7 rfl).trans e7
                  have e8 := (hk 8 rfl).trans e8
                  have e9 := (hk 9 rfl).trans e9
                  have e10 := (hk 10 rfl).trans e10
                  have e11 := (hk 11 rfl).trans e11
                  have e12 := (hk 12 rfl).trans rfl
                  have e48 := hd 2 rfl 48 rfl
                  have e63 := hd 17 rfl 63 rfl
                  have b_0 := b_0.gr q68
                  have o12 := o12.gr q68
                  have o23 := o23.gr q68
                  have o36 := o36.gr q68
                  have fB := fB.gr q68
                  refine ol_val (v := .bool (decide (t60 = (cut a1 (IntKind.i64.wrap (8 * ((ix t20 s27.2.1).At))) (IntKind.i64.wrap ((IntKind.i64.wrap (8 * ((ix t20 s27.2.1).At))) + 8)))))) (by exact xr_eqStr rfl Try.underlying9 e48 e63) rfl rfl rfl ?_
                  refine ol_nil ?_
                  obtain ⟨x69, j70, h71⟩ := bs h
                  refine cw_mid (fun ρ' w' => ∃ o12 : Own (kI .u64) 22 w' w.heap.size v11 x69.2, ∃ o23 : Own k_api_Fate 55 w' w.heap.size u22 t20, ∃ o36 : Own (kI .i64) 3 w' w.heap.size v35 s27.1, ρ' 1 = sv a1 ∧ ρ' 6 = v11 ∧ ρ' 7 = u22 ∧ ρ' 8 = v35 ∧ ρ' 9 = .int .i64 s27.2.1 ∧ ρ' 10 = .int .i64 x69.1 ∧ ρ' 11 = .int .i64 s42.2.1 ∧ Blk w' G_0 65 [Seg.cell V0_0 R0_0.one, Seg.cell V0_1 R0_1.one, Seg.cell V0_2 R0_2.one, Seg.cell V0_3 R0_3.one, Seg.cell V0_4 R0_4.one, Seg.cell (.int .i64 a0.Since), Seg.cell (.int .i64 a0.Left), Seg.cell (.int .i64 a0.Steps)] ∧ Gr w w') ?_ ?_
                  · have h := j70
                    rcases is h with ⟨c72, h⟩ | ⟨c72, h⟩
                    · refine cw_condT rfl c72 ?_
                      refine cw_seq ?_
                      refine cw_region ?_
                      refine ol_val (v := .int .i64 s42.2.1) (by exact xr_move rfl e11) rfl rfl rfl ?_
                      refine ol_val (v := .int .i64 s42.2.1) (by exact xr_assign rfl rfl) rfl rfl rfl ?_
                      refine ol_nil ?_
                      refine cw_region ?_
                      refine ol_val (v := v11) (by exact xr_move rfl e6) rfl rfl rfl ?_
                      refine ol_val (v := u22) (by exact xr_move rfl e7) rfl rfl rfl ?_
                      refine ol_val (v := .int .i64 s27.2.1) (by exact xr_move rfl e9) rfl rfl rfl ?_
                      obtain ⟨g73, h⟩ := gs h
                      refine ol_val (v := .pointer (some ⟨(sb u22), so u22 + Int.toNat s27.2.1 * 5, none⟩)) (by exact xr_indexR (K := k_api_Fate) (v := u22) rfl Try.underlying52 sz55 rfl o23.rd rfl g73.1 g73.2) rfl rfl rfl ?_
                      refine ol_val (v := .pointer (some ⟨(sb u22), so u22 + Int.toNat s27.2.1 * 5 + 0, none⟩)) (by exact xr_fieldAddr (p := so u22 + Int.toNat s27.2.1 * 5) (q := 0) rfl fl55_0 rfl) rfl rfl rfl ?_
                      refine ol_val (v := .int .i64 ((ix t20 s27.2.1).At)) (by exact xr_load1 (v := .int .i64 ((ix t20 s27.2.1).At)) rfl ag3 rfl (At.segs (ss := segs_api_Fate (ix t20 s27.2.1)) (o23.rd.elem g73.1 g73.2) 0 1 rfl)) rfl rfl rfl ?_
                      refine ol_val (v := .int .u64 t51) (by exact xr_move rfl e12) rfl rfl rfl ?_
                      obtain ⟨g74, h⟩ := gs h
                      refine ol_val (v := .pointer (some ⟨(sb v11), so v11 + Int.toNat ((ix t20 s27.2.1).At) * 1, none⟩)) (by exact xr_indexR (K := (kI .u64)) (v := v11) rfl Try.underlying46 sz22 rfl o12.rd rfl g74.1 g74.2) rfl rfl rfl ?_
                      have f76 := off_ty b_0 o12 (by decide)
                      have f77 := OffV.ty o23 o12 (by decide)
                      have f78 := OffV.ty o36 o12 (by decide)
                      have f79 := o12.geO
                      refine ol_op0 (by exact opv_storeRow (z := t51) (xs := cellsOf [Seg.cell (.int .u64 t51)]) rfl sz22 rfl rfl rfl (len_cellsOf _) (one_cellsOf _) o12 g74.1 g74.2 (Spl.whole ((Kd.len _ _).trans (Kd.len _ _).symm)) rfl) rfl rfl ?_
                      rintro _ w80 ⟨o12, q75⟩
                      have b_0 := b_0.wrO q75 f76
                      have o23 := o23.wrV q75 f77
                      have o36 := o36.wrV q75 f78
                      have fB := fB.wrO q75 f79
                      refine ol_nil ?_
                      obtain rfl := Option.some.inj h
                      refine thn_i ?_
                      exact ⟨o12, o23, o36, e1, e6, e7, e8, e9, rfl, e11, b_0, fB⟩
                    · refine cw_condF rfl c72 ?_
                      refine cw_skip ?_
                      obtain rfl := Option.some.inj h
                      refine thn_i ?_
                      exact ⟨o12, o23, o36, e1, e6, e7, e8, e9, e10, e11, b_0, fB⟩
                  · rintro ρ81 w82 ⟨o12, o23, o36, e1, e6, e7, e8, e9, e10, e11, b_0, fB⟩
                    have h := h71
                    refine blk_i ?_
                    refine cw_region ?_
                    refine ol_val (v := .int .i64 s42.2.1) (by exact xr_move rfl e11) rfl rfl rfl ?_
                    refine ol_val (v := .int .i64 (IntKind.i64.wrap (s42.2.1 - 1))) (by exact xr_sub rfl rfl rfl) rfl rfl rfl ?_
                    refine ol_val (v := .int .i64 (IntKind.i64.wrap (s42.2.1 - 1))) (by exact xr_assign rfl rfl) rfl rfl rfl ?_
                    refine ol_nil ?_
                    obtain rfl := Option.some.inj h
                    refine lp_in ?_
                    exact ⟨o12, o23, o36, e1, e6, e7, e8, e9, e10, rfl, b_0, fB⟩
              · refine cw_condF rfl c49 ?_
                refine cw_exit ?_
                repeat (first | with_reducible refine thn_e ?_ | with_reducible refine blk_e rfl ?_)
                obtain rfl := Option.some.inj h
                refine lp_exit ?_
                rintro rfl
                refine thn_x ?_
                exact ⟨o12, o23, o36, e1, e6, e7, e8, e9, e10, b_0, fB⟩
          · rintro ρ83 w84 ⟨o12, o23, o36, e1, e6, e7, e8, e9, e10, b_0, fB⟩
            have h := h45
            refine cw_seq ?_
            refine cw_seq ?_
            refine cw_region ?_
            refine ol_val (v := .int .i64 e43.1) (by exact xr_move rfl e10) rfl rfl rfl ?_
            refine ol_val (v := .bool (decide (e43.1 < 0))) (by exact xr_lss rfl rfl rfl) rfl rfl rfl ?_
            refine ol_nil ?_
            rcases is h with ⟨c85, h⟩ | ⟨c85, h⟩
            · refine cw_condT rfl c85 ?_
              refine cw_seq ?_
              refine cw_region ?_
              refine ol_val (v := .slice none 0 0) (by exact xr_assign rfl rfl) rfl rfl rfl ?_
              refine ol_val (v := .bool false) (by exact xr_assign rfl rfl) rfl rfl rfl ?_
              refine ol_nil ?_
              refine cw_ret ?_
              repeat (first | with_reducible refine thn_r ?_ | with_reducible refine blk_r ?_)
              obtain rfl := Option.some.inj h
              refine lp_ret ?_
              rintro rfl
              repeat (first | with_reducible refine thn_r ?_ | with_reducible refine blk_r ?_)
              have h := h30
              obtain rfl := Option.some.inj h
              refine fin_ret2 Try.results64 rfl rfl ?_
              exact ⟨_, rfl, (.slice none 0 0), Own.nil _ _ _ _, rfl, fB⟩
            · refine cw_condF rfl c85 ?_
              refine cw_skip ?_
              refine cw_region ?_
              refine ol_val (v := v35) (by exact xr_move rfl e8) rfl rfl rfl ?_
              refine ol_val (v := .int .i64 e43.1) (by exact xr_move rfl e10) rfl rfl rfl ?_
              refine ol_op (by exact opv_buildSlice (K := (kI .i64)) (xs := [e43.1]) (vals := [.int .i64 e43.1]) rfl Try.underlying25 el3 rfl rfl ⟨rfl, rfl, trivial⟩ rfl rfl rfl fB.size) rfl rfl rfl ?_
              rintro v86 w91 ⟨o88, q87, z89⟩
              have a92 := OffV.new o36 z89
              have b_0 := b_0.gr q87
              have o12 := o12.gr q87
              have o23 := o23.gr q87
              have o36 := o36.gr q87
              have fB := fB.gr q87
              obtain ⟨g97, h⟩ := gs h
              have f99 := off_ty b_0 o36 (by decide)
              have f100 := OffV.ty o12 o36 (by decide)
              have f101 := OffV.ty o23 o36 (by decide)
              have f102 := o36.geO
              refine ol_op (by exact opv_append (K := (kI .i64)) rfl Try.underlying25 el3 rfl rfl rfl rfl rfl o36 o88.rd g97 fB.size) rfl rfl rfl ?_
              rintro v93 w103 ⟨o94, q95, n96⟩
              have b_0 := b_0.wrO q95 f99
              have o12 := o12.wrV q95 f100
              have o23 := o23.wrV q95 f101
              have fB := fB.wrO q95 f102
              refine ol_val (v := v93) (by exact xr_assign rfl rfl) rfl rfl rfl ?_
              refine ol_nil ?_
              refine blk_i ?_
              refine cw_region ?_
              refine ol_val (v := .int .i64 s27.2.1) (by exact xr_move rfl e9) rfl rfl rfl ?_
              refine ol_val (v := .int .i64 (IntKind.i64.wrap (s27.2.1 + 1))) (by exact xr_add rfl rfl rfl) rfl rfl rfl ?_
              refine ol_val (v := .int .i64 (IntKind.i64.wrap (s27.2.1 + 1))) (by exact xr_assign rfl rfl) rfl rfl rfl ?_
              refine ol_nil ?_
              obtain rfl := Option.some.inj h
              refine lp_in ?_
              exact ⟨v93, o12, o23, o94, e1, e6, e7, rfl, rfl, b_0, fB⟩
        · refine cw_condF rfl c41 ?_
          refine cw_exit ?_
          repeat (first | with_reducible refine thn_e ?_ | with_reducible refine blk_e rfl ?_)
          obtain rfl := Option.some.inj h
          refine lp_exit ?_
          rintro rfl
          refine thn_x ?_
          exact ⟨_, rfl, v35, o12, o36, e1, e6, e8, b_0, fB⟩
    · rintro ρ104 w105 ⟨x31, rfl, v32, o12, o33, e1, e6, e8, b_0, fB⟩
      have h := h30
      refine cw_seq ?_
      refine cw_region ?_
      refine ol_val (v := v32) (by exact xr_move rfl e8) rfl rfl rfl ?_
      refine ol_val (v := v11) (by exact xr_move rfl e6) rfl rfl rfl ?_
      obtain ⟨t106, k107, h⟩ := bs h
      refine ol_op (by exact opv_call rfl cal34 (ac rfl an) (rickyardref05_Text.ok fu _ x31.2 v11 (o12.rd) _ k107)) rfl rfl rfl ?_
      rintro _ w109 ⟨rfl, q108⟩
      have b_0 := b_0.gr q108
      have o33 := o33.gr q108
      have fB := fB.gr q108
      refine ol_val (v := sv a1) (by exact xr_move rfl e1) rfl rfl rfl ?_
      refine ol_val (v := .bool (decide (t106 = a1))) (by exact xr_eqStr rfl Try.underlying9 rfl rfl) rfl rfl rfl ?_
      refine ol_val (v := v32) (by exact xr_assign rfl rfl) rfl rfl rfl ?_
      refine ol_val (v := .bool (decide (t106 = a1))) (by exact xr_assign rfl rfl) rfl rfl rfl ?_
      refine ol_nil ?_
      refine cw_ret ?_
      repeat (first | with_reducible refine thn_r ?_ | with_reducible refine blk_r ?_)
      obtain rfl := Option.some.inj h
      refine fin_ret2 Try.results64 rfl rfl ?_
      exact ⟨_, rfl, v32, o33, rfl, fB⟩
end Go.Proofs.Ytklhbaghbmndeaa

/- rickyard/rickyardref06.Choose: its model, and that the Go function computes it: written by gen.py. -/
set_option linter.unusedVariables false
namespace Go.Proofs.Ytklhbaghbmndeaa
open Go Go.Xw
def rickyardref06_Choose__n0.f (fu : Nat) (a1 : List UInt8) : Option ((List Int) × Bool) := none
set_option maxRecDepth 100000 in
set_option maxHeartbeats 400000 in
theorem rickyardref06_Choose__n0.ok (fu : Nat) (w : World) (a1 : List UInt8) (r : (List Int) × Bool) (h : rickyardref06_Choose__n0.f fu a1 = some r) :
    Calls Try.prog 64 (([.pointer none, sv a1] : List Value).toArray) w (fun e w' => ∃ v, e = .returned v ∧ ∃ u1 : Value, ∃ o2 : Own (kI .i64) 3 w' w.heap.size u1 r.1, v = .tuple #[u1, .bool r.2] ∧ Gr w w') := by
  unfold rickyardref06_Choose__n0.f at h
  have fB : Gr w w := Fr.refl _ _
  refine calls_cw Try.func64 rfl Try.ntmps64 rfl ?_
  refine cw_seq ?_
  refine cw_region ?_
  refine ol_val (v := .slice none 0 0) (by exact xr_assign rfl rfl) rfl rfl rfl ?_
  refine ol_val (v := .bool false) (by exact xr_assign rfl rfl) rfl rfl rfl ?_
  refine ol_nil ?_
  refine cw_seq ?_
  refine cw_seq ?_
  refine cw_region ?_
  refine ol_val (v := sv a1) (by exact xr_move rfl rfl) rfl rfl rfl ?_
  refine ol_val (v := .int .i64 (List.length a1 : Int)) (by exact xr_lenStr rfl Try.underlying9 rfl) rfl rfl rfl ?_
  refine ol_val (v := .pointer none) (by exact xr_move rfl rfl) rfl rfl rfl ?_
  cases h
end Go.Proofs.Ytklhbaghbmndeaa

/- rickyard/fate.May: its model, and that the Go function computes it: written by gen.py. -/
set_option linter.unusedVariables false
namespace Go.Proofs.Ytklhbaghbmndeaa
open Go Go.Xw
def fate_May.f (fu : Nat) (a0 : S_pmem_Device) (a1 : List Int) : Option Bool := ((fate_Choose.f fu a0 a1 : Option ((List Int) × Bool)).bind fun t1 => some (t1.2))
set_option maxRecDepth 100000 in
set_option maxHeartbeats 400000 in
theorem fate_May.ok (fu : Nat) (w : World) (a0 : S_pmem_Device) (G_0 : Nat) (V0_0 : Value) (R0_0 : Rd k_pmem_cell w V0_0 a0.cells) (V0_1 : Value) (R0_1 : Rd (kI .i64) w V0_1 a0.plan.list) (b_0 : Blk w G_0 139 [Seg.cell V0_0 R0_0.one, Seg.cell V0_1 R0_1.one, Seg.cell (.int .i64 a0.plan.at_), Seg.cell (.bool a0.off), Seg.cell (.bool a0.armed), Seg.cell (.int .i64 a0.left), Seg.cell (.int .i64 a0.steps)]) (a1 : List Int) (V1_0 : Value) (R1_0 : Rd (kI .u8) w V1_0 a1) (r : Bool) (h : fate_May.f fu a0 a1 = some r) :
    Calls Try.prog 65 (([.pointer (some ⟨G_0, 0, none⟩), V1_0] : List Value).toArray) w (fun e w' => ∃ v, e = .returned v ∧ v = .bool r ∧ Gr w w') := by
  unfold fate_May.f at h
  have fB : Gr w w := Fr.refl _ _
  refine calls_cw Try.func65 rfl Try.ntmps65 rfl ?_
  refine cw_seq ?_
  refine cw_region ?_
  refine ol_val (v := .bool false) (by exact xr_assign rfl rfl) rfl rfl rfl ?_
  refine ol_nil ?_
  refine cw_seq ?_
  refine cw_region ?_
  refine ol_val (v := .pointer (some ⟨G_0, 0, none⟩)) (by exact xr_move rfl rfl) rfl rfl rfl ?_
  refine ol_val (v := V1_0) (by exact xr_move rfl rfl) rfl rfl rfl ?_
  obtain ⟨t1, k2, h⟩ := bs h
  refine ol_op (by exact opv_call rfl cal63 (ac rfl (ac rfl an)) (fate_Choose.ok fu _ a0 G_0 V0_0 (R0_0.gr fB) V0_1 (R0_1.gr fB) b_0 a1 V1_0 (R1_0.gr fB) _ k2)) rfl rfl rfl ?_
  rintro _ w7 ⟨u3, o4, rfl, q6⟩
  have o4 := Own.base o4 fB.size
  have b_0 := b_0.gr q6
  have fB := fB.gr q6
  refine ol_val (v := .tuple #[u3, .bool t1.2]) (by exact xr_move rfl rfl) rfl rfl rfl ?_
  refine ol_val (v := u3) (by exact xr_extract rfl rfl rfl) rfl rfl rfl ?_
  refine ol_val (v := .bool t1.2) (by exact xr_extract rfl rfl rfl) rfl rfl rfl ?_
  refine ol_val (v := u3) (by exact xr_assign rfl rfl) rfl rfl rfl ?_
  refine ol_val (v := .bool t1.2) (by exact xr_assign rfl rfl) rfl rfl rfl ?_
  refine ol_nil ?_
  refine cw_seq ?_
  refine cw_region ?_
  refine ol_val (v := .bool t1.2) (by exact xr_move rfl rfl) rfl rfl rfl ?_
  refine ol_val (v := .bool t1.2) (by exact xr_assign rfl rfl) rfl rfl rfl ?_
  refine ol_nil ?_
  refine cw_ret ?_
  repeat (first | with_reducible refine thn_r ?_ | with_reducible refine blk_r ?_)
  obtain rfl := Option.some.inj h
  refine fin_ret1 Try.results65 rfl ?_
  exact ⟨_, rfl, rfl, fB⟩
end Go.Proofs.Ytklhbaghbmndeaa

/- rickyard/rickyardref01.Ints: its model, and that the Go function computes it: written by gen.py. -/
set_option linter.unusedVariables false
namespace Go.Proofs.Ytklhbaghbmndeaa
open Go Go.Xw
def rickyardref01_Ints.s0 (fu : Nat) (a0 : List Int) (a1 : List Int) : Int → Option (Sum (Sum Bool Unit) Int) := fun s2 => (if (decide (s2 < (List.length a0 : Int))) = true then (if 0 ≤ s2 ∧ s2 < (List.length a0 : Int) then (if 0 ≤ s2 ∧ s2 < (List.length a1 : Int) then (if (!decide ((ix a0 s2) = (ix a1 s2))) = true then some (Sum.inl (Sum.inl (false))) else some (Sum.inr ((IntKind.i64.wrap (s2 + 1))))) else none) else none) else some (Sum.inl (Sum.inr ())))
def rickyardref01_Ints.f (fu : Nat) (a0 : List Int) (a1 : List Int) : Option Bool := (if (!decide ((List.length a0 : Int) = (List.length a1 : Int))) = true then some (false) else ((loopM (rickyardref01_Ints.s0 fu a0 a1) fu (0)).bind fun e3 => match e3 with | Sum.inl p => some p | Sum.inr x6 => some (true)))
set_option maxRecDepth 100000 in
set_option maxHeartbeats 400000 in
theorem rickyardref01_Ints.ok (fu : Nat) (w : World) (a0 : List Int) (V0_0 : Value) (R0_0 : Rd (kI .i64) w V0_0 a0) (a1 : List Int) (V1_0 : Value) (R1_0 : Rd (kI .i64) w V1_0 a1) (r : Bool) (h : rickyardref01_Ints.f fu a0 a1 = some r) :
    Calls Try.prog 66 (([V0_0, V1_0] : List Value).toArray) w (fun e w' => ∃ v, e = .returned v ∧ v = .bool r ∧ Gr w w') := by
  unfold rickyardref01_Ints.f at h
  have fB : Gr w w := Fr.refl _ _
  refine calls_cw Try.func66 rfl Try.ntmps66 rfl ?_
  refine cw_seq ?_
  refine cw_region ?_
  refine ol_val (v := .bool false) (by exact xr_assign rfl rfl) rfl rfl rfl ?_
  refine ol_nil ?_
  refine cw_seq ?_
  refine cw_seq ?_
  refine cw_region ?_
  refine ol_val (v := V0_0) (by exact xr_move rfl rfl) rfl rfl rfl ?_
  refine ol_val (v := .int .i64 (List.length a0 : Int)) (by exact xr_lenR rfl Try.underlying25 rfl (R0_0.gr fB)) rfl rfl rfl ?_
  refine ol_val (v := V1_0) (by exact xr_move rfl rfl) rfl rfl rfl ?_
  refine ol_val (v := .int .i64 (List.length a1 : Int)) (by exact xr_lenR rfl Try.underlying25 rfl (R1_0.gr fB)) rfl rfl rfl ?_
  refine ol_val (v := .bool (!decide ((List.length a0 : Int) = (List.length a1 : Int)))) (by exact xr_neI rfl Try.underlying3 rfl rfl rfl) rfl rfl rfl ?_
  refine ol_nil ?_
  rcases is h with ⟨c1, h⟩ | ⟨c1, h⟩
  · refine cw_condT rfl c1 ?_
    refine cw_seq ?_
    refine cw_region ?_
    refine ol_val (v := .bool false) (by exact xr_assign rfl rfl) rfl rfl rfl ?_
    refine ol_nil ?_
    refine cw_ret ?_
    repeat (first | with_reducible refine thn_r ?_ | with_reducible refine blk_r ?_)
    obtain rfl := Option.some.inj h
    refine fin_ret1 Try.results66 rfl ?_
    exact ⟨_, rfl, rfl, fB⟩
  · refine cw_condF rfl c1 ?_
    refine cw_skip ?_
    refine cw_seq ?_
    refine cw_seq ?_
    refine cw_region ?_
    refine ol_val (v := .int .i64 0) (by exact xr_assign rfl rfl) rfl rfl rfl ?_
    refine ol_nil ?_
    obtain ⟨e3, l4, h5⟩ := bs h
    refine cw_mid (fun ρ' w' => ∃ x6, e3 = Sum.inr x6 ∧ Gr w w') ?_ ?_
    · refine cw_block ?_
      refine cw_round (fun (s2 : Int) ρ' w' => ρ' 0 = V0_0 ∧ ρ' 1 = V1_0 ∧ ρ' 5 = .int .i64 s2 ∧ Gr w w') l4 ?_ ?_
      · skip
        exact ⟨rfl, rfl, rfl, fB⟩
      · rintro s2 x9 ρ7 w8 ⟨e0, e1, e5, fB⟩ h
        unfold rickyardref01_Ints.s0 at h
        refine cw_seq ?_
        refine cw_seq ?_
        refine cw_region ?_
        refine ol_val (v := .int .i64 s2) (by exact xr_move rfl e5) rfl rfl rfl ?_
        refine ol_val (v := V0_0) (by exact xr_move rfl e0) rfl rfl rfl ?_
        refine ol_val (v := .int .i64 (List.length a0 : Int)) (by exact xr_lenR rfl Try.underlying25 rfl (R0_0.gr fB)) rfl rfl rfl ?_
        refine ol_val (v := .bool (decide (s2 < (List.length a0 : Int)))) (by exact xr_lss rfl rfl rfl) rfl rfl rfl ?_
        refine ol_nil ?_
        rcases is h with ⟨c10, h⟩ | ⟨c10, h⟩
        · refine cw_condT rfl c10 ?_
          refine cw_skip ?_
          refine cw_seq ?_
          refine cw_block ?_
          refine cw_seq ?_
          obtain ⟨g11, h⟩ := gs h
          obtain ⟨g12, h⟩ := gs h
          refine cw_drawL 8 [fun vz wz => vz = (V0_0 : Value), fun vz wz => vz = (.int .i64 s2 : Value), fun vz wz => vz = (.pointer (some ⟨(sb V0_0), so V0_0 + Int.toNat s2 * 1, none⟩) : Value), fun vz wz => vz = (.int .i64 (ix a0 s2) : Value), fun vz wz => vz = (V1_0 : Value), fun vz wz => vz = (.int .i64 s2 : Value), fun vz wz => vz = (.pointer (some ⟨(sb V1_0), so V1_0 + Int.toNat s2 * 1, none⟩) : Value), fun vz wz => vz = (.int .i64 (ix a1 s2) : Value)] mo rfl ⟨fun _ _ _ h _ => h, fun _ _ _ h _ => h, fun _ _ _ h _ => h, fun _ _ _ h _ => h, fun _ _ _ h _ => h, fun _ _ _ h _ => h, fun _ _ _ h _ => h, fun _ _ _ h _ => h, trivial⟩ ?_ ?_
          · refine ⟨?_, ?_, ?_, ?_, ?_, ?_, ?_, ?_, trivial⟩
            · intro ρz wz hz hk hd
              exact sk_val (v := V0_0) (by exact xr_move rfl ((hk 0 rfl).trans e0)) rfl rfl
            · intro ρz wz hz hk hd
              exact sk_val (v := .int .i64 s2) (by exact xr_move rfl ((hk 5 rfl).trans e5)) rfl rfl
            · intro ρz wz hz hk hd
              have d17 := hd 0 rfl 17 rfl
              have d18 := hd 1 rfl 18 rfl
              exact sk_val (by exact xr_indexR (K := (kI .i64)) (v := V0_0) rfl Try.underlying25 sz3 d17 (R0_0.gr (fB.gr hz)) d18 g11.1 g11.2) rfl rfl
            · intro ρz wz hz hk hd
              have d19 := hd 2 rfl 19 rfl
              exact sk_val (v := .int .i64 (ix a0 s2)) (by exact xr_load1 (v := .int .i64 (ix a0 s2)) rfl ag3 d19 ((R0_0.gr (fB.gr hz)).elem g11.1 g11.2)) rfl rfl
            · intro ρz wz hz hk hd
              exact sk_val (v := V1_0) (by exact xr_move rfl ((hk 1 rfl).trans e1)) rfl rfl
            · intro ρz wz hz hk hd
              exact sk_val (v := .int .i64 s2) (by exact xr_move rfl ((hk 5 rfl).trans e5)) rfl rfl
            · intro ρz wz hz hk hd
              have d21 := hd 4 rfl 21 rfl
              have d22 := hd 5 rfl 22 rfl
              exact sk_val (by exact xr_indexR (K := (kI .i64)) (v := V1_0) rfl Try.underlying25 sz3 d21 (R1_0.gr (fB.gr hz)) d22 g12.1 g12.2) rfl rfl
            · intro ρz wz hz hk hd
              have d23 := hd 6 rfl 23 rfl
              exact sk_val (v := .int .i64 (ix a1 s2)) (by exact xr_load1 (v := .int .i64 (ix a1 s2)) rfl ag3 d23 ((R1_0.gr (fB.gr hz)).elem g12.1 g12.2)) rfl rfl
          · intro ρ13 w14 q15 hk hd
            have e0 := (hk 0 rfl).trans e0
            have e1 := (hk 1 rfl).trans e1
            have e5 := (hk 5 rfl).trans e5
            have e20 := hd 3 rfl 20 rfl
            have e24 := hd 7 rfl 24 rfl
            have fB := fB.gr q15
            refine ol_val (v := .bool (!decide ((ix a0 s2) = (ix a1 s2)))) (by exact xr_neI rfl Try.underlying3 rfl e20 e24) rfl rfl rfl ?_
            refine ol_nil ?_
            rcases is h with ⟨c16, h⟩ | ⟨c16, h⟩
            · refine cw_condT rfl c16 ?_
              refine cw_seq ?_
              refine cw_region ?_
              refine ol_val (v := .bool false) (by exact xr_assign rfl rfl) rfl rfl rfl ?_
              refine ol_nil ?_
              refine cw_ret ?_
              repeat (first | with_reducible refine thn_r ?_ | with_reducible refine blk_r ?_)
              obtain rfl := Option.some.inj h
              refine lp_ret ?_
              rintro rfl
              repeat (first | with_reducible refine thn_r ?_ | with_reducible refine blk_r ?_)
              have h := h5
              obtain rfl := Option.some.inj h
              refine fin_ret1 Try.results66 rfl ?_
              exact ⟨_, rfl, rfl, fB⟩
            · refine cw_condF rfl c16 ?_
              refine cw_skip ?_
              refine blk_i ?_
              refine cw_region ?_
              refine ol_val (v := .int .i64 s2) (by exact xr_move rfl e5) rfl rfl rfl ?_
              refine ol_val (v := .int .i64 (IntKind.i64.wrap (s2 + 1))) (by exact xr_add rfl rfl rfl) rfl rfl rfl ?_
              refine ol_val (v := .int .i64 (IntKind.i64.wrap (s2 + 1))) (by exact xr_assign rfl rfl) rfl rfl rfl ?_
              refine ol_nil ?_
              obtain rfl := Option.some.inj h
              refine lp_in ?_
              exact ⟨e0, e1, rfl, fB⟩
        · refine cw_condF rfl c10 ?_
          refine cw_exit ?_
          repeat (first | with_reducible refine thn_e ?_ | with_reducible refine blk_e rfl ?_)
          obtain rfl := Option.some.inj h
          refine lp_exit ?_
          rintro rfl
          refine thn_x ?_
          exact ⟨_, rfl, fB⟩
    · rintro ρ17 w18 ⟨x6, rfl, fB⟩
      have h := h5
      refine cw_seq ?_
      refine cw_region ?_
      refine ol_val (v := .bool true) (by exact xr_assign rfl rfl) rfl rfl rfl ?_
      refine ol_nil ?_
      refine cw_ret ?_
      repeat (first | with_reducible refine thn_r ?_ | with_reducible refine blk_r ?_)
      obtain rfl := Option.some.inj h
      refine fin_ret1 Try.results66 rfl ?_
      exact ⟨_, rfl, rfl, fB⟩
end Go.Proofs.Ytklhbaghbmndeaa

/- rickyard/rickyardlaw06.FateChooses: its model, and that the Go function computes it: written by gen.py. -/
set_option linter.unusedVariables false
namespace Go.Proofs.Ytklhbaghbmndeaa
open Go Go.Xw
def rickyardlaw06_FateChooses.f (fu : Nat) (a0 : Int) (a1 : List S_rickyardlaw05_Act) (a2 : List Int) : Option Bool := ((((rickyardlaw06_awake.f fu : Option Bool).bind fun t3 => (if (!t3) = true then some (true) else some ((decide ((List.length a2 : Int) > 300))))) : Option Bool).bind fun x1 => (if x1 = true then ((rickyardlaw06_awake.f fu : Option Bool).bind fun t12 => some (t12)) else ((rickyardlaw06_made.f fu a0 a1 : Option ((Option S_pmem_Device) × (Option S_rickyardref05_Device))).bind fun t16 => (Option.elim t16.1 (Option.elim t16.2 (some (true)) (fun m27 => some (true))) (fun m25 => (Option.elim t16.2 ((fate_Choose.f fu m25 a2 : Option ((List Int) × Bool)).bind fun t62 => ((rickyardref06_Choose__n0.f fu (List.map toB a2) : Option ((List Int) × Bool)).bind fun t70 => (((if (!decide (t62.2 = t70.2)) = true then some (true) else ((fate_May.f fu m25 a2 : Option Bool).bind fun t82 => some ((!decide (t82 = t70.2))))) : Option Bool).bind fun x79 => (if x79 = true then some (false) else (if (!t62.2) = true then some ((decide ((List.length t62.1 : Int) = 0))) else ((rickyardref01_Ints.f fu t62.1 t70.1 : Option Bool).bind fun t91 => (if (!t91) = true then some (false) else ((pmem_Device_Crash.f fu m25 t62.1 : Option S_pmem_Device).bind fun t96 => ((pmem_Device_Image.f fu t96 : Option (List Int)).bind fun t109 => some ((decide ((List.map toB t109) = (List.map toB a2))))))))))))) (fun m61 => ((fate_Choose.f fu m25 a2 : Option ((List Int) × Bool)).bind fun t141 => ((rickyardref06_Choose.f fu m61 (List.map toB a2) : Option ((List Int) × Bool)).bind fun t150 => (((if (!decide (t141.2 = t150.2)) = true then some (true) else ((fate_May.f fu m25 a2 : Option Bool).bind fun t162 => some ((!decide (t162 = t150.2))))) : Option Bool).bind fun x159 => (if x159 = true then some (false) else (if (!t141.2) = true then some ((decide ((List.length t141.1 : Int) = 0))) else ((rickyardref01_Ints.f fu t141.1 t150.1 : Option Bool).bind fun t171 => (if (!t171) = true then some (false) else ((pmem_Device_Crash.f fu m25 t141.1 : Option S_pmem_Device).bind fun t176 => ((pmem_Device_Image.f fu t176 : Option (List Int)).bind fun t189 => some ((decide ((List.map toB t189) = (List.map toB a2))))))))))))))))))))
set_option maxRecDepth 100000 in
set_option maxHeartbeats 400000 in
theorem rickyardlaw06_FateChooses.ok (fu : Nat) (w : World) (a0 : Int) (a1 : List S_rickyardlaw05_Act) (V1_0 : Value) (R1_0 : RdN 4 D_rickyardlaw05_Act w V1_0 a1) (a2 : List Int) (V2_0 : Value) (R2_0 : Rd (kI .u8) w V2_0 a2) (r : Bool) (h : rickyardlaw06_FateChooses.f fu a0 a1 a2 = some r) :
    Calls Try.prog 15 (([.int .u8 a0, V1_0, V2_0] : List Value).toArray) w (fun e w' => ∃ v, e = .returned v ∧ v = .bool r ∧ Gr w w') := by
  unfold rickyardlaw06_FateChooses.f at h
  have fB : Gr w w := Fr.refl _ _
  refine calls_cw Try.func15 rfl Try.ntmps15 rfl ?_
  refine cw_seq ?_
  refine cw_region ?_
  refine ol_val (v := .bool false) (by exact xr_assign rfl rfl) rfl rfl rfl ?_
  refine ol_nil ?_
  refine cw_seq ?_
  refine cw_seq ?_
  obtain ⟨x1, j2, h⟩ := bs h
  refine cw_mid (fun ρ' w' => ρ' 0 = .int .u8 a0 ∧ ρ' 1 = V1_0 ∧ ρ' 2 = V2_0 ∧ ρ' 19 = .bool x1 ∧ Gr w w') ?_ ?_
  · skip
    refine cw_region ?_
    obtain ⟨t3, k4, j2⟩ := bs j2
    refine ol_op (by exact opv_call rfl cal49 an (rickyardlaw06_awake.ok fu _ _ k4)) rfl rfl rfl ?_
    rintro _ w6 ⟨rfl, q5⟩
    have fB := fB.gr q5
    refine ol_val (v := .bool (!t3)) (by exact xr_not rfl rfl) rfl rfl rfl ?_
    refine ol_val (v := .bool (!t3)) (by exact xr_move rfl rfl) rfl rfl rfl ?_
    rcases is j2 with ⟨c7, j2⟩ | ⟨c7, j2⟩
    · skip
      refine ol_gskip rfl rfl rfl rfl rfl c7 ?_
      refine ol_gskip rfl rfl rfl rfl rfl c7 ?_
      refine ol_gskip rfl rfl rfl rfl rfl c7 ?_
      refine ol_val (v := .bool true) (by exact xr_pickT rfl rfl c7 rfl) rfl rfl rfl ?_
      refine ol_nil ?_
      obtain rfl := Option.some.inj j2
      refine thn_i ?_
      exact ⟨rfl, rfl, rfl, rfl, q5⟩
    · skip
      refine ol_gval (v := V2_0) (by exact xr_move rfl rfl) rfl rfl rfl rfl rfl c7 ?_
      refine ol_gval (v := .int .i64 (List.length a2 : Int)) (by exact xr_lenR rfl Try.underlying43 rfl (R2_0.gr fB)) rfl rfl rfl rfl rfl c7 ?_
      refine ol_gval (v := .bool (decide ((List.length a2 : Int) > 300))) (by exact xr_gtr rfl rfl rfl) rfl rfl rfl rfl rfl c7 ?_
      refine ol_val (v := .bool (decide ((List.length a2 : Int) > 300))) (by exact xr_pickF rfl rfl c7 rfl) rfl rfl rfl ?_
      refine ol_nil ?_
      obtain rfl := Option.some.inj j2
      refine thn_i ?_
      exact ⟨rfl, rfl, rfl, rfl, q5⟩
  · skip
    rintro ρ8 w9 ⟨e0, e1, e2, e19, q10⟩
    have fB := fB.gr q10
    rcases is h with ⟨c11, h⟩ | ⟨c11, h⟩
    · refine cw_condT e19 c11 ?_
      refine cw_seq ?_
      refine cw_region ?_
      obtain ⟨t12, k13, h⟩ := bs h
      refine ol_op (by exact opv_call rfl cal49 an (rickyardlaw06_awake.ok fu _ _ k13)) rfl rfl rfl ?_
      rintro _ w15 ⟨rfl, q14⟩
      have fB := fB.gr q14
      refine ol_val (v := .bool t12) (by exact xr_assign rfl rfl) rfl rfl rfl ?_
      refine ol_nil ?_
      refine cw_ret ?_
      repeat (first | with_reducible refine thn_r ?_ | with_reducible refine blk_r ?_)
      obtain rfl := Option.some.inj h
      refine fin_ret1 Try.results15 rfl ?_
      exact ⟨_, rfl, rfl, fB⟩
    · refine cw_condF e19 c11 ?_
      refine cw_skip ?_
      refine cw_seq ?_
      refine cw_region ?_
      refine ol_val (v := .int .u8 a0) (by exact xr_move rfl e0) rfl rfl rfl ?_
      refine ol_val (v := V1_0) (by exact xr_move rfl e1) rfl rfl rfl ?_
      obtain ⟨t16, k17, h⟩ := bs h
      refine ol_op (by exact opv_call rfl cal60 (ac rfl (ac rfl an)) (rickyardlaw06_made.ok fu _ a0 a1 V1_0 (RdN.gr R1_0 D_rickyardlaw05_Act.gr fB) _ k17)) rfl rfl rfl ?_
      rintro _ w23 ⟨u18, u20, p19, p21, rfl, q22⟩
      rcases en h with ⟨e24, h⟩ | ⟨m25, e24, h⟩
      · obtain rfl := p19.1 e24
        rcases en h with ⟨e26, h⟩ | ⟨m27, e26, h⟩
        · obtain rfl := p21.1 e26
          have fB := fB.gr q22
          refine ol_val (v := .tuple #[.pointer none, .pointer none]) (by exact xr_move rfl rfl) rfl rfl rfl ?_
          refine ol_val (v := .pointer none) (by exact xr_extract rfl rfl rfl) rfl rfl rfl ?_
          refine ol_val (v := .pointer none) (by exact xr_extract rfl rfl rfl) rfl rfl rfl ?_
          refine ol_val (v := .pointer none) (by exact xr_assign rfl rfl) rfl rfl rfl ?_
          refine ol_val (v := .pointer none) (by exact xr_assign rfl rfl) rfl rfl rfl ?_
          refine ol_nil ?_
          refine cw_seq ?_
          refine cw_seq ?_
          refine cw_region ?_
          refine ol_val (v := .pointer none) (by exact xr_move rfl rfl) rfl rfl rfl ?_
          refine ol_val (v := .bool true) (by exact xr_eqP (b := true) rfl Try.underlying30 rfl rfl (by simp) (by simp)) rfl rfl rfl ?_
          refine ol_nil ?_
          refine cw_condT rfl rfl ?_
          refine cw_seq ?_
          refine cw_region ?_
          refine ol_val (v := .bool true) (by exact xr_assign rfl rfl) rfl rfl rfl ?_
          refine ol_nil ?_
          refine cw_ret ?_
          repeat (first | with_reducible refine thn_r ?_ | with_reducible refine blk_r ?_)
          obtain rfl := Option.some.inj h
          refine fin_ret1 Try.results15 rfl ?_
          exact ⟨_, rfl, rfl, fB⟩
        · skip
          obtain ⟨G28, u32, u35, u38, u41, u44, o33, o36, o39, o42, o45, a47, a48, a49, rfl, z29, b30⟩ := p21.2 _ e26
          have o33 := Own.base o33 fB.size
          have o36 := Own.base o36 fB.size
          have o39 := Own.base o39 fB.size
          have o42 := Own.base o42 fB.size
          have o45 := Own.base o45 fB.size
          have z29 := Nat.le_trans fB.size z29
          have fB := fB.gr q22
          refine ol_val (v := .tuple #[.pointer none, .pointer (some ⟨G28, 0, none⟩)]) (by exact xr_move rfl rfl) rfl rfl rfl ?_
          refine ol_val (v := .pointer none) (by exact xr_extract rfl rfl rfl) rfl rfl rfl ?_
          refine ol_val (v := .pointer (some ⟨G28, 0, none⟩)) (by exact xr_extract rfl rfl rfl) rfl rfl rfl ?_
          refine ol_val (v := .pointer none) (by exact xr_assign rfl rfl) rfl rfl rfl ?_
          refine ol_val (v := .pointer (some ⟨G28, 0, none⟩)) (by exact xr_assign rfl rfl) rfl rfl rfl ?_
          refine ol_nil ?_
          refine cw_seq ?_
          refine cw_seq ?_
          refine cw_region ?_
          refine ol_val (v := .pointer none) (by exact xr_move rfl rfl) rfl rfl rfl ?_
          refine ol_val (v := .bool true) (by exact xr_eqP (b := true) rfl Try.underlying30 rfl rfl (by simp) (by simp)) rfl rfl rfl ?_
          refine ol_nil ?_
          refine cw_condT rfl rfl ?_
          refine cw_seq ?_
          refine cw_region ?_
          refine ol_val (v := .bool true) (by exact xr_assign rfl rfl) rfl rfl rfl ?_
          refine ol_nil ?_
          refine cw_ret ?_
          repeat (first | with_reducible refine thn_r ?_ | with_reducible refine blk_r ?_)
          obtain rfl := Option.some.inj h
          refine fin_ret1 Try.results15 rfl ?_
          exact ⟨_, rfl, rfl, fB⟩
      · skip
        obtain ⟨G50, u54, u57, o55, o58, rfl, z51, b52⟩ := p19.2 _ e24
        rcases en h with ⟨e60, h⟩ | ⟨m61, e60, h⟩
        · obtain rfl := p21.1 e60
          have o55 := Own.base o55 fB.size
          have o58 := Own.base o58 fB.size
          have z51 := Nat.le_trans fB.size z51
          have fB := fB.gr q22
          refine ol_val (v := .tuple #[.pointer (some ⟨G50, 0, none⟩), .pointer none]) (by exact xr_move rfl rfl) rfl rfl rfl ?_
          refine ol_val (v := .pointer (some ⟨G50, 0, none⟩)) (by exact xr_extract rfl rfl rfl) rfl rfl rfl ?_
          refine ol_val (v := .pointer none) (by exact xr_extract rfl rfl rfl) rfl rfl rfl ?_
          refine ol_val (v := .pointer (some ⟨G50, 0, none⟩)) (by exact xr_assign rfl rfl) rfl rfl rfl ?_
          refine ol_val (v := .pointer none) (by exact xr_assign rfl rfl) rfl rfl rfl ?_
          refine ol_nil ?_
          refine cw_seq ?_
          refine cw_seq ?_
          refine cw_region ?_
          refine ol_val (v := .pointer (some ⟨G50, 0, none⟩)) (by exact xr_move rfl rfl) rfl rfl rfl ?_
          refine ol_val (v := .bool false) (by exact xr_eqP (b := false) rfl Try.underlying30 rfl rfl (by simp) (by simp)) rfl rfl rfl ?_
          refine ol_nil ?_
          refine cw_condF rfl rfl ?_
          refine cw_skip ?_
          refine cw_seq ?_
          refine cw_region ?_
          refine ol_val (v := .pointer (some ⟨G50, 0, none⟩)) (by exact xr_move rfl rfl) rfl rfl rfl ?_
          refine ol_val (v := V2_0) (by exact xr_move rfl e2) rfl rfl rfl ?_
          obtain ⟨t62, k63, h⟩ := bs h
          refine ol_op (by exact opv_call rfl cal63 (ac rfl (ac rfl an)) (fate_Choose.ok fu _ m25 G50 u54 (o55.rd) u57 (o58.rd) b52 a2 V2_0 (R2_0.gr fB) _ k63)) rfl rfl rfl ?_
          rintro _ w68 ⟨u64, o65, rfl, q67⟩
          have a69 := OffV.call o58 o65
          have o65 := Own.base o65 fB.size
          have b52 := b52.gr q67
          have o55 := o55.gr q67
          have o58 := o58.gr q67
          have fB := fB.gr q67
          refine ol_val (v := .tuple #[u64, .bool t62.2]) (by exact xr_move rfl rfl) rfl rfl rfl ?_
          refine ol_val (v := u64) (by exact xr_extract rfl rfl rfl) rfl rfl rfl ?_
          refine ol_val (v := .bool t62.2) (by exact xr_extract rfl rfl rfl) rfl rfl rfl ?_
          refine ol_val (v := u64) (by exact xr_assign rfl rfl) rfl rfl rfl ?_
          refine ol_val (v := .bool t62.2) (by exact xr_assign rfl rfl) rfl rfl rfl ?_
          refine ol_nil ?_
          refine cw_seq ?_
          refine cw_region ?_
          refine ol_val (v := .pointer none) (by exact xr_move rfl rfl) rfl rfl rfl ?_
          refine ol_val (v := V2_0) (by exact xr_move rfl e2) rfl rfl rfl ?_
          refine ol_val (v := sv (List.map toB a2)) (by exact xr_toStr rfl Try.underlying43 Try.underlying5 Try.underlying9 rfl (R2_0.gr fB)) rfl rfl rfl ?_
          obtain ⟨t70, k71, h⟩ := bs h
          refine ol_op (by exact opv_call rfl cal64 (ac rfl (ac rfl an)) (rickyardref06_Choose__n0.ok fu _ (List.map toB a2) _ k71)) rfl rfl rfl ?_
          rintro _ w76 ⟨u72, o73, rfl, q75⟩
          have a77 := OffV.call o58 o73
          have a78 := OffV.call o65 o73
          have o73 := Own.base o73 fB.size
          have b52 := b52.gr q75
          have o55 := o55.gr q75
          have o58 := o58.gr q75
          have o65 := o65.gr q75
          have fB := fB.gr q75
          refine ol_val (v := .tuple #[u72, .bool t70.2]) (by exact xr_move rfl rfl) rfl rfl rfl ?_
          refine ol_val (v := u72) (by exact xr_extract rfl rfl rfl) rfl rfl rfl ?_
          refine ol_val (v := .bool t70.2) (by exact xr_extract rfl rfl rfl) rfl rfl rfl ?_
          refine ol_val (v := u72) (by exact xr_assign rfl rfl) rfl rfl rfl ?_
          refine ol_val (v := .bool t70.2) (by exact xr_assign rfl rfl) rfl rfl rfl ?_
          refine ol_nil ?_
          refine cw_seq ?_
          refine cw_seq ?_
          obtain ⟨x79, j80, h⟩ := bs h
          refine cw_mid (fun ρ' w' => ρ' 2 = V2_0 ∧ ρ' 7 = .pointer (some ⟨G50, 0, none⟩) ∧ ρ' 9 = u64 ∧ ρ' 10 = .bool t62.2 ∧ ρ' 11 = u72 ∧ ρ' 51 = .bool x79 ∧ Gr w76 w') ?_ ?_
          · skip
            refine cw_region ?_
            refine ol_val (v := .bool t62.2) (by exact xr_move rfl rfl) rfl rfl rfl ?_
            refine ol_val (v := .bool t70.2) (by exact xr_move rfl rfl) rfl rfl rfl ?_
            refine ol_val (v := .bool (!decide (t62.2 = t70.2))) (by exact xr_neB rfl Try.underlying4 rfl rfl) rfl rfl rfl ?_
            refine ol_val (v := .bool (!decide (t62.2 = t70.2))) (by exact xr_move rfl rfl) rfl rfl rfl ?_
            rcases is j80 with ⟨c81, j80⟩ | ⟨c81, j80⟩
            · skip
              refine ol_gskip rfl rfl rfl rfl rfl c81 ?_
              refine ol_gskip rfl rfl rfl rfl rfl c81 ?_
              refine ol_gskip rfl rfl rfl rfl rfl c81 ?_
              refine ol_gskip rfl rfl rfl rfl rfl c81 ?_
              refine ol_gskip rfl rfl rfl rfl rfl c81 ?_
              refine ol_val (v := .bool true) (by exact xr_pickT rfl rfl c81 rfl) rfl rfl rfl ?_
              refine ol_nil ?_
              obtain rfl := Option.some.inj j80
              refine thn_i ?_
              exact ⟨e2, rfl, rfl, rfl, rfl, rfl, Fr.refl _ _⟩
            · skip
              refine ol_gval (v := .pointer (some ⟨G50, 0, none⟩)) (by exact xr_move rfl rfl) rfl rfl rfl rfl rfl c81 ?_
              refine ol_gval (v := V2_0) (by exact xr_move rfl e2) rfl rfl rfl rfl rfl c81 ?_
              obtain ⟨t82, k83, j80⟩ := bs j80
              refine ol_gop (by exact opv_call rfl cal65 (ac rfl (ac rfl an)) (fate_May.ok fu _ m25 G50 u54 (o55.rd) u57 (o58.rd) b52 a2 V2_0 (R2_0.gr fB) _ k83)) rfl rfl rfl rfl rfl c81 ?_
              rintro _ w85 ⟨rfl, q84⟩
              have b52 := b52.gr q84
              have o55 := o55.gr q84
              have o58 := o58.gr q84
              have o65 := o65.gr q84
              have o73 := o73.gr q84
              have fB := fB.gr q84
              refine ol_gval (v := .bool t70.2) (by exact xr_move rfl rfl) rfl rfl rfl rfl rfl c81 ?_
              refine ol_gval (v := .bool (!decide (t82 = t70.2))) (by exact xr_neB rfl Try.underlying4 rfl rfl) rfl rfl rfl rfl rfl c81 ?_
              refine ol_val (v := .bool (!decide (t82 = t70.2))) (by exact xr_pickF rfl rfl c81 rfl) rfl rfl rfl ?_
              refine ol_nil ?_
              obtain rfl := Option.some.inj j80
              refine thn_i ?_
              exact ⟨e2, rfl, rfl, rfl, rfl, rfl, q84⟩
          · skip
            rintro ρ86 w87 ⟨e2, e7, e9, e10, e11, e51, q88⟩
            have b52 := b52.gr q88
            have o55 := o55.gr q88
            have o58 := o58.gr q88
            have o65 := o65.gr q88
            have o73 := o73.gr q88
            have fB := fB.gr q88
            rcases is h with ⟨c89, h⟩ | ⟨c89, h⟩
            · refine cw_condT e51 c89 ?_
              refine cw_seq ?_
              refine cw_region ?_
              refine ol_val (v := .bool false) (by exact xr_assign rfl rfl) rfl rfl rfl ?_
              refine ol_nil ?_
              refine cw_ret ?_
              repeat (first | with_reducible refine thn_r ?_ | with_reducible refine blk_r ?_)
              obtain rfl := Option.some.inj h
              refine fin_ret1 Try.results15 rfl ?_
              exact ⟨_, rfl, rfl, fB⟩
            · refine cw_condF e51 c89 ?_
              refine cw_skip ?_
              refine cw_seq ?_
              refine cw_seq ?_
              refine cw_region ?_
              refine ol_val (v := .bool t62.2) (by exact xr_move rfl e10) rfl rfl rfl ?_
              refine ol_val (v := .bool (!t62.2)) (by exact xr_not rfl rfl) rfl rfl rfl ?_
              refine ol_nil ?_
              rcases is h with ⟨c90, h⟩ | ⟨c90, h⟩
              · refine cw_condT rfl c90 ?_
                refine cw_seq ?_
                refine cw_region ?_
                refine ol_val (v := u64) (by exact xr_move rfl e9) rfl rfl rfl ?_
                refine ol_val (v := .int .i64 (List.length t62.1 : Int)) (by exact xr_lenR rfl Try.underlying25 rfl o65.rd) rfl rfl rfl ?_
                refine ol_val (v := .bool (decide ((List.length t62.1 : Int) = 0))) (by exact xr_eqI rfl Try.underlying3 rfl rfl rfl) rfl rfl rfl ?_
                refine ol_val (v := .bool (decide ((List.length t62.1 : Int) = 0))) (by exact xr_assign rfl rfl) rfl rfl rfl ?_
                refine ol_nil ?_
                refine cw_ret ?_
                repeat (first | with_reducible refine thn_r ?_ | with_reducible refine blk_r ?_)
                obtain rfl := Option.some.inj h
                refine fin_ret1 Try.results15 rfl ?_
                exact ⟨_, rfl, rfl, fB⟩
              · refine cw_condF rfl c90 ?_
                refine cw_skip ?_
                refine cw_seq ?_
                refine cw_seq ?_
                refine cw_region ?_
                refine ol_val (v := u64) (by exact xr_move rfl e9) rfl rfl rfl ?_
                refine ol_val (v := u72) (by exact xr_move rfl e11) rfl rfl rfl ?_
                obtain ⟨t91, k92, h⟩ := bs h
                refine ol_op (by exact opv_call rfl cal66 (ac rfl (ac rfl an)) (rickyardref01_Ints.ok fu _ t62.1 u64 (o65.rd) t70.1 u72 (o73.rd) _ k92)) rfl rfl rfl ?_
                rintro _ w94 ⟨rfl, q93⟩
                have b52 := b52.gr q93
                have o55 := o55.gr q93
                have o58 := o58.gr q93
                have o65 := o65.gr q93
                have fB := fB.gr q93
                refine ol_val (v := .bool (!t91)) (by exact xr_not rfl rfl) rfl rfl rfl ?_
                refine ol_nil ?_
                rcases is h with ⟨c95, h⟩ | ⟨c95, h⟩
                · refine cw_condT rfl c95 ?_
                  refine cw_seq ?_
                  refine cw_region ?_
                  refine ol_val (v := .bool false) (by exact xr_assign rfl rfl) rfl rfl rfl ?_
                  refine ol_nil ?_
                  refine cw_ret ?_
                  repeat (first | with_reducible refine thn_r ?_ | with_reducible refine blk_r ?_)
                  obtain rfl := Option.some.inj h
                  refine fin_ret1 Try.results15 rfl ?_
                  exact ⟨_, rfl, rfl, fB⟩
                · refine cw_condF rfl c95 ?_
                  refine cw_skip ?_
                  refine cw_seq ?_
                  refine cw_region ?_
                  refine ol_val (v := .pointer (some ⟨G50, 0, none⟩)) (by exact xr_move rfl e7) rfl rfl rfl ?_
                  refine ol_val (v := u64) (by exact xr_move rfl e9) rfl rfl rfl ?_
                  obtain ⟨t96, k97, h⟩ := bs h
                  have c107 : ∀ k, (k = G50 ∨ some k = Value.ownBlock u54 ∨ some k = Value.ownBlock u57) → w.heap.size ≤ k := (cv_or (cv_eq z51) (cv_or (cv_own o55.geO) (cv_own o58.geO)))
                  refine ol_op (by exact opv_call rfl cal32 (ac rfl (ac rfl an)) (pmem_Device_Crash.ok fu _ m25 G50 u54 (Own.base o55 (Nat.zero_le _)) u57 (Own.base o58 (Nat.zero_le _)) b52 t62.1 u64 (o65.rd) (OffR.own o65 (off_ty b52 o65 (by decide))) (OffRV.own o65 (OffV.ty o65 o55 (by decide))) (OffRV.own o65 a69.symm) _ k97)) rfl rfl rfl ?_
                  rintro _ w108 ⟨u99, u103, o100, m101, o104, m105, rfl, b52, q98⟩
                  have o100 := Own.rebase o100 (fun g hg => (m101 g hg).elim (fun x => Nat.le_trans fB.size x) (c107 g))
                  have o104 := Own.rebase o104 (fun g hg => (m105 g hg).elim (fun x => Nat.le_trans fB.size x) (c107 g))
                  have fB := fB.call q98 (fun k h => .inl (c107 k h))
                  refine ol_nil ?_
                  refine cw_seq ?_
                  obtain ⟨t109, k110, h⟩ := bs h
                  refine cw_drawL 5 [fun vz wz => vz = (.pointer (some ⟨G50, 0, none⟩) : Value), fun vz wz => ∃ u111 : Value, ∃ o112 : Own (kI .u8) 5 wz w.heap.size u111 t109, vz = (u111 : Value), fun vz wz => vz = (sv (List.map toB t109) : Value), fun vz wz => vz = (V2_0 : Value), fun vz wz => vz = (sv (List.map toB a2) : Value)] mo rfl ⟨fun _ _ _ h _ => h, fun _ _ _ ⟨u111, o112, h⟩ q => ⟨u111, o112.gr q, h⟩, fun _ _ _ h _ => h, fun _ _ _ h _ => h, fun _ _ _ h _ => h, trivial⟩ ?_ ?_
                  · refine ⟨?_, ?_, ?_, ?_, ?_, trivial⟩
                    · intro ρz wz hz hk hd
                      exact sk_val (v := .pointer (some ⟨G50, 0, none⟩)) (by exact xr_move rfl ((hk 7 rfl).trans e7)) rfl rfl
                    · intro ρz wz hz hk hd
                      have d64 := hd 0 rfl 64 rfl
                      refine sk_op (by exact opv_call rfl cal33 (ac d64 an) (pmem_Device_Image.ok fu _ t96 G50 u99 (o100.gr hz).rd u103 (o104.gr hz).rd (b52.gr hz) _ k110)) rfl ?_
                      rintro u111 wy ⟨_, o112, rfl, q114⟩
                      exact ⟨⟨u111, Own.base o112 ((Nat.le_trans fB.size hz.size)), rfl⟩, q114⟩
                    · intro ρz wz hz hk hd
                      obtain ⟨u111, o112, d65⟩ := hd 1 rfl 65 rfl
                      exact sk_val (v := sv (List.map toB t109)) (by exact xr_toStr rfl Try.underlying43 Try.underlying5 Try.underlying9 d65 o112.rd) rfl rfl
                    · intro ρz wz hz hk hd
                      exact sk_val (v := V2_0) (by exact xr_move rfl ((hk 2 rfl).trans e2)) rfl rfl
                    · intro ρz wz hz hk hd
                      have d67 := hd 3 rfl 67 rfl
                      exact sk_val (v := sv (List.map toB a2)) (by exact xr_toStr rfl Try.underlying43 Try.underlying5 Try.underlying9 d67 (R2_0.gr (fB.gr hz))) rfl rfl
                  · intro ρ115 w116 q117 hk hd
                    have e66 := hd 2 rfl 66 rfl
                    have e68 := hd 4 rfl 68 rfl
                    have fB := fB.gr q117
                    refine ol_val (v := .bool (decide ((List.map toB t109) = (List.map toB a2)))) (by exact xr_eqStr rfl Try.underlying9 e66 e68) rfl rfl rfl ?_
                    refine ol_val (v := .bool (decide ((List.map toB t109) = (List.map toB a2)))) (by exact xr_assign rfl rfl) rfl rfl rfl ?_
                    refine ol_nil ?_
                    refine cw_ret ?_
                    repeat (first | with_reducible refine thn_r ?_ | with_reducible refine blk_r ?_)
                    obtain rfl := Option.some.inj h
                    refine fin_ret1 Try.results15 rfl ?_
                    exact ⟨_, rfl, rfl, fB⟩
        · skip
          obtain ⟨G118, u122, u125, u128, u131, u134, o123, o126, o129, o132, o135, a137, a138, a139, rfl, z119, b120⟩ := p21.2 _ e60
          have o55 := Own.base o55 fB.size
          have o58 := Own.base o58 fB.size
          have o123 := Own.base o123 fB.size
          have o126 := Own.base o126 fB.size
          have o129 := Own.base o129 fB.size
          have o132 := Own.base o132 fB.size
          have o135 := Own.base o135 fB.size
          have z51 := Nat.le_trans fB.size z51
          have z119 := Nat.le_trans fB.size z119
          have fB := fB.gr q22
          have n140 := Blk.neT b52 b120 (by decide)
          refine ol_val (v := .tuple #[.pointer (some ⟨G50, 0, none⟩), .pointer (some ⟨G118, 0, none⟩)]) (by exact xr_move rfl rfl) rfl rfl rfl ?_
          refine ol_val (v := .pointer (some ⟨G50, 0, none⟩)) (by exact xr_extract rfl rfl rfl) rfl rfl rfl ?_
          refine ol_val (v := .pointer (some ⟨G118, 0, none⟩)) (by exact xr_extract rfl rfl rfl) rfl rfl rfl ?_
          refine ol_val (v := .pointer (some ⟨G50, 0, none⟩)) (by exact xr_assign rfl rfl) rfl rfl rfl ?_
          refine ol_val (v := .pointer (some ⟨G118, 0, none⟩)) (by exact xr_assign rfl rfl) rfl rfl rfl ?_
          refine ol_nil ?_
          refine cw_seq ?_
          refine cw_seq ?_
          refine cw_region ?_
          refine ol_val (v := .pointer (some ⟨G50, 0, none⟩)) (by exact xr_move rfl rfl) rfl rfl rfl ?_
          refine ol_val (v := .bool false) (by exact xr_eqP (b := false) rfl Try.underlying30 rfl rfl (by simp) (by simp)) rfl rfl rfl ?_
          refine ol_nil ?_
          refine cw_condF rfl rfl ?_
          refine cw_skip ?_
          refine cw_seq ?_
          refine cw_region ?_
          refine ol_val (v := .pointer (some ⟨G50, 0, none⟩)) (by exact xr_move rfl rfl) rfl rfl rfl ?_
          refine ol_val (v := V2_0) (by exact xr_move rfl e2) rfl rfl rfl ?_
          obtain ⟨t141, k142, h⟩ := bs h
          refine ol_op (by exact opv_call rfl cal63 (ac rfl (ac rfl an)) (fate_Choose.ok fu _ m25 G50 u54 (o55.rd) u57 (o58.rd) b52 a2 V2_0 (R2_0.gr fB) _ k142)) rfl rfl rfl ?_
          rintro _ w147 ⟨u143, o144, rfl, q146⟩
          have a148 := OffV.call o58 o144
          have a149 := OffV.call o135 o144
          have o144 := Own.base o144 fB.size
          have b52 := b52.gr q146
          have b120 := b120.gr q146
          have o55 := o55.gr q146
          have o58 := o58.gr q146
          have o123 := o123.gr q146
          have o126 := o126.gr q146
          have o129 := o129.gr q146
          have o132 := o132.gr q146
          have o135 := o135.gr q146
          have fB := fB.gr q146
          refine ol_val (v := .tuple #[u143, .bool t141.2]) (by exact xr_move rfl rfl) rfl rfl rfl ?_
          refine ol_val (v := u143) (by exact xr_extract rfl rfl rfl) rfl rfl rfl ?_
          refine ol_val (v := .bool t141.2) (by exact xr_extract rfl rfl rfl) rfl rfl rfl ?_
          refine ol_val (v := u143) (by exact xr_assign rfl rfl) rfl rfl rfl ?_
          refine ol_val (v := .bool t141.2) (by exact xr_assign rfl rfl) rfl rfl rfl ?_
          refine ol_nil ?_
          refine cw_seq ?_
          refine cw_region ?_
          refine ol_val (v := .pointer (some ⟨G118, 0, none⟩)) (by exact xr_move rfl rfl) rfl rfl rfl ?_
          refine ol_val (v := V2_0) (by exact xr_move rfl e2) rfl rfl rfl ?_
          refine ol_val (v := sv (List.map toB a2)) (by exact xr_toStr rfl Try.underlying43 Try.underlying5 Try.underlying9 rfl (R2_0.gr fB)) rfl rfl rfl ?_
          obtain ⟨t150, k151, h⟩ := bs h
          refine ol_op (by exact opv_call rfl cal64 (ac rfl (ac rfl an)) (rickyardref06_Choose.ok fu _ m61 G118 u122 (o123.rd) u125 (o126.rd) u128 (o129.rd) u131 (o132.rd) u134 (o135.rd) b120 (List.map toB a2) _ k151)) rfl rfl rfl ?_
          rintro _ w156 ⟨u152, o153, rfl, q155⟩
          have a157 := OffV.call o58 o153
          have a158 := OffV.call o144 o153
          have o153 := Own.base o153 fB.size
          have b52 := b52.gr q155
          have o55 := o55.gr q155
          have o58 := o58.gr q155
          have o144 := o144.gr q155
          have fB := fB.gr q155
          refine ol_val (v := .tuple #[u152, .bool t150.2]) (by exact xr_move rfl rfl) rfl rfl rfl ?_
          refine ol_val (v := u152) (by exact xr_extract rfl rfl rfl) rfl rfl rfl ?_
          refine ol_val (v := .bool t150.2) (by exact xr_extract rfl rfl rfl) rfl rfl rfl ?_
          refine ol_val (v := u152) (by exact xr_assign rfl rfl) rfl rfl rfl ?_
          refine ol_val (v := .bool t150.2) (by exact xr_assign rfl rfl) rfl rfl rfl ?_
          refine ol_nil ?_
          refine cw_seq ?_
          refine cw_seq ?_
          obtain ⟨x159, j160, h⟩ := bs h
          refine cw_mid (fun ρ' w' => ρ' 2 = V2_0 ∧ ρ' 7 = .pointer (some ⟨G50, 0, none⟩) ∧ ρ' 9 = u143 ∧ ρ' 10 = .bool t141.2 ∧ ρ' 11 = u152 ∧ ρ' 51 = .bool x159 ∧ Gr w156 w') ?_ ?_
          · skip
            refine cw_region ?_
            refine ol_val (v := .bool t141.2) (by exact xr_move rfl rfl) rfl rfl rfl ?_
            refine ol_val (v := .bool t150.2) (by exact xr_move rfl rfl) rfl rfl rfl ?_
            refine ol_val (v := .bool (!decide (t141.2 = t150.2))) (by exact xr_neB rfl Try.underlying4 rfl rfl) rfl rfl rfl ?_
            refine ol_val (v := .bool (!decide (t141.2 = t150.2))) (by exact xr_move rfl rfl) rfl rfl rfl ?_
            rcases is j160 with ⟨c161, j160⟩ | ⟨c161, j160⟩
            · skip
              refine ol_gskip rfl rfl rfl rfl rfl c161 ?_
              refine ol_gskip rfl rfl rfl rfl rfl c161 ?_
              refine ol_gskip rfl rfl rfl rfl rfl c161 ?_
              refine ol_gskip rfl rfl rfl rfl rfl c161 ?_
              refine ol_gskip rfl rfl rfl rfl rfl c161 ?_
              refine ol_val (v := .bool true) (by exact xr_pickT rfl rfl c161 rfl) rfl rfl rfl ?_
              refine ol_nil ?_
              obtain rfl := Option.some.inj j160
              refine thn_i ?_
              exact ⟨e2, rfl, rfl, rfl, rfl, rfl, Fr.refl _ _⟩
            · skip
              refine ol_gval (v := .pointer (some ⟨G50, 0, none⟩)) (by exact xr_move rfl rfl) rfl rfl rfl rfl rfl c161 ?_
              refine ol_gval (v := V2_0) (by exact xr_move rfl e2) rfl rfl rfl rfl rfl c161 ?_
              obtain ⟨t162, k163, j160⟩ := bs j160
              refine ol_gop (by exact opv_call rfl cal65 (ac rfl (ac rfl an)) (fate_May.ok fu _ m25 G50 u54 (o55.rd) u57 (o58.rd) b52 a2 V2_0 (R2_0.gr fB) _ k163)) rfl rfl rfl rfl rfl c161 ?_
              rintro _ w165 ⟨rfl, q164⟩
              have b52 := b52.gr q164
              have o55 := o55.gr q164
              have o58 := o58.gr q164
              have o144 := o144.gr q164
              have o153 := o153.gr q164
              have fB := fB.gr q164
              refine ol_gval (v := .bool t150.2) (by exact xr_move rfl rfl) rfl rfl rfl rfl rfl c161 ?_
              refine ol_gval (v := .bool (!decide (t162 = t150.2))) (by exact xr_neB rfl Try.underlying4 rfl rfl) rfl rfl rfl rfl rfl c161 ?_
              refine ol_val (v := .bool (!decide (t162 = t150.2))) (by exact xr_pickF rfl rfl c161 rfl) rfl rfl rfl ?_
              refine ol_nil ?_
              obtain rfl := Option.some.inj j160
              refine thn_i ?_
              exact ⟨e2, rfl, rfl, rfl, rfl, rfl, q164⟩
          · skip
            rintro ρ166 w167 ⟨e2, e7, e9, e10, e11, e51, q168⟩
            have b52 := b52.gr q168
            have o55 := o55.gr q168
            have o58 := o58.gr q168
            have o144 := o144.gr q168
            have o153 := o153.gr q168
            have fB := fB.gr q168
            rcases is h with ⟨c169, h⟩ | ⟨c169, h⟩
            · refine cw_condT e51 c169 ?_
              refine cw_seq ?_
              refine cw_region ?_
              refine ol_val (v := .bool false) (by exact xr_assign rfl rfl) rfl rfl rfl ?_
              refine ol_nil ?_
              refine cw_ret ?_
              repeat (first | with_reducible refine thn_r ?_ | with_reducible refine blk_r ?_)
              obtain rfl := Option.some.inj h
              refine fin_ret1 Try.results15 rfl ?_
              exact ⟨_, rfl, rfl, fB⟩
            · refine cw_condF e51 c169 ?_
              refine cw_skip ?_
              refine cw_seq ?_
              refine cw_seq ?_
              refine cw_region ?_
              refine ol_val (v := .bool t141.2) (by exact xr_move rfl e10) rfl rfl rfl ?_
              refine ol_val (v := .bool (!t141.2)) (by exact xr_not rfl rfl) rfl rfl rfl ?_
              refine ol_nil ?_
              rcases is h with ⟨c170, h⟩ | ⟨c170, h⟩
              · refine cw_condT rfl c170 ?_
                refine cw_seq ?_
                refine cw_region ?_
                refine ol_val (v := u143) (by exact xr_move rfl e9) rfl rfl rfl ?_
                refine ol_val (v := .int .i64 (List.length t141.1 : Int)) (by exact xr_lenR rfl Try.underlying25 rfl o144.rd) rfl rfl rfl ?_
                refine ol_val (v := .bool (decide ((List.length t141.1 : Int) = 0))) (by exact xr_eqI rfl Try.underlying3 rfl rfl rfl) rfl rfl rfl ?_
                refine ol_val (v := .bool (decide ((List.length t141.1 : Int) = 0))) (by exact xr_assign rfl rfl) rfl rfl rfl ?_
                refine ol_nil ?_
                refine cw_ret ?_
                repeat (first | with_reducible refine thn_r ?_ | with_reducible refine blk_r ?_)
                obtain rfl := Option.some.inj h
                refine fin_ret1 Try.results15 rfl ?_
                exact ⟨_, rfl, rfl, fB⟩
              · refine cw_condF rfl c170 ?_
                refine cw_skip ?_
                refine cw_seq ?_
                refine cw_seq ?_
                refine cw_region ?_
                refine ol_val (v := u143) (by exact xr_move rfl e9) rfl rfl rfl ?_
                refine ol_val (v := u152) (by exact xr_move rfl e11) rfl rfl rfl ?_
                obtain ⟨t171, k172, h⟩ := bs h
                refine ol_op (by exact opv_call rfl cal66 (ac rfl (ac rfl an)) (rickyardref01_Ints.ok fu _ t141.1 u143 (o144.rd) t150.1 u152 (o153.rd) _ k172)) rfl rfl rfl ?_
                rintro _ w174 ⟨rfl, q173⟩
                have b52 := b52.gr q173
                have o55 := o55.gr q173
                have o58 := o58.gr q173
                have o144 := o144.gr q173
                have fB := fB.gr q173
                refine ol_val (v := .bool (!t171)) (by exact xr_not rfl rfl) rfl rfl rfl ?_
                refine ol_nil ?_
                rcases is h with ⟨c175, h⟩ | ⟨c175, h⟩
                · refine cw_condT rfl c175 ?_
                  refine cw_seq ?_
                  refine cw_region ?_
                  refine ol_val (v := .bool false) (by exact xr_assign rfl rfl) rfl rfl rfl ?_
                  refine ol_nil ?_
                  refine cw_ret ?_
                  repeat (first | with_reducible refine thn_r ?_ | with_reducible refine blk_r ?_)
                  obtain rfl := Option.some.inj h
                  refine fin_ret1 Try.results15 rfl ?_
                  exact ⟨_, rfl, rfl, fB⟩
                · refine cw_condF rfl c175 ?_
                  refine cw_skip ?_
                  refine cw_seq ?_
                  refine cw_region ?_
                  refine ol_val (v := .pointer (some ⟨G50, 0, none⟩)) (by exact xr_move rfl e7) rfl rfl rfl ?_
                  refine ol_val (v := u143) (by exact xr_move rfl e9) rfl rfl rfl ?_
                  obtain ⟨t176, k177, h⟩ := bs h
                  have c187 : ∀ k, (k = G50 ∨ some k = Value.ownBlock u54 ∨ some k = Value.ownBlock u57) → w.heap.size ≤ k := (cv_or (cv_eq z51) (cv_or (cv_own o55.geO) (cv_own o58.geO)))
                  refine ol_op (by exact opv_call rfl cal32 (ac rfl (ac rfl an)) (pmem_Device_Crash.ok fu _ m25 G50 u54 (Own.base o55 (Nat.zero_le _)) u57 (Own.base o58 (Nat.zero_le _)) b52 t141.1 u143 (o144.rd) (OffR.own o144 (off_ty b52 o144 (by decide))) (OffRV.own o144 (OffV.ty o144 o55 (by decide))) (OffRV.own o144 a148.symm) _ k177)) rfl rfl rfl ?_
                  rintro _ w188 ⟨u179, u183, o180, m181, o184, m185, rfl, b52, q178⟩
                  have o180 := Own.rebase o180 (fun g hg => (m181 g hg).elim (fun x => Nat.le_trans fB.size x) (c187 g))
                  have o184 := Own.rebase o184 (fun g hg => (m185 g hg).elim (fun x => Nat.le_trans fB.size x) (c187 g))
                  have fB := fB.call q178 (fun k h => .inl (c187 k h))
                  refine ol_nil ?_
                  refine cw_seq ?_
                  obtain ⟨t189, k190, h⟩ := bs h
                  refine cw_drawL 5 [fun vz wz => vz = (.pointer (some ⟨G50, 0, none⟩) : Value), fun vz wz => ∃ u191 : Value, ∃ o192 : Own (kI .u8) 5 wz w.heap.size u191 t189, vz = (u191 : Value), fun vz wz => vz = (sv (List.map toB t189) : Value), fun vz wz => vz = (V2_0 : Value), fun vz wz => vz = (sv (List.map toB a2) : Value)] mo rfl ⟨fun _ _ _ h _ => h, fun _ _ _ ⟨u191, o192, h⟩ q => ⟨u191, o192.gr q, h⟩, fun _ _ _ h _ => h, fun _ _ _ h _ => h, fun _ _ _ h _ => h, trivial⟩ ?_ ?_
                  · refine ⟨?_, ?_, ?_, ?_, ?_, trivial⟩
                    · intro ρz wz hz hk hd
                      exact sk_val (v := .pointer (some ⟨G50, 0, none⟩)) (by exact xr_move rfl ((hk 7 rfl).trans e7)) rfl rfl
                    · intro ρz wz hz hk hd
                      have d64 := hd 0 rfl 64 rfl
                      refine sk_op (by exact opv_call rfl cal33 (ac d64 an) (pmem_Device_Image.ok fu _ t176 G50 u179 (o180.gr hz).rd u183 (o184.gr hz).rd (b52.gr hz) _ k190)) rfl ?_
                      rintro u191 wy ⟨_, o192, rfl, q194⟩
                      exact ⟨⟨u191, Own.base o192 ((Nat.le_trans fB.size hz.size)), rfl⟩, q194⟩
                    · intro ρz wz hz hk hd
                      obtain ⟨u191, o192, d65⟩ := hd 1 rfl 65 rfl
                      exact sk_val (v := sv (List.map toB t189)) (by exact xr_toStr rfl Try.underlying43 Try.underlying5 Try.underlying9 d65 o192.rd) rfl rfl
                    · intro ρz wz hz hk hd
                      exact sk_val (v := V2_0) (by exact xr_move rfl ((hk 2 rfl).trans e2)) rfl rfl
                    · intro ρz wz hz hk hd
                      have d67 := hd 3 rfl 67 rfl
                      exact sk_val (v := sv (List.map toB a2)) (by exact xr_toStr rfl Try.underlying43 Try.underlying5 Try.underlying9 d67 (R2_0.gr (fB.gr hz))) rfl rfl
                  · intro ρ195 w196 q197 hk hd
                    have e66 := hd 2 rfl 66 rfl
                    have e68 := hd 4 rfl 68 rfl
                    have fB := fB.gr q197
                    refine ol_val (v := .bool (decide ((List.map toB t189) = (List.map toB a2)))) (by exact xr_eqStr rfl Try.underlying9 e66 e68) rfl rfl rfl ?_
                    refine ol_val (v := .bool (decide ((List.map toB t189) = (List.map toB a2)))) (by exact xr_assign rfl rfl) rfl rfl rfl ?_
                    refine ol_nil ?_
                    refine cw_ret ?_
                    repeat (first | with_reducible refine thn_r ?_ | with_reducible refine blk_r ?_)
                    obtain rfl := Option.some.inj h
                    refine fin_ret1 Try.results15 rfl ?_
                    exact ⟨_, rfl, rfl, fB⟩
end Go.Proofs.Ytklhbaghbmndeaa

/- What a row's arguments are: the readings of arguments opened into records, lists and their facts. -/
set_option linter.unusedVariables false
set_option linter.unusedSimpArgs false
namespace Go.Xw
open Go
variable {P : Program} {w : World}
def Opn {α : Type} (P : Program) (w : World) (T : TypeId) (K : Kd α) (ok : α → Prop) : Prop :=
  ∀ {H : Type} (enc : TypeId × Value → H) (base : Nat) (sp : Nat → Bool) (held : Bool) (fuel : Nat) (cs : List Value) (x : DataW H × List MemPlace), DataW.trod enc P w base sp held fuel T cs = some x → ∃ a : α, cs = K.enc a ∧ ok a
theorem opn_int {T : TypeId} {k : IntKind} (ht : P.underlying T = some (.int k)) : Opn P w T (kI k) (fun n => (Lit.int k n).wf = true) := by
  intro H enc base sp held fuel cs x h
  obtain ⟨n, rfl, _, hw⟩ := DataW.trod_int ht h
  exact ⟨n, rfl, hw⟩
theorem opn_bool {T : TypeId} (ht : P.underlying T = some .bool) : Opn P w T kB (fun _ => True) := by
  intro H enc base sp held fuel cs x h
  obtain ⟨b, rfl, _⟩ := DataW.trod_bool ht h
  exact ⟨b, rfl, trivial⟩
theorem opn_str {T : TypeId} (ht : P.underlying T = some .string) : Opn P w T kS (fun l => l.length ≤ maxLen) := by
  intro H enc base sp held fuel cs x h
  obtain ⟨⟨⟨l⟩⟩, rfl, _, hs⟩ := DataW.trod_string ht h
  exact ⟨l, rfl, by simpa [ByteArray.size] using hs⟩
theorem chunks {α : Type} (K : Kd α) (ok : α → Prop) : ∀ (n : Nat) (cs : List Value), cs.length = n * K.size → (∀ i, i < n → ∃ a, (cs.drop (i * K.size)).take K.size = K.enc a ∧ ok a) → ∃ l : List α, l.length = n ∧ cs = l.flatMap K.enc ∧ ∀ a ∈ l, ok a
  | 0, cs, hl, _ => ⟨[], rfl, by simpa using hl, by simp⟩
  | n + 1, cs, hl, h => by
    obtain ⟨a, ha, hok⟩ := h 0 (by omega)
    rw [Nat.zero_mul, List.drop_zero] at ha
    have hl' : cs.length = n * K.size + K.size := by rw [hl, Nat.succ_mul]
    obtain ⟨l, h1, h2, h3⟩ := chunks K ok n (cs.drop K.size) (by rw [List.length_drop]; omega) (fun i hi => by
      have := h (i + 1) (by omega)
      rw [List.drop_drop, Nat.add_comm, ← Nat.succ_mul]
      exact this)
    refine ⟨a :: l, by simp [h1], ?_, ?_⟩
    · rw [List.flatMap_cons, ← h2, ← ha, List.take_append_drop]
    · intro b hb
      rcases List.mem_cons.1 hb with rfl | hb
      · exact hok
      · exact h3 b hb
theorem ms_len {α β : Type} {f : α → Option β} : ∀ {l : List α} {ys : List β}, l.mapM f = some ys → ys.length = l.length
  | [], ys, h => by simp at h; subst h; rfl
  | a :: l, ys, h => by
    rw [List.mapM_cons] at h
    obtain ⟨b, _, h⟩ := Option.bind_eq_some_iff.1 h
    obtain ⟨bs, hb, h⟩ := Option.bind_eq_some_iff.1 h
    simp at h
    subst h
    simp [ms_len hb]
theorem ms_get {α β : Type} {f : α → Option β} : ∀ {l : List α} {ys : List β}, l.mapM f = some ys → ∀ (i : Nat) (a : α), l[i]? = some a → ∃ y, ys[i]? = some y ∧ f a = some y
  | [], ys, h, i, a, ha => by simp at ha
  | b :: l, ys, h, i, a, ha => by
    rw [List.mapM_cons] at h
    obtain ⟨c, hc, h⟩ := Option.bind_eq_some_iff.1 h
    obtain ⟨bs, hb, h⟩ := Option.bind_eq_some_iff.1 h
    simp at h
    subst h
    cases i with
    | zero =>
      simp at ha
      subst ha
      exact ⟨c, rfl, hc⟩
    | succ i =>
      simp at ha
      obtain ⟨y, h1, h2⟩ := ms_get hb i a ha
      exact ⟨y, by simpa using h1, h2⟩
theorem trod_arr {H : Type} {enc : TypeId × Value → H} {base : Nat} {sp : Nat → Bool} {held : Bool} {fuel : Nat} {T e : TypeId} {n : Nat} {cs : List Value} {x : DataW H × List MemPlace} (ht : P.underlying T = some (.array n e)) (h : DataW.trod enc P w base sp held fuel T cs = some x) :
    cs.length = P.cellsOf T ∧ ∃ m, ∀ i, i < n → ∃ y, DataW.trod enc P w base sp held m e ((cs.drop (i * P.cellsOf e)).take (P.cellsOf e)) = some y := by
  cases fuel with
  | zero => simp [DataW.trod] at h
  | succ m =>
    unfold DataW.trod at h
    rw [ht] at h
    simp only at h
    split at h
    · rename_i hl
      refine ⟨hl, m, fun i hi => ?_⟩
      obtain ⟨xs, hx, _⟩ := Option.map_eq_some_iff.1 h
      obtain ⟨y, _, hy⟩ := ms_get hx i i (by simp [hi])
      exact ⟨y, hy⟩
    · cases h
theorem opn_arr {α : Type} {K : Kd α} {ok : α → Prop} {T e : TypeId} {n : Nat} (ht : P.underlying T = some (.array n e)) (hc : P.cellsOf T = n * P.cellsOf e) (he : P.cellsOf e = K.size) (ho : Opn P w e K ok) : Opn P w T (kA n K) (fun a => ∀ x ∈ a.l, ok x) := by
  intro H enc base sp held fuel cs x h
  obtain ⟨hl, m, hm⟩ := trod_arr ht h
  obtain ⟨l, h1, h2, h3⟩ := chunks K ok n cs (by rw [hl, hc, he]) (fun i hi => by
    obtain ⟨y, hy⟩ := hm i hi
    obtain ⟨a, ha⟩ := ho enc base sp held m _ y hy
    rw [he] at ha
    exact ⟨a, ha⟩)
  exact ⟨⟨l, h1⟩, h2, h3⟩
/-- The fields of a struct, one behind another. -/
theorem fld_cons {cs : List Value} {o n : Nat} {c r : List Value} (h : (cs.drop o).take n = c) (hr : cs.drop (o + n) = r) : cs.drop o = c ++ r := by
  rw [← h, ← hr, ← List.drop_drop, List.take_append_drop]
theorem trod_st {H : Type} {enc : TypeId × Value → H} {base : Nat} {sp : Nat → Bool} {held : Bool} {fuel : Nat} {T : TypeId} {fs : Array Field} {cs : List Value} {x : DataW H × List MemPlace} (ht : P.underlying T = some (.struct fs)) (h : DataW.trod enc P w base sp held fuel T cs = some x) :
    cs.length = P.cellsOf T ∧ ∃ m, ∀ (i : Nat) (f : Field), fs[i]? = some f → ∃ y, DataW.trod enc P w base sp held m f.type ((cs.drop f.offset).take (P.cellsOf f.type)) = some y := by
  obtain ⟨xs, m, _, _, hl, hn, hf⟩ := DataW.trod_struct ht h
  refine ⟨hl, m, fun i f hi => ?_⟩
  have hx : i < xs.length := by rw [hn]; exact (Array.getElem?_eq_some_iff.1 hi).1
  exact ⟨xs[i], by rw [hf i f hi, List.getElem?_eq_getElem hx]⟩
/-- Slices: a cell that reads as a list. -/
def OpnS {α : Type} (P : Program) (w : World) (T : TypeId) (K : Kd α) (ok : α → Prop) : Prop :=
  ∀ {H : Type} (enc : TypeId × Value → H) (base : Nat) (sp : Nat → Bool) (held : Bool) (fuel : Nat) (cs : List Value) (x : DataW H × List MemPlace), DataW.trod enc P w base sp held fuel T cs = some x → ∃ (l : List α) (V : Value), cs = [V] ∧ Rd K w V l ∧ (∀ a ∈ l, ok a) ∧ l.length ≤ maxLen ∧ (sb V < w.heap.size ∨ l = [])
theorem cells_get {base : Nat} {a : Addr} {n : Nat} {cs : List Value} (h : w.cells? base a n = some cs) : cs.length = n ∧ ∀ j, j < n → w.cell? (a.add j) = cs[j]? := by
  unfold World.cells? at h
  split at h
  · refine ⟨by simpa using ms_len h, fun j hj => ?_⟩
    obtain ⟨y, h1, h2⟩ := ms_get h j j (by simp [hj])
    rw [h1, h2]
  · cases h
theorem opn_slice {α : Type} {K : Kd α} {ok : α → Prop} {T e : TypeId} (ht : P.underlying T = some (.slice e)) (he : P.cellsOf e = K.size) (hk : 0 < K.size) (ho : Opn P w e K ok) : OpnS P w T K ok := by
  intro H enc base sp held fuel cs x h
  rcases DataW.trod_slice ht h with ⟨rfl, _⟩ | ⟨a, len, cap, elems, rest, n, rfl, rfl, _, _, hl, hm, hlen, hel, _, _⟩
  · exact ⟨[], _, rfl, Rd.nil K w, by simp, by simp, .inr rfl⟩
  · have hex : ∀ i, i < len → ∃ b, (∀ j z, (K.enc b)[j]? = some z → w.cell? (a.add (i * K.size + j)) = some z) ∧ ok b := by
      intro i hi
      have h1 := hel i hi
      rw [List.getElem?_eq_getElem (by omega)] at h1
      obtain ⟨cs, h2, h3⟩ := Option.bind_eq_some_iff.1 h1
      obtain ⟨b, rfl, hb⟩ := ho enc base sp held n cs _ h3
      obtain ⟨h4, h5⟩ := cells_get h2
      rw [he] at h4 h5
      refine ⟨b, fun j z hz => ?_, hb⟩
      have hj : j < K.size := by rw [← h4]; exact (List.getElem?_eq_some_iff.1 hz).1
      have := h5 j hj
      rw [hz] at this
      rw [← this]
      congr 1
      unfold Addr.add
      by_cases hi0 : i * K.size = 0
      · by_cases hj0 : j = 0
        · simp [hi0, hj0]
        · simp [hi0, hj0]
      · by_cases hj0 : j = 0
        · simp [hi0, hj0]
        · have : i * K.size + j ≠ 0 := by omega
          simp [hi0, hj0, this, Nat.add_assoc]
    have hlist : ∀ m, m ≤ len → ∃ l : List α, l.length = m ∧ (∀ b ∈ l, ok b) ∧ ∀ j z, (l.flatMap K.enc)[j]? = some z → w.cell? (a.add j) = some z := by
      intro m
      induction m with
      | zero => intro _; exact ⟨[], rfl, by simp, by simp⟩
      | succ m ih =>
        intro hm
        obtain ⟨l, h1, h2, h3⟩ := ih (by omega)
        obtain ⟨b, h4, h5⟩ := hex m (by omega)
        refine ⟨l ++ [b], by simp [h1], ?_, ?_⟩
        · intro c hc
          rcases List.mem_append.1 hc with hc | hc
          · exact h2 c hc
          · obtain rfl := List.mem_singleton.1 hc
            exact h5
        · intro j z hz
          have hL : (l.flatMap K.enc).length = m * K.size := by rw [len_flat, h1]
          simp only [List.flatMap_append, List.flatMap_cons, List.flatMap_nil, List.append_nil] at hz
          by_cases hj : j < m * K.size
          · rw [List.getElem?_append_left (by omega)] at hz
            exact h3 j z hz
          · rw [List.getElem?_append_right (by omega), hL] at hz
            have := h4 (j - m * K.size) z hz
            rwa [show m * K.size + (j - m * K.size) = j from by omega] at this
    obtain ⟨l, h1, h2, h3⟩ := hlist len (Nat.le_refl _)
    have hpos : 0 < l.length → ∃ z, w.cell? a = some z := by
      intro hp
      cases l with
      | nil => simp at hp
      | cons b l =>
        have hb : (K.enc b).length = K.size := K.len b
        have : ∃ z, ((b :: l).flatMap K.enc)[0]? = some z := ⟨_, List.getElem?_eq_getElem (by simp [List.flatMap_cons, hb]; omega)⟩
        obtain ⟨z, hz⟩ := this
        have := h3 0 z hz
        exact ⟨z, by simpa [Addr.add] using this⟩
    refine ⟨l, _, rfl, ⟨some a, cap, by rw [h1], by omega, fun hp => ?_⟩, h2, by omega, ?_⟩
    · obtain ⟨z, hz⟩ := hpos hp
      obtain ⟨b, o, s⟩ := a
      have hs : s = none := by
        unfold World.cell? at hz
        split at hz
        · cases s with
          | none => rfl
          | some _ => simp at hz
        · cases hz
      subst hs
      refine ⟨b, o, rfl, fun j v hv => ?_⟩
      have := h3 j v hv
      rwa [Addr.add_lit] at this
    · rcases Nat.eq_zero_or_pos l.length with h0 | hp
      · exact .inr (List.eq_nil_of_length_eq_zero h0)
      · obtain ⟨z, hz⟩ := hpos hp
        refine .inl ?_
        unfold World.cell? at hz
        split at hz
        · rename_i hh
          exact (Array.getElem?_eq_some_iff.1 hh).1
        · cases hz
theorem agg_of {T : TypeId} {v : Value} {cs : List Value} {base : Nat} (h : aggB P T = some true) (hv : Value.okWide P w .any base T v) (hc : v.cells.toList = cs) : v = .agg cs.toArray := by
  unfold aggB at h
  obtain ⟨d, hu, hd⟩ := Option.map_eq_some_iff.1 h
  unfold Value.okWide at hv
  rw [hu] at hv
  cases d <;> simp at hd <;> (obtain ⟨c2, rfl, _⟩ := hv; subst hc; simp [Value.cells])
end Go.Xw

/- What a row's arguments are: slices of records that hold slices. -/
set_option linter.unusedVariables false
set_option linter.unusedSimpArgs false
namespace Go.Xw
open Go
theorem opn_sliceN {P : Program} {w : World} {α : Type} {n : Nat} {D : World → List Value → α → Prop} {ok : α → Prop} {T e : TypeId} (ht : P.underlying T = some (.slice e)) (he : P.cellsOf e = n) (hk : 0 < n)
    (ho : ∀ {H : Type} (enc : TypeId × Value → H) (base : Nat) (sp : Nat → Bool) (held : Bool) (fuel : Nat) (cs : List Value) (x : DataW H × List MemPlace), DataW.trod enc P w base sp held fuel e cs = some x → ∃ a : α, D w cs a ∧ ok a ∧ cs.length = n ∧ ∀ v ∈ cs, v.oneCell' = true)
    {H : Type} (enc : TypeId × Value → H) (base : Nat) (sp : Nat → Bool) (held : Bool) (fuel : Nat) (cs : List Value) (x : DataW H × List MemPlace) (h : DataW.trod enc P w base sp held fuel T cs = some x) :
    ∃ (l : List α) (V : Value), cs = [V] ∧ RdN n D w V l ∧ (∀ a ∈ l, ok a) ∧ l.length ≤ maxLen ∧ (sb V < w.heap.size ∨ l = []) := by
  let β := { p : { l : List Value // l.length = n ∧ ∀ v ∈ l, v.oneCell' = true } × α // D w p.1.1 p.2 ∧ ok p.2 }
  let K : Kd β := ⟨fun p => p.1.1.1, n, fun p => p.1.1.2.1, fun p => p.1.1.2.2⟩
  have hp : Opn P w e K (fun _ => True) := by
    intro H enc base sp held fuel cs x h
    obtain ⟨a, hd, hok, hl, h1⟩ := ho enc base sp held fuel cs x h
    exact ⟨⟨(⟨cs, hl, h1⟩, a), hd, hok⟩, rfl, trivial⟩
  obtain ⟨l, V, e1, r, _, hm, hs⟩ := opn_slice (K := K) ht he hk hp enc base sp held fuel cs x h
  refine ⟨l.map (fun p => p.1.2), V, e1, ⟨l.map (fun p => p.1.1), ?_, by simp, ?_⟩, ?_, by simpa using hm, ?_⟩
  · obtain ⟨A, c, rfl, hc, hr⟩ := r
    refine ⟨A, c, by simp, by simpa using hc, fun hpos => ?_⟩
    obtain ⟨b, o, ea, hat⟩ := hr (by simpa using hpos)
    refine ⟨b, o, ea, ?_⟩
    rw [List.flatMap_map]
    exact hat
  · intro i h1 h2
    have hi : i < l.length := by simpa using h1
    simp only [List.getElem_map]
    exact (l[i]).2.1
  · intro a ha
    obtain ⟨p, _, rfl⟩ := List.mem_map.1 ha
    exact p.2.2
  · rcases hs with hs | rfl
    · exact .inl hs
    · exact .inr rfl
end Go.Xw

/- What the laws' arguments open into: written by rows.py. -/
set_option linter.unusedVariables false
set_option linter.unusedSimpArgs false
namespace Go.Proofs.Ytklhbaghbmndeaa
open Go Go.Xw
def ok_rickyardlaw05_Act (a : S_rickyardlaw05_Act) : Prop := (Lit.int .i64 a.Kind).wf = true ∧ (Lit.int .i64 a.At).wf = true ∧ (Lit.int .u64 a.W).wf = true ∧ ((∀ x ∈ a.L, (Lit.int .i64 x).wf = true) ∧ List.length a.L ≤ maxLen)
theorem opn_rickyardlaw05_Act {w : World} {H : Type} (enc : TypeId × Value → H) (base : Nat) (sp : Nat → Bool) (held : Bool) (fuel : Nat) (cs : List Value) (x : DataW H × List MemPlace) (h : DataW.trod enc Try.prog w base sp held fuel 39 cs = some x) : ∃ a : S_rickyardlaw05_Act, ∃ V0 : Value, ∃ R0 : Rd (kI .i64) w V0 a.L, cs = cellsOf [Seg.cell (.int .i64 a.Kind), Seg.cell (.int .i64 a.At), Seg.cell (.int .u64 a.W), Seg.cell V0 R0.one] ∧ ok_rickyardlaw05_Act a := by
  obtain ⟨hl, m, hf⟩ := trod_st Try.underlying39 h
  obtain ⟨y0, h0⟩ := hf 0 _ rfl
  have c0 : Try.prog.cellsOf 3 = 1 := by kernel_rfl
  obtain ⟨b0, e0, o0⟩ := (opn_int Try.underlying3) enc base sp held m _ y0 h0
  have e0 : (cs.drop 0).take 1 = (kI .i64).enc b0 := (congrArg (fun n => (cs.drop 0).take n) c0).symm.trans e0
  obtain ⟨y1, h1⟩ := hf 1 _ rfl
  have c1 : Try.prog.cellsOf 3 = 1 := by kernel_rfl
  obtain ⟨b1, e1, o1⟩ := (opn_int Try.underlying3) enc base sp held m _ y1 h1
  have e1 : (cs.drop 1).take 1 = (kI .i64).enc b1 := (congrArg (fun n => (cs.drop 1).take n) c1).symm.trans e1
  obtain ⟨y2, h2⟩ := hf 2 _ rfl
  have c2 : Try.prog.cellsOf 22 = 1 := by kernel_rfl
  obtain ⟨b2, e2, o2⟩ := (opn_int Try.underlying22) enc base sp held m _ y2 h2
  have e2 : (cs.drop 2).take 1 = (kI .u64).enc b2 := (congrArg (fun n => (cs.drop 2).take n) c2).symm.trans e2
  obtain ⟨y3, h3⟩ := hf 3 _ rfl
  have c3 : Try.prog.cellsOf 25 = 1 := by kernel_rfl
  obtain ⟨b3, W3, e3, r3, o3, l3, _⟩ := (opn_slice (K := (kI .i64)) Try.underlying25 (by kernel_rfl) (by decide) (opn_int Try.underlying3)) enc base sp held m _ y3 h3
  have e3 : (cs.drop 3).take 1 = [W3] := (congrArg (fun n => (cs.drop 3).take n) c3).symm.trans e3
  have hn : cs.drop 4 = [] := List.drop_eq_nil_of_le (by rw [hl]; exact Nat.le_of_eq (by kernel_rfl))
  have hc : cs = (kI .i64).enc b0 ++ ((kI .i64).enc b1 ++ ((kI .u64).enc b2 ++ ([W3] ++ []))) := (fld_cons (o := 0) (n := 1) e0 (fld_cons (o := 1) (n := 1) e1 (fld_cons (o := 2) (n := 1) e2 (fld_cons (o := 3) (n := 1) e3 hn))))
  refine ⟨⟨b0, b1, b2, b3⟩, W3, r3, ?_, o0, o1, o2, ⟨o3, l3⟩⟩
  rw [hc]
  simp [kA, kI, kB, kS, kT, cellsOf, Seg.cell, Kd.seg]
def ok_rickyardlaw05_Fenced (a : S_rickyardlaw05_Fenced) : Prop := (Lit.int .i64 a.Line).wf = true ∧ (∀ x ∈ a.Ws.l, (Lit.int .u64 x).wf = true) ∧ ((∀ x ∈ a.Acts, ok_rickyardlaw05_Act x) ∧ List.length a.Acts ≤ maxLen) ∧ ((∀ x ∈ a.L, (Lit.int .i64 x).wf = true) ∧ List.length a.L ≤ maxLen)
theorem opn_rickyardlaw05_Fenced {w : World} {H : Type} (enc : TypeId × Value → H) (base : Nat) (sp : Nat → Bool) (held : Bool) (fuel : Nat) (cs : List Value) (x : DataW H × List MemPlace) (h : DataW.trod enc Try.prog w base sp held fuel 27 cs = some x) : ∃ a : S_rickyardlaw05_Fenced, ∃ V0 : Value, ∃ V1 : Value, ∃ R0 : RdN 4 D_rickyardlaw05_Act w V0 a.Acts, ∃ R1 : Rd (kI .i64) w V1 a.L, cs = cellsOf [Seg.cell (.int .i64 a.Line), Kd.seg (kA 8 (kI .u64)) a.Ws, Seg.cell V0 R0.one, Seg.cell V1 R1.one] ∧ ok_rickyardlaw05_Fenced a := by
  obtain ⟨hl, m, hf⟩ := trod_st Try.underlying27 h
  obtain ⟨y0, h0⟩ := hf 0 _ rfl
  have c0 : Try.prog.cellsOf 3 = 1 := by kernel_rfl
  obtain ⟨b0, e0, o0⟩ := (opn_int Try.underlying3) enc base sp held m _ y0 h0
  have e0 : (cs.drop 0).take 1 = (kI .i64).enc b0 := (congrArg (fun n => (cs.drop 0).take n) c0).symm.trans e0
  obtain ⟨y1, h1⟩ := hf 1 _ rfl
  have c1 : Try.prog.cellsOf 23 = 8 := by kernel_rfl
  obtain ⟨b1, e1, o1⟩ := (opn_arr Try.underlying23 (by kernel_rfl) (by kernel_rfl) (opn_int Try.underlying22)) enc base sp held m _ y1 h1
  have e1 : (cs.drop 1).take 8 = (kA 8 (kI .u64)).enc b1 := (congrArg (fun n => (cs.drop 1).take n) c1).symm.trans e1
  obtain ⟨y2, h2⟩ := hf 2 _ rfl
  have c2 : Try.prog.cellsOf 24 = 1 := by kernel_rfl
  obtain ⟨b2, W2, e2, r2, o2, l2, _⟩ := (opn_sliceN (n := 4) (D := D_rickyardlaw05_Act) (ok := ok_rickyardlaw05_Act) (w := w) Try.underlying24 (by kernel_rfl) (by decide) (fun enc base sp held fuel cs x h => by obtain ⟨a, V0, R0, e, o⟩ := opn_rickyardlaw05_Act enc base sp held fuel cs x h; exact ⟨a, ⟨V0, R0, e⟩, o, by rw [e, len_cellsOf]; rfl, by rw [e]; exact one_cellsOf _⟩)) enc base sp held m _ y2 h2
  have e2 : (cs.drop 9).take 1 = [W2] := (congrArg (fun n => (cs.drop 9).take n) c2).symm.trans e2
  obtain ⟨y3, h3⟩ := hf 3 _ rfl
  have c3 : Try.prog.cellsOf 25 = 1 := by kernel_rfl
  obtain ⟨b3, W3, e3, r3, o3, l3, _⟩ := (opn_slice (K := (kI .i64)) Try.underlying25 (by kernel_rfl) (by decide) (opn_int Try.underlying3)) enc base sp held m _ y3 h3
  have e3 : (cs.drop 10).take 1 = [W3] := (congrArg (fun n => (cs.drop 10).take n) c3).symm.trans e3
  have hn : cs.drop 11 = [] := List.drop_eq_nil_of_le (by rw [hl]; exact Nat.le_of_eq (by kernel_rfl))
  have hc : cs = (kI .i64).enc b0 ++ ((kA 8 (kI .u64)).enc b1 ++ ([W2] ++ ([W3] ++ []))) := (fld_cons (o := 0) (n := 1) e0 (fld_cons (o := 1) (n := 8) e1 (fld_cons (o := 9) (n := 1) e2 (fld_cons (o := 10) (n := 1) e3 hn))))
  refine ⟨⟨b0, b1, b2, b3⟩, W2, W3, r2, r3, ?_, o0, o1, ⟨o2, l2⟩, ⟨o3, l3⟩⟩
  rw [hc]
  simp [kA, kI, kB, kS, kT, cellsOf, Seg.cell, Kd.seg]
def ok_api_Fate (a : S_api_Fate) : Prop := (Lit.int .i64 a.At).wf = true ∧ (Lit.int .u64 a.Lasts).wf = true ∧ True ∧ (Lit.int .u64 a.Sent).wf = true ∧ (Lit.int .u64 a.Stored).wf = true
theorem opn_api_Fate {w : World} : Opn Try.prog w 55 k_api_Fate ok_api_Fate := by
  intro H enc base sp held fuel cs x h
  obtain ⟨hl, m, hf⟩ := trod_st Try.underlying55 h
  obtain ⟨y0, h0⟩ := hf 0 _ rfl
  have c0 : Try.prog.cellsOf 3 = 1 := by kernel_rfl
  obtain ⟨b0, e0, o0⟩ := (opn_int Try.underlying3) enc base sp held m _ y0 h0
  have e0 : (cs.drop 0).take 1 = (kI .i64).enc b0 := (congrArg (fun n => (cs.drop 0).take n) c0).symm.trans e0
  obtain ⟨y1, h1⟩ := hf 1 _ rfl
  have c1 : Try.prog.cellsOf 22 = 1 := by kernel_rfl
  obtain ⟨b1, e1, o1⟩ := (opn_int Try.underlying22) enc base sp held m _ y1 h1
  have e1 : (cs.drop 1).take 1 = (kI .u64).enc b1 := (congrArg (fun n => (cs.drop 1).take n) c1).symm.trans e1
  obtain ⟨y2, h2⟩ := hf 2 _ rfl
  have c2 : Try.prog.cellsOf 4 = 1 := by kernel_rfl
  obtain ⟨b2, e2, o2⟩ := (opn_bool Try.underlying4) enc base sp held m _ y2 h2
  have e2 : (cs.drop 2).take 1 = kB.enc b2 := (congrArg (fun n => (cs.drop 2).take n) c2).symm.trans e2
  obtain ⟨y3, h3⟩ := hf 3 _ rfl
  have c3 : Try.prog.cellsOf 22 = 1 := by kernel_rfl
  obtain ⟨b3, e3, o3⟩ := (opn_int Try.underlying22) enc base sp held m _ y3 h3
  have e3 : (cs.drop 3).take 1 = (kI .u64).enc b3 := (congrArg (fun n => (cs.drop 3).take n) c3).symm.trans e3
  obtain ⟨y4, h4⟩ := hf 4 _ rfl
  have c4 : Try.prog.cellsOf 22 = 1 := by kernel_rfl
  obtain ⟨b4, e4, o4⟩ := (opn_int Try.underlying22) enc base sp held m _ y4 h4
  have e4 : (cs.drop 4).take 1 = (kI .u64).enc b4 := (congrArg (fun n => (cs.drop 4).take n) c4).symm.trans e4
  have hn : cs.drop 5 = [] := List.drop_eq_nil_of_le (by rw [hl]; exact Nat.le_of_eq (by kernel_rfl))
  have hc : cs = (kI .i64).enc b0 ++ ((kI .u64).enc b1 ++ (kB.enc b2 ++ ((kI .u64).enc b3 ++ ((kI .u64).enc b4 ++ [])))) := (fld_cons (o := 0) (n := 1) e0 (fld_cons (o := 1) (n := 1) e1 (fld_cons (o := 2) (n := 1) e2 (fld_cons (o := 3) (n := 1) e3 (fld_cons (o := 4) (n := 1) e4 hn)))))
  refine ⟨⟨b0, b1, b2, b3, b4⟩, ?_, o0, o1, o2, o3, o4⟩
  rw [hc]
  simp [kA, kI, kB, kS, kT, cellsOf, Seg.cell, Kd.seg, k_api_Fate, segs_api_Fate]
def ok_api_Geometry (a : S_api_Geometry) : Prop := (Lit.int .i64 a.Blocks).wf = true ∧ (Lit.int .i64 a.Slots).wf = true ∧ (Lit.int .i64 a.Gens).wf = true
theorem opn_api_Geometry {w : World} : Opn Try.prog w 106 k_api_Geometry ok_api_Geometry := by
  intro H enc base sp held fuel cs x h
  obtain ⟨hl, m, hf⟩ := trod_st Try.underlying106 h
  obtain ⟨y0, h0⟩ := hf 0 _ rfl
  have c0 : Try.prog.cellsOf 3 = 1 := by kernel_rfl
  obtain ⟨b0, e0, o0⟩ := (opn_int Try.underlying3) enc base sp held m _ y0 h0
  have e0 : (cs.drop 0).take 1 = (kI .i64).enc b0 := (congrArg (fun n => (cs.drop 0).take n) c0).symm.trans e0
  obtain ⟨y1, h1⟩ := hf 1 _ rfl
  have c1 : Try.prog.cellsOf 3 = 1 := by kernel_rfl
  obtain ⟨b1, e1, o1⟩ := (opn_int Try.underlying3) enc base sp held m _ y1 h1
  have e1 : (cs.drop 1).take 1 = (kI .i64).enc b1 := (congrArg (fun n => (cs.drop 1).take n) c1).symm.trans e1
  obtain ⟨y2, h2⟩ := hf 2 _ rfl
  have c2 : Try.prog.cellsOf 3 = 1 := by kernel_rfl
  obtain ⟨b2, e2, o2⟩ := (opn_int Try.underlying3) enc base sp held m _ y2 h2
  have e2 : (cs.drop 2).take 1 = (kI .i64).enc b2 := (congrArg (fun n => (cs.drop 2).take n) c2).symm.trans e2
  have hn : cs.drop 3 = [] := List.drop_eq_nil_of_le (by rw [hl]; exact Nat.le_of_eq (by kernel_rfl))
  have hc : cs = (kI .i64).enc b0 ++ ((kI .i64).enc b1 ++ ((kI .i64).enc b2 ++ [])) := (fld_cons (o := 0) (n := 1) e0 (fld_cons (o := 1) (n := 1) e1 (fld_cons (o := 2) (n := 1) e2 hn)))
  refine ⟨⟨b0, b1, b2⟩, ?_, o0, o1, o2⟩
  rw [hc]
  simp [kA, kI, kB, kS, kT, cellsOf, Seg.cell, Kd.seg, k_api_Fate, k_api_Geometry, k_api_Tickets, segs_api_Fate, segs_api_Geometry, segs_api_Tickets]
def ok_api_Tickets (a : S_api_Tickets) : Prop := ok_api_Geometry a.Geometry ∧ (Lit.int .i64 a.Top).wf = true ∧ (Lit.int .i64 a.High).wf = true ∧ (Lit.int .i64 a.Free).wf = true
theorem opn_api_Tickets {w : World} : Opn Try.prog w 108 k_api_Tickets ok_api_Tickets := by
  intro H enc base sp held fuel cs x h
  obtain ⟨hl, m, hf⟩ := trod_st Try.underlying108 h
  obtain ⟨y0, h0⟩ := hf 0 _ rfl
  have c0 : Try.prog.cellsOf 106 = 3 := by kernel_rfl
  obtain ⟨b0, e0, o0⟩ := (opn_api_Geometry (w := w)) enc base sp held m _ y0 h0
  have e0 : (cs.drop 0).take 3 = k_api_Geometry.enc b0 := (congrArg (fun n => (cs.drop 0).take n) c0).symm.trans e0
  obtain ⟨y1, h1⟩ := hf 1 _ rfl
  have c1 : Try.prog.cellsOf 3 = 1 := by kernel_rfl
  obtain ⟨b1, e1, o1⟩ := (opn_int Try.underlying3) enc base sp held m _ y1 h1
  have e1 : (cs.drop 3).take 1 = (kI .i64).enc b1 := (congrArg (fun n => (cs.drop 3).take n) c1).symm.trans e1
  obtain ⟨y2, h2⟩ := hf 2 _ rfl
  have c2 : Try.prog.cellsOf 3 = 1 := by kernel_rfl
  obtain ⟨b2, e2, o2⟩ := (opn_int Try.underlying3) enc base sp held m _ y2 h2
  have e2 : (cs.drop 4).take 1 = (kI .i64).enc b2 := (congrArg (fun n => (cs.drop 4).take n) c2).symm.trans e2
  obtain ⟨y3, h3⟩ := hf 3 _ rfl
  have c3 : Try.prog.cellsOf 3 = 1 := by kernel_rfl
  obtain ⟨b3, e3, o3⟩ := (opn_int Try.underlying3) enc base sp held m _ y3 h3
  have e3 : (cs.drop 5).take 1 = (kI .i64).enc b3 := (congrArg (fun n => (cs.drop 5).take n) c3).symm.trans e3
  have hn : cs.drop 6 = [] := List.drop_eq_nil_of_le (by rw [hl]; exact Nat.le_of_eq (by kernel_rfl))
  have hc : cs = k_api_Geometry.enc b0 ++ ((kI .i64).enc b1 ++ ((kI .i64).enc b2 ++ ((kI .i64).enc b3 ++ []))) := (fld_cons (o := 0) (n := 3) e0 (fld_cons (o := 3) (n := 1) e1 (fld_cons (o := 4) (n := 1) e2 (fld_cons (o := 5) (n := 1) e3 hn))))
  refine ⟨⟨b0, b1, b2, b3⟩, ?_, o0, o1, o2, o3⟩
  rw [hc]
  simp [kA, kI, kB, kS, kT, cellsOf, Seg.cell, Kd.seg, k_api_Fate, k_api_Geometry, k_api_Tickets, segs_api_Fate, segs_api_Geometry, segs_api_Tickets]
def ok_api_Super (a : S_api_Super) : Prop := (Lit.int .i64 a.Epoch).wf = true ∧ ok_api_Tickets a.Tickets ∧ (Lit.int .i64 a.Dir).wf = true ∧ ((∀ x ∈ a.Charts, (Lit.int .i64 x).wf = true) ∧ List.length a.Charts ≤ maxLen)
theorem opn_api_Super {w : World} {H : Type} (enc : TypeId × Value → H) (base : Nat) (sp : Nat → Bool) (held : Bool) (fuel : Nat) (cs : List Value) (x : DataW H × List MemPlace) (h : DataW.trod enc Try.prog w base sp held fuel 110 cs = some x) : ∃ a : S_api_Super, ∃ V0 : Value, ∃ R0 : Rd (kI .i64) w V0 a.Charts, cs = cellsOf [Seg.cell (.int .i64 a.Epoch), Seg.cell (.int .i64 a.Tickets.Geometry.Blocks), Seg.cell (.int .i64 a.Tickets.Geometry.Slots), Seg.cell (.int .i64 a.Tickets.Geometry.Gens), Seg.cell (.int .i64 a.Tickets.Top), Seg.cell (.int .i64 a.Tickets.High), Seg.cell (.int .i64 a.Tickets.Free), Seg.cell (.int .i64 a.Dir), Seg.cell V0 R0.one] ∧ ok_api_Super a := by
  obtain ⟨hl, m, hf⟩ := trod_st Try.underlying110 h
  obtain ⟨y0, h0⟩ := hf 0 _ rfl
  have c0 : Try.prog.cellsOf 3 = 1 := by kernel_rfl
  obtain ⟨b0, e0, o0⟩ := (opn_int Try.underlying3) enc base sp held m _ y0 h0
  have e0 : (cs.drop 0).take 1 = (kI .i64).enc b0 := (congrArg (fun n => (cs.drop 0).take n) c0).symm.trans e0
  obtain ⟨y1, h1⟩ := hf 1 _ rfl
  have c1 : Try.prog.cellsOf 108 = 6 := by kernel_rfl
  obtain ⟨b1, e1, o1⟩ := (opn_api_Tickets (w := w)) enc base sp held m _ y1 h1
  have e1 : (cs.drop 1).take 6 = k_api_Tickets.enc b1 := (congrArg (fun n => (cs.drop 1).take n) c1).symm.trans e1
  obtain ⟨y2, h2⟩ := hf 2 _ rfl
  have c2 : Try.prog.cellsOf 3 = 1 := by kernel_rfl
  obtain ⟨b2, e2, o2⟩ := (opn_int Try.underlying3) enc base sp held m _ y2 h2
  have e2 : (cs.drop 7).take 1 = (kI .i64).enc b2 := (congrArg (fun n => (cs.drop 7).take n) c2).symm.trans e2
  obtain ⟨y3, h3⟩ := hf 3 _ rfl
  have c3 : Try.prog.cellsOf 25 = 1 := by kernel_rfl
  obtain ⟨b3, W3, e3, r3, o3, l3, _⟩ := (opn_slice (K := (kI .i64)) Try.underlying25 (by kernel_rfl) (by decide) (opn_int Try.underlying3)) enc base sp held m _ y3 h3
  have e3 : (cs.drop 8).take 1 = [W3] := (congrArg (fun n => (cs.drop 8).take n) c3).symm.trans e3
  have hn : cs.drop 9 = [] := List.drop_eq_nil_of_le (by rw [hl]; exact Nat.le_of_eq (by kernel_rfl))
  have hc : cs = (kI .i64).enc b0 ++ (k_api_Tickets.enc b1 ++ ((kI .i64).enc b2 ++ ([W3] ++ []))) := (fld_cons (o := 0) (n := 1) e0 (fld_cons (o := 1) (n := 6) e1 (fld_cons (o := 7) (n := 1) e2 (fld_cons (o := 8) (n := 1) e3 hn))))
  refine ⟨⟨b0, b1, b2, b3⟩, W3, r3, ?_, o0, o1, o2, ⟨o3, l3⟩⟩
  rw [hc]
  simp [kA, kI, kB, kS, kT, cellsOf, Seg.cell, Kd.seg, k_api_Fate, k_api_Geometry, k_api_Tickets, segs_api_Fate, segs_api_Geometry, segs_api_Tickets]
def ok_rickyardlaw16_Cut (a : S_rickyardlaw16_Cut) : Prop := (Lit.int .u8 a.Steps).wf = true ∧ ((∀ x ∈ a.Plan, (Lit.int .i64 x).wf = true) ∧ List.length a.Plan ≤ maxLen) ∧ ((∀ x ∈ a.L, (Lit.int .i64 x).wf = true) ∧ List.length a.L ≤ maxLen)
theorem opn_rickyardlaw16_Cut {w : World} {H : Type} (enc : TypeId × Value → H) (base : Nat) (sp : Nat → Bool) (held : Bool) (fuel : Nat) (cs : List Value) (x : DataW H × List MemPlace) (h : DataW.trod enc Try.prog w base sp held fuel 129 cs = some x) : ∃ a : S_rickyardlaw16_Cut, ∃ V0 : Value, ∃ V1 : Value, ∃ R0 : Rd (kI .i64) w V0 a.Plan, ∃ R1 : Rd (kI .i64) w V1 a.L, cs = cellsOf [Seg.cell (.int .u8 a.Steps), Seg.cell V0 R0.one, Seg.cell V1 R1.one] ∧ ok_rickyardlaw16_Cut a := by
  obtain ⟨hl, m, hf⟩ := trod_st Try.underlying129 h
  obtain ⟨y0, h0⟩ := hf 0 _ rfl
  have c0 : Try.prog.cellsOf 5 = 1 := by kernel_rfl
  obtain ⟨b0, e0, o0⟩ := (opn_int Try.underlying5) enc base sp held m _ y0 h0
  have e0 : (cs.drop 0).take 1 = (kI .u8).enc b0 := (congrArg (fun n => (cs.drop 0).take n) c0).symm.trans e0
  obtain ⟨y1, h1⟩ := hf 1 _ rfl
  have c1 : Try.prog.cellsOf 25 = 1 := by kernel_rfl
  obtain ⟨b1, W1, e1, r1, o1, l1, _⟩ := (opn_slice (K := (kI .i64)) Try.underlying25 (by kernel_rfl) (by decide) (opn_int Try.underlying3)) enc base sp held m _ y1 h1
  have e1 : (cs.drop 1).take 1 = [W1] := (congrArg (fun n => (cs.drop 1).take n) c1).symm.trans e1
  obtain ⟨y2, h2⟩ := hf 2 _ rfl
  have c2 : Try.prog.cellsOf 25 = 1 := by kernel_rfl
  obtain ⟨b2, W2, e2, r2, o2, l2, _⟩ := (opn_slice (K := (kI .i64)) Try.underlying25 (by kernel_rfl) (by decide) (opn_int Try.underlying3)) enc base sp held m _ y2 h2
  have e2 : (cs.drop 2).take 1 = [W2] := (congrArg (fun n => (cs.drop 2).take n) c2).symm.trans e2
  have hn : cs.drop 3 = [] := List.drop_eq_nil_of_le (by rw [hl]; exact Nat.le_of_eq (by kernel_rfl))
  have hc : cs = (kI .u8).enc b0 ++ ([W1] ++ ([W2] ++ [])) := (fld_cons (o := 0) (n := 1) e0 (fld_cons (o := 1) (n := 1) e1 (fld_cons (o := 2) (n := 1) e2 hn)))
  refine ⟨⟨b0, b1, b2⟩, W1, W2, r1, r2, ?_, o0, ⟨o1, l1⟩, ⟨o2, l2⟩⟩
  rw [hc]
  simp [kA, kI, kB, kS, kT, cellsOf, Seg.cell, Kd.seg, k_api_Fate, k_api_Geometry, k_api_Tickets, segs_api_Fate, segs_api_Geometry, segs_api_Tickets]
end Go.Proofs.Ytklhbaghbmndeaa

/- Rows turned one by one. -/
set_option linter.unusedVariables false
set_option linter.unusedSimpArgs false
namespace Go.Proofs.Ytklhbaghbmndeaa.Pure
open Go Go.Xw
/-- Of the places from `lo` on the first `j`, each turned by `g`. -/
def upd {α : Type} (g : Nat → α → α) (lo j : Nat) (cs : List α) : List α := cs.mapIdx fun i c => if lo ≤ i ∧ i < lo + j then g i c else c
theorem upd_len {α : Type} (g : Nat → α → α) (lo j : Nat) (cs : List α) : (upd g lo j cs).length = cs.length := by simp [upd]
theorem upd_zero {α : Type} (g : Nat → α → α) (lo : Nat) (cs : List α) : upd g lo 0 cs = cs := by
  apply List.ext_getElem (by simp [upd])
  intro i h1 h2
  simp only [upd, List.getElem_mapIdx]
  rw [if_neg (by omega)]
theorem upd_get {α : Type} (g : Nat → α → α) (lo j : Nat) (cs : List α) (i : Nat) (h : i < (upd g lo j cs).length) : (upd g lo j cs)[i] = if lo ≤ i ∧ i < lo + j then g i (cs[i]'(by simpa [upd] using h)) else cs[i]'(by simpa [upd] using h) := by
  simp only [upd, List.getElem_mapIdx]
theorem upd_next {α : Type} (g : Nat → α → α) (lo j : Nat) (cs : List α) (h : lo + j < cs.length) : (upd g lo j cs)[lo + j]'(by rw [upd_len]; exact h) = cs[lo + j] := by
  rw [upd_get, if_neg (by omega)]
theorem upd_set {α : Type} (g : Nat → α → α) (lo j : Nat) (cs : List α) (h : lo + j < cs.length) : (upd g lo j cs).set (lo + j) (g (lo + j) cs[lo + j]) = upd g lo (j + 1) cs := by
  apply List.ext_getElem (by simp [upd])
  intro i h1 h2
  rw [List.getElem_set, upd_get g lo (j + 1)]
  by_cases e : lo + j = i
  · subst e
    rw [if_pos rfl, if_pos (by omega)]
  · rw [if_neg e, upd_get]
    by_cases c : lo ≤ i ∧ i < lo + j
    · rw [if_pos c, if_pos (by omega)]
    · rw [if_neg c, if_neg (by omega)]
theorem upd_same {α : Type} (g : Nat → α → α) (lo j : Nat) (cs : List α) (h : lo + j < cs.length) (e : g (lo + j) cs[lo + j] = cs[lo + j]) : upd g lo j cs = upd g lo (j + 1) cs := by
  apply List.ext_getElem (by simp [upd])
  intro i h1 h2
  rw [upd_get g lo j, upd_get g lo (j + 1)]
  by_cases e' : lo + j = i
  · subst e'
    rw [if_neg (by omega), if_pos (by omega), e]
  · by_cases c : lo ≤ i ∧ i < lo + j
    · rw [if_pos c, if_pos (by omega)]
    · rw [if_neg c, if_neg (by omega)]
theorem upd_all {α : Type} (g : Nat → α → α) (cs : List α) : upd g 0 cs.length cs = cs.mapIdx g := by
  apply List.ext_getElem (by simp [upd])
  intro i h1 h2
  rw [upd_get, if_pos ⟨by omega, by rw [upd_len] at h1; omega⟩, List.getElem_mapIdx]
theorem getD_set {α : Type} (cs : List α) (i k : Nat) (v d : α) (hi : i < cs.length) : (cs.set i v).getD k d = if i = k then v else cs.getD k d := by
  simp only [List.getD_eq_getElem?_getD, List.getElem?_set]
  by_cases h : i = k
  · subst h
    simp [hi]
  · simp [h]
theorem getD_of {α : Type} (cs : List α) (i : Nat) (d : α) (hi : i < cs.length) : cs.getD i d = cs[i] := by
  simp [List.getD_eq_getElem?_getD, List.getElem?_eq_getElem hi]
end Go.Proofs.Ytklhbaghbmndeaa.Pure

/- rickyard/crc.step: its model, and that the Go function computes it: written by gen.py. -/
set_option linter.unusedVariables false
namespace Go.Proofs.Ytklhbaghbmndeaa
open Go Go.Xw
def crc_step.f (fu : Nat) (a0 : Int) : Option Int := (if (decide ((bAnd .u32 a0 1) = 1)) = true then some ((bXor .u32 (shR .u32 a0 1) 2197175160)) else some ((shR .u32 a0 1)))
set_option maxRecDepth 100000 in
set_option maxHeartbeats 400000 in
theorem crc_step.ok (fu : Nat) (w : World) (a0 : Int) (r : Int) (h : crc_step.f fu a0 = some r) :
    Calls Try.prog 156 (([.int .u32 a0] : List Value).toArray) w (fun e w' => ∃ v, e = .returned v ∧ v = .int .u32 r ∧ Gr w w') := by
  unfold crc_step.f at h
  have fB : Gr w w := Fr.refl _ _
  refine calls_cw Try.func156 rfl Try.ntmps156 rfl ?_
  refine cw_seq ?_
  refine cw_region ?_
  refine ol_val (v := .int .u32 0) (by exact xr_assign rfl rfl) rfl rfl rfl ?_
  refine ol_nil ?_
  refine cw_seq ?_
  refine cw_seq ?_
  refine cw_region ?_
  refine ol_val (v := .int .u32 a0) (by exact xr_move rfl rfl) rfl rfl rfl ?_
  refine ol_val (v := .int .u32 (bAnd .u32 a0 1)) (by exact xr_and rfl rfl rfl) rfl rfl rfl ?_
  refine ol_val (v := .bool (decide ((bAnd .u32 a0 1) = 1))) (by exact xr_eqI rfl Try.underlying191 rfl rfl rfl) rfl rfl rfl ?_
  refine ol_nil ?_
  rcases is h with ⟨c1, h⟩ | ⟨c1, h⟩
  · refine cw_condT rfl c1 ?_
    refine cw_seq ?_
    refine cw_region ?_
    refine ol_val (v := .int .u32 a0) (by exact xr_move rfl rfl) rfl rfl rfl ?_
    refine ol_val (v := .int .u32 (shR .u32 a0 1)) (by exact xr_shr rfl rfl rfl (by decide)) rfl rfl rfl ?_
    refine ol_val (v := .int .u32 (bXor .u32 (shR .u32 a0 1) 2197175160)) (by exact xr_xor rfl rfl rfl) rfl rfl rfl ?_
    refine ol_val (v := .int .u32 (bXor .u32 (shR .u32 a0 1) 2197175160)) (by exact xr_assign rfl rfl) rfl rfl rfl ?_
    refine ol_nil ?_
    refine cw_ret ?_
    repeat (first | with_reducible refine thn_r ?_ | with_reducible refine blk_r ?_)
    obtain rfl := Option.some.inj h
    refine fin_ret1 Try.results156 rfl ?_
    exact ⟨_, rfl, rfl, fB⟩
  · refine cw_condF rfl c1 ?_
    refine cw_skip ?_
    refine cw_seq ?_
    refine cw_region ?_
    refine ol_val (v := .int .u32 a0) (by exact xr_move rfl rfl) rfl rfl rfl ?_
    refine ol_val (v := .int .u32 (shR .u32 a0 1)) (by exact xr_shr rfl rfl rfl (by decide)) rfl rfl rfl ?_
    refine ol_val (v := .int .u32 (shR .u32 a0 1)) (by exact xr_assign rfl rfl) rfl rfl rfl ?_
    refine ol_nil ?_
    refine cw_ret ?_
    repeat (first | with_reducible refine thn_r ?_ | with_reducible refine blk_r ?_)
    obtain rfl := Option.some.inj h
    refine fin_ret1 Try.results156 rfl ?_
    exact ⟨_, rfl, rfl, fB⟩
end Go.Proofs.Ytklhbaghbmndeaa

/- rickyard/crc.Table: its model, and that the Go function computes it: written by gen.py. -/
set_option linter.unusedVariables false
namespace Go.Proofs.Ytklhbaghbmndeaa
open Go Go.Xw
def crc_Table.s3 (fu : Nat) : (Int × Int) → Option (Sum Int (Int × Int)) := fun s22 => (if (decide (s22.2 < 4)) = true then ((crc_step.f fu s22.1 : Option Int).bind fun t30 => some (Sum.inr (t30, (IntKind.i64.wrap (s22.2 + 1))))) else some (Sum.inl (s22.1)))
def crc_Table.s2 (fu : Nat) : (Int × (Arr 16 Int)) → Option (Sum (Arr 16 Int) (Int × (Arr 16 Int))) := fun s14 => (if (decide (s14.1 < 16)) = true then ((loopM (crc_Table.s3 fu) fu ((IntKind.u32.wrap s14.1), 0)).bind fun e23 => (if 0 ≤ s14.1 ∧ s14.1 < 16 then some (Sum.inr ((IntKind.i64.wrap (s14.1 + 1)), (Arr.set s14.2 s14.1 e23))) else none)) else some (Sum.inl (s14.2)))
def crc_Table.f (fu : Nat) : Option (Arr 16 Int) := ((loopM (crc_Table.s2 fu) fu (0, (Arr.rep 16 (0 : Int)))).bind fun e15 => some (e15))
set_option maxRecDepth 100000 in
set_option maxHeartbeats 400000 in
theorem crc_Table.ok (fu : Nat) (w : World)  (r : (Arr 16 Int)) (h : crc_Table.f fu = some r) :
    Calls Try.prog 154 (([] : List Value).toArray) w (fun e w' => ∃ v, e = .returned v ∧ v = aggV [Kd.seg (kA 16 (kI .u32)) r] ∧ Gr w w') := by
  unfold crc_Table.f at h
  have fB : Gr w w := Fr.refl _ _
  refine calls_cw Try.func154 rfl Try.ntmps154 rfl ?_
  refine cw_seq ?_
  refine cw_region ?_
  refine ol_op (by exact opv_alloc (ss := [Kd.seg (kA 16 (kI .u32)) (Arr.rep 16 (0 : Int))]) rfl ze205 rfl) rfl rfl rfl ?_
  rintro _ w6 ⟨G1, rfl, b2, q3, z4⟩
  have z4 := Nat.le_trans fB.size z4
  have fB := fB.gr q3
  refine ol_nil ?_
  refine cw_seq ?_
  refine cw_region ?_
  refine ol_op (by exact opv_alloc (ss := [Kd.seg (kA 16 (kI .u32)) (Arr.rep 16 (0 : Int))]) rfl ze205 rfl) rfl rfl rfl ?_
  rintro _ w12 ⟨G7, rfl, b8, q9, z10⟩
  have n13 := b2.ne z10
  have z10 := Nat.le_trans fB.size z10
  have b2 := b2.gr q9
  have fB := fB.gr q9
  refine ol_nil ?_
  refine cw_seq ?_
  refine cw_seq ?_
  refine cw_region ?_
  refine ol_val (v := .int .i64 0) (by exact xr_move rfl rfl) rfl rfl rfl ?_
  refine ol_nil ?_
  obtain ⟨e15, l16, h17⟩ := bs h
  refine cw_mid (fun ρ' w' => ρ' 0 = .pointer (some ⟨G1, 0, none⟩) ∧ ρ' 1 = .pointer (some ⟨G7, 0, none⟩) ∧ Blk w' G1 205 [Kd.seg (kA 16 (kI .u32)) (Arr.rep 16 (0 : Int))] ∧ Blk w' G7 205 [Kd.seg (kA 16 (kI .u32)) e15] ∧ Gr w w') ?_ ?_
  · refine cw_block ?_
    refine cw_round (fun (s14 : Int × (Arr 16 Int)) ρ' w' => ρ' 0 = .pointer (some ⟨G1, 0, none⟩) ∧ ρ' 1 = .pointer (some ⟨G7, 0, none⟩) ∧ ρ' 4 = .int .i64 s14.1 ∧ Blk w' G1 205 [Kd.seg (kA 16 (kI .u32)) (Arr.rep 16 (0 : Int))] ∧ Blk w' G7 205 [Kd.seg (kA 16 (kI .u32)) s14.2] ∧ Gr w w') l16 ?_ ?_
    · skip
      exact ⟨rfl, rfl, rfl, b2, b8, fB⟩
    · rintro s14 x20 ρ18 w19 ⟨e0, e1, e4, b2, b8, fB⟩ h
      unfold crc_Table.s2 at h
      refine cw_seq ?_
      refine cw_region ?_
      refine ol_val (v := .bool (decide (s14.1 < 16))) (by exact xr_lss rfl e4 rfl) rfl rfl rfl ?_
      refine ol_nil ?_
      refine cw_seq ?_
      rcases is h with ⟨c21, h⟩ | ⟨c21, h⟩
      · refine cw_condT rfl c21 ?_
        refine cw_skip ?_
        refine cw_seq ?_
        refine cw_block ?_
        refine cw_seq ?_
        refine cw_region ?_
        refine ol_val (v := .int .i64 s14.1) (by exact xr_move rfl e4) rfl rfl rfl ?_
        refine ol_val (v := .int .i64 s14.1) (by exact xr_assign rfl rfl) rfl rfl rfl ?_
        refine ol_nil ?_
        refine cw_seq ?_
        refine cw_region ?_
        refine ol_val (v := .int .i64 s14.1) (by exact xr_move rfl rfl) rfl rfl rfl ?_
        refine ol_val (v := .int .u32 (IntKind.u32.wrap s14.1)) (by exact xr_conv rfl Try.underlying3 Try.underlying191 rfl) rfl rfl rfl ?_
        refine ol_val (v := .int .u32 (IntKind.u32.wrap s14.1)) (by exact xr_assign rfl rfl) rfl rfl rfl ?_
        refine ol_nil ?_
        refine cw_seq ?_
        refine cw_seq ?_
        refine cw_region ?_
        refine ol_val (v := .int .i64 0) (by exact xr_move rfl rfl) rfl rfl rfl ?_
        refine ol_nil ?_
        obtain ⟨e23, l24, h25⟩ := bs h
        refine cw_mid (fun ρ' w' => ρ' 0 = .pointer (some ⟨G1, 0, none⟩) ∧ ρ' 1 = .pointer (some ⟨G7, 0, none⟩) ∧ ρ' 2 = .int .i64 s14.1 ∧ ρ' 3 = .int .u32 e23 ∧ ρ' 4 = .int .i64 s14.1 ∧ Blk w' G1 205 [Kd.seg (kA 16 (kI .u32)) (Arr.rep 16 (0 : Int))] ∧ Blk w' G7 205 [Kd.seg (kA 16 (kI .u32)) s14.2] ∧ Gr w w') ?_ ?_
        · refine cw_block ?_
          refine cw_round (fun (s22 : Int × Int) ρ' w' => ρ' 0 = .pointer (some ⟨G1, 0, none⟩) ∧ ρ' 1 = .pointer (some ⟨G7, 0, none⟩) ∧ ρ' 2 = .int .i64 s14.1 ∧ ρ' 3 = .int .u32 s22.1 ∧ ρ' 4 = .int .i64 s14.1 ∧ ρ' 9 = .int .i64 s22.2 ∧ Blk w' G1 205 [Kd.seg (kA 16 (kI .u32)) (Arr.rep 16 (0 : Int))] ∧ Blk w' G7 205 [Kd.seg (kA 16 (kI .u32)) s14.2] ∧ Gr w w') l24 ?_ ?_
          · skip
            exact ⟨e0, e1, rfl, rfl, e4, rfl, b2, b8, fB⟩
          · rintro s22 x28 ρ26 w27 ⟨e0, e1, e2, e3, e4, e9, b2, b8, fB⟩ h
            unfold crc_Table.s3 at h
            refine cw_seq ?_
            refine cw_region ?_
            refine ol_val (v := .bool (decide (s22.2 < 4))) (by exact xr_lss rfl e9 rfl) rfl rfl rfl ?_
            refine ol_nil ?_
            refine cw_seq ?_
            rcases is h with ⟨c29, h⟩ | ⟨c29, h⟩
            · refine cw_condT rfl c29 ?_
              refine cw_skip ?_
              refine cw_seq ?_
              refine cw_block ?_
              refine cw_region ?_
              refine ol_val (v := .int .u32 s22.1) (by exact xr_move rfl e3) rfl rfl rfl ?_
              obtain ⟨t30, k31, h⟩ := bs h
              refine ol_op (by exact opv_call rfl cal156 (ac rfl an) (crc_step.ok fu _ s22.1 _ k31)) rfl rfl rfl ?_
              rintro _ w33 ⟨rfl, q32⟩
              have b2 := b2.gr q32
              have b8 := b8.gr q32
              have fB := fB.gr q32
              refine ol_val (v := .int .u32 t30) (by exact xr_assign rfl rfl) rfl rfl rfl ?_
              refine ol_nil ?_
              refine blk_i ?_
              refine cw_region ?_
              refine ol_val (v := .int .i64 (IntKind.i64.wrap (s22.2 + 1))) (by exact xr_add rfl e9 rfl) rfl rfl rfl ?_
              refine ol_val (v := .int .i64 (IntKind.i64.wrap (s22.2 + 1))) (by exact xr_move rfl rfl) rfl rfl rfl ?_
              refine ol_nil ?_
              obtain rfl := Option.some.inj h
              refine lp_in ?_
              exact ⟨e0, e1, e2, rfl, e4, rfl, b2, b8, fB⟩
            · refine cw_condF rfl c29 ?_
              refine cw_exit ?_
              repeat (first | with_reducible refine thn_e ?_ | with_reducible refine blk_e rfl ?_)
              obtain rfl := Option.some.inj h
              refine lp_exit ?_
              rintro rfl
              refine thn_x ?_
              exact ⟨e0, e1, e2, e3, e4, b2, b8, fB⟩
        · rintro ρ34 w35 ⟨e0, e1, e2, e3, e4, b2, b8, fB⟩
          have h := h25
          refine cw_region ?_
          refine ol_val (v := .int .i64 s14.1) (by exact xr_move rfl e2) rfl rfl rfl ?_
          refine ol_val (v := .int .u32 e23) (by exact xr_move rfl e3) rfl rfl rfl ?_
          obtain ⟨g36, h⟩ := gs h
          refine ol_val (v := .pointer (some ⟨G7, 0 + Int.toNat s14.1 * 1, none⟩)) (by exact xr_indexA (p := 0) (s := 1) rfl Try.underlying205 sz191 e1 rfl g36.1 g36.2) rfl rfl rfl ?_
          refine ol_op0 (by exact opv_store (ss' := [Kd.seg (kA 16 (kI .u32)) (Arr.set s14.2 s14.1 e23)]) (xs := cellsOf [Seg.cell (.int .u32 e23)]) rfl sz191 rfl rfl rfl (len_cellsOf _) (one_cellsOf _) b8 (Spl.seg_in _ 0 (Kd.seg (kA 16 (kI .u32)) (Arr.set s14.2 s14.1 e23)) rfl rfl (Spl.arr s14.2 s14.1 e23 g36.1 g36.2 (Spl.whole ((Kd.len _ _).trans (Kd.len _ _).symm))))) rfl rfl ?_
          rintro _ w38 ⟨b8, q37⟩
          have b2 := b2.wr q37 n13
          have fB := fB.wr q37 z10
          refine ol_nil ?_
          refine blk_i ?_
          refine cw_region ?_
          refine ol_val (v := .int .i64 (IntKind.i64.wrap (s14.1 + 1))) (by exact xr_add rfl e4 rfl) rfl rfl rfl ?_
          refine ol_val (v := .int .i64 (IntKind.i64.wrap (s14.1 + 1))) (by exact xr_move rfl rfl) rfl rfl rfl ?_
          refine ol_nil ?_
          obtain rfl := Option.some.inj h
          refine lp_in ?_
          exact ⟨e0, e1, rfl, b2, b8, fB⟩
      · refine cw_condF rfl c21 ?_
        refine cw_exit ?_
        repeat (first | with_reducible refine thn_e ?_ | with_reducible refine blk_e rfl ?_)
        obtain rfl := Option.some.inj h
        refine lp_exit ?_
        rintro rfl
        refine thn_x ?_
        exact ⟨e0, e1, b2, b8, fB⟩
  · rintro ρ39 w40 ⟨e0, e1, b2, b8, fB⟩
    have h := h17
    refine cw_seq ?_
    refine cw_region ?_
    refine ol_val (v := aggV [Kd.seg (kA 16 (kI .u32)) e15]) (by exact xr_loadS (ss := [Kd.seg (kA 16 (kI .u32)) e15]) rfl ag205 sz205 rfl e1 (b8.segs 0 1 rfl)) rfl rfl rfl ?_
    refine ol_op0 (by exact opv_store (ss' := [Kd.seg (kA 16 (kI .u32)) e15]) (xs := cellsOf [Kd.seg (kA 16 (kI .u32)) e15]) rfl sz205 e0 rfl rfl (len_cellsOf _) (one_cellsOf _) b2 (Spl.segs _ 0 1 [Kd.seg (kA 16 (kI .u32)) e15] rfl rfl)) rfl rfl ?_
    rintro _ w42 ⟨b2, q41⟩
    have fB := fB.wr q41 z4
    refine ol_nil ?_
    refine cw_ret ?_
    repeat (first | with_reducible refine thn_r ?_ | with_reducible refine blk_r ?_)
    obtain rfl := Option.some.inj h
    refine fin_cell Try.results154 e0 ag205 sz205 b2 (by rfl) ?_
    exact ⟨_, rfl, rfl, fB⟩
end Go.Proofs.Ytklhbaghbmndeaa

/- rickyard/crc.register: its model, and that the Go function computes it: written by gen.py. -/
set_option linter.unusedVariables false
namespace Go.Proofs.Ytklhbaghbmndeaa
open Go Go.Xw
def crc_register.s0 (fu : Nat) (a0 : Arr 16 Int) (a2 : List Int) : (Int × Int) → Option (Sum Int (Int × Int)) := fun s1 => (if (decide (s1.2 < (List.length a2 : Int))) = true then (if 0 ≤ s1.2 ∧ s1.2 < (List.length a2 : Int) then (if 0 ≤ (bAnd .u32 (bXor .u32 s1.1 (IntKind.u32.wrap (ix a2 s1.2))) 15) ∧ (bAnd .u32 (bXor .u32 s1.1 (IntKind.u32.wrap (ix a2 s1.2))) 15) < 16 then (if 0 ≤ (bAnd .u32 (bXor .u32 (shR .u32 (bXor .u32 s1.1 (IntKind.u32.wrap (ix a2 s1.2))) 4) (Arr.get a0 (bAnd .u32 (bXor .u32 s1.1 (IntKind.u32.wrap (ix a2 s1.2))) 15))) 15) ∧ (bAnd .u32 (bXor .u32 (shR .u32 (bXor .u32 s1.1 (IntKind.u32.wrap (ix a2 s1.2))) 4) (Arr.get a0 (bAnd .u32 (bXor .u32 s1.1 (IntKind.u32.wrap (ix a2 s1.2))) 15))) 15) < 16 then some (Sum.inr ((bXor .u32 (shR .u32 (bXor .u32 (shR .u32 (bXor .u32 s1.1 (IntKind.u32.wrap (ix a2 s1.2))) 4) (Arr.get a0 (bAnd .u32 (bXor .u32 s1.1 (IntKind.u32.wrap (ix a2 s1.2))) 15))) 4) (Arr.get a0 (bAnd .u32 (bXor .u32 (shR .u32 (bXor .u32 s1.1 (IntKind.u32.wrap (ix a2 s1.2))) 4) (Arr.get a0 (bAnd .u32 (bXor .u32 s1.1 (IntKind.u32.wrap (ix a2 s1.2))) 15))) 15))), (IntKind.i64.wrap (s1.2 + 1)))) else none) else none) else none) else some (Sum.inl (s1.1)))
def crc_register.f (fu : Nat) (a0 : Arr 16 Int) (a1 : Int) (a2 : List Int) : Option Int := ((loopM (crc_register.s0 fu a0 a2) fu (a1, 0)).bind fun e2 => some (e2))
set_option maxRecDepth 100000 in
set_option maxHeartbeats 400000 in
theorem crc_register.ok (fu : Nat) (w : World) (a0 : Arr 16 Int) (G_0 : Nat) (b_0 : Blk w G_0 205 [Kd.seg (kA 16 (kI .u32)) a0]) (a1 : Int) (a2 : List Int) (V2_0 : Value) (R2_0 : Rd (kI .u8) w V2_0 a2) (r : Int) (h : crc_register.f fu a0 a1 a2 = some r) :
    Calls Try.prog 155 (([.pointer (some ⟨G_0, 0, none⟩), .int .u32 a1, V2_0] : List Value).toArray) w (fun e w' => ∃ v, e = .returned v ∧ v = .int .u32 r ∧ Gr w w') := by
  unfold crc_register.f at h
  have fB : Gr w w := Fr.refl _ _
  refine calls_cw Try.func155 rfl Try.ntmps155 rfl ?_
  refine cw_seq ?_
  refine cw_region ?_
  refine ol_val (v := .int .u32 0) (by exact xr_assign rfl rfl) rfl rfl rfl ?_
  refine ol_nil ?_
  refine cw_seq ?_
  refine cw_seq ?_
  refine cw_region ?_
  refine ol_val (v := V2_0) (by exact xr_move rfl rfl) rfl rfl rfl ?_
  refine ol_val (v := .int .i64 (List.length a2 : Int)) (by exact xr_lenR rfl Try.underlying43 rfl (R2_0.gr fB)) rfl rfl rfl ?_
  refine ol_val (v := .int .i64 0) (by exact xr_move rfl rfl) rfl rfl rfl ?_
  refine ol_nil ?_
  obtain ⟨e2, l3, h4⟩ := bs h
  refine cw_mid (fun ρ' w' => ρ' 1 = .int .u32 e2 ∧ Blk w' G_0 205 [Kd.seg (kA 16 (kI .u32)) a0] ∧ Gr w w') ?_ ?_
  · refine cw_block ?_
    refine cw_round (fun (s1 : Int × Int) ρ' w' => ρ' 0 = .pointer (some ⟨G_0, 0, none⟩) ∧ ρ' 1 = .int .u32 s1.1 ∧ ρ' 9 = V2_0 ∧ ρ' 10 = .int .i64 (List.length a2 : Int) ∧ ρ' 11 = .int .i64 s1.2 ∧ Blk w' G_0 205 [Kd.seg (kA 16 (kI .u32)) a0] ∧ Gr w w') l3 ?_ ?_
    · skip
      exact ⟨rfl, rfl, rfl, rfl, rfl, b_0, fB⟩
    · rintro s1 x7 ρ5 w6 ⟨e0, e1, e9, e10, e11, b_0, fB⟩ h
      unfold crc_register.s0 at h
      refine cw_seq ?_
      refine cw_region ?_
      refine ol_val (v := .bool (decide (s1.2 < (List.length a2 : Int)))) (by exact xr_lss rfl e11 e10) rfl rfl rfl ?_
      refine ol_nil ?_
      refine cw_seq ?_
      rcases is h with ⟨c8, h⟩ | ⟨c8, h⟩
      · refine cw_condT rfl c8 ?_
        refine cw_skip ?_
        refine cw_seq ?_
        refine cw_block ?_
        refine cw_seq ?_
        refine cw_region ?_
        obtain ⟨g9, h⟩ := gs h
        refine ol_val (v := .pointer (some ⟨(sb V2_0), so V2_0 + Int.toNat s1.2 * 1, none⟩)) (by exact xr_indexR (K := (kI .u8)) (v := V2_0) rfl Try.underlying43 sz5 e9 (R2_0.gr fB) e11 g9.1 g9.2) rfl rfl rfl ?_
        refine ol_val (v := .int .u8 (ix a2 s1.2)) (by exact xr_load1 (v := .int .u8 (ix a2 s1.2)) rfl ag5 rfl ((R2_0.gr fB).elem g9.1 g9.2)) rfl rfl rfl ?_
        refine ol_val (v := .int .u8 (ix a2 s1.2)) (by exact xr_assign rfl rfl) rfl rfl rfl ?_
        refine ol_nil ?_
        refine cw_seq ?_
        refine cw_region ?_
        refine ol_val (v := .int .u32 s1.1) (by exact xr_move rfl e1) rfl rfl rfl ?_
        refine ol_val (v := .int .u8 (ix a2 s1.2)) (by exact xr_move rfl rfl) rfl rfl rfl ?_
        refine ol_val (v := .int .u32 (IntKind.u32.wrap (ix a2 s1.2))) (by exact xr_conv rfl Try.underlying5 Try.underlying191 rfl) rfl rfl rfl ?_
        refine ol_val (v := .int .u32 (bXor .u32 s1.1 (IntKind.u32.wrap (ix a2 s1.2)))) (by exact xr_xor rfl rfl rfl) rfl rfl rfl ?_
        refine ol_val (v := .int .u32 (bXor .u32 s1.1 (IntKind.u32.wrap (ix a2 s1.2)))) (by exact xr_assign rfl rfl) rfl rfl rfl ?_
        refine ol_nil ?_
        refine cw_seq ?_
        refine cw_region ?_
        refine ol_val (v := .int .u32 (bXor .u32 s1.1 (IntKind.u32.wrap (ix a2 s1.2)))) (by exact xr_move rfl rfl) rfl rfl rfl ?_
        refine ol_val (v := .int .u32 (shR .u32 (bXor .u32 s1.1 (IntKind.u32.wrap (ix a2 s1.2))) 4)) (by exact xr_shr rfl rfl rfl (by decide)) rfl rfl rfl ?_
        refine ol_val (v := .pointer (some ⟨G_0, 0, none⟩)) (by exact xr_move rfl e0) rfl rfl rfl ?_
        refine ol_val (v := .int .u32 (bXor .u32 s1.1 (IntKind.u32.wrap (ix a2 s1.2)))) (by exact xr_move rfl rfl) rfl rfl rfl ?_
        refine ol_val (v := .int .u32 (bAnd .u32 (bXor .u32 s1.1 (IntKind.u32.wrap (ix a2 s1.2))) 15)) (by exact xr_and rfl rfl rfl) rfl rfl rfl ?_
        refine ol_val (v := .pointer (some ⟨G_0, 0, none⟩)) (by exact xr_nilCheck rfl rfl) rfl rfl rfl ?_
        obtain ⟨g10, h⟩ := gs h
        refine ol_val (v := .pointer (some ⟨G_0, 0 + Int.toNat (bAnd .u32 (bXor .u32 s1.1 (IntKind.u32.wrap (ix a2 s1.2))) 15) * 1, none⟩)) (by exact xr_indexA (p := 0) (s := 1) rfl Try.underlying205 sz191 rfl rfl g10.1 g10.2) rfl rfl rfl ?_
        refine ol_val (v := .int .u32 (Arr.get a0 (bAnd .u32 (bXor .u32 s1.1 (IntKind.u32.wrap (ix a2 s1.2))) 15))) (by exact xr_load1 (v := .int .u32 (Arr.get a0 (bAnd .u32 (bXor .u32 s1.1 (IntKind.u32.wrap (ix a2 s1.2))) 15))) rfl ag191 rfl (At.arr (a := a0) (b_0.seg 0 rfl rfl) g10.1 g10.2)) rfl rfl rfl ?_
        refine ol_val (v := .int .u32 (bXor .u32 (shR .u32 (bXor .u32 s1.1 (IntKind.u32.wrap (ix a2 s1.2))) 4) (Arr.get a0 (bAnd .u32 (bXor .u32 s1.1 (IntKind.u32.wrap (ix a2 s1.2))) 15)))) (by exact xr_xor rfl rfl rfl) rfl rfl rfl ?_
        refine ol_val (v := .int .u32 (bXor .u32 (shR .u32 (bXor .u32 s1.1 (IntKind.u32.wrap (ix a2 s1.2))) 4) (Arr.get a0 (bAnd .u32 (bXor .u32 s1.1 (IntKind.u32.wrap (ix a2 s1.2))) 15)))) (by exact xr_assign rfl rfl) rfl rfl rfl ?_
        refine ol_nil ?_
        refine cw_region ?_
        refine ol_val (v := .int .u32 (bXor .u32 (shR .u32 (bXor .u32 s1.1 (IntKind.u32.wrap (ix a2 s1.2))) 4) (Arr.get a0 (bAnd .u32 (bXor .u32 s1.1 (IntKind.u32.wrap (ix a2 s1.2))) 15)))) (by exact xr_move rfl rfl) rfl rfl rfl ?_
        refine ol_val (v := .int .u32 (shR .u32 (bXor .u32 (shR .u32 (bXor .u32 s1.1 (IntKind.u32.wrap (ix a2 s1.2))) 4) (Arr.get a0 (bAnd .u32 (bXor .u32 s1.1 (IntKind.u32.wrap (ix a2 s1.2))) 15))) 4)) (by exact xr_shr rfl rfl rfl (by decide)) rfl rfl rfl ?_
        refine ol_val (v := .pointer (some ⟨G_0, 0, none⟩)) (by exact xr_move rfl e0) rfl rfl rfl ?_
        refine ol_val (v := .int .u32 (bXor .u32 (shR .u32 (bXor .u32 s1.1 (IntKind.u32.wrap (ix a2 s1.2))) 4) (Arr.get a0 (bAnd .u32 (bXor .u32 s1.1 (IntKind.u32.wrap (ix a2 s1.2))) 15)))) (by exact xr_move rfl rfl) rfl rfl rfl ?_
        refine ol_val (v := .int .u32 (bAnd .u32 (bXor .u32 (shR .u32 (bXor .u32 s1.1 (IntKind.u32.wrap (ix a2 s1.2))) 4) (Arr.get a0 (bAnd .u32 (bXor .u32 s1.1 (IntKind.u32.wrap (ix a2 s1.2))) 15))) 15)) (by exact xr_and rfl rfl rfl) rfl rfl rfl ?_
        refine ol_val (v := .pointer (some ⟨G_0, 0, none⟩)) (by exact xr_nilCheck rfl rfl) rfl rfl rfl ?_
        obtain ⟨g11, h⟩ := gs h
        refine ol_val (v := .pointer (some ⟨G_0, 0 + Int.toNat (bAnd .u32 (bXor .u32 (shR .u32 (bXor .u32 s1.1 (IntKind.u32.wrap (ix a2 s1.2))) 4) (Arr.get a0 (bAnd .u32 (bXor .u32 s1.1 (IntKind.u32.wrap (ix a2 s1.2))) 15))) 15) * 1, none⟩)) (by exact xr_indexA (p := 0) (s := 1) rfl Try.underlying205 sz191 rfl rfl g11.1 g11.2) rfl rfl rfl ?_
        refine ol_val (v := .int .u32 (Arr.get a0 (bAnd .u32 (bXor .u32 (shR .u32 (bXor .u32 s1.1 (IntKind.u32.wrap (ix a2 s1.2))) 4) (Arr.get a0 (bAnd .u32 (bXor .u32 s1.1 (IntKind.u32.wrap (ix a2 s1.2))) 15))) 15))) (by exact xr_load1 (v := .int .u32 (Arr.get a0 (bAnd .u32 (bXor .u32 (shR .u32 (bXor .u32 s1.1 (IntKind.u32.wrap (ix a2 s1.2))) 4) (Arr.get a0 (bAnd .u32 (bXor .u32 s1.1 (IntKind.u32.wrap (ix a2 s1.2))) 15))) 15))) rfl ag191 rfl (At.arr (a := a0) (b_0.seg 0 rfl rfl) g11.1 g11.2)) rfl rfl rfl ?_
        refine ol_val (v := .int .u32 (bXor .u32 (shR .u32 (bXor .u32 (shR .u32 (bXor .u32 s1.1 (IntKind.u32.wrap (ix a2 s1.2))) 4) (Arr.get a0 (bAnd .u32 (bXor .u32 s1.1 (IntKind.u32.wrap (ix a2 s1.2))) 15))) 4) (Arr.get a0 (bAnd .u32 (bXor .u32 (shR .u32 (bXor .u32 s1.1 (IntKind.u32.wrap (ix a2 s1.2))) 4) (Arr.get a0 (bAnd .u32 (bXor .u32 s1.1 (IntKind.u32.wrap (ix a2 s1.2))) 15))) 15)))) (by exact xr_xor rfl rfl rfl) rfl rfl rfl ?_
        refine ol_val (v := .int .u32 (bXor .u32 (shR .u32 (bXor .u32 (shR .u32 (bXor .u32 s1.1 (IntKind.u32.wrap (ix a2 s1.2))) 4) (Arr.get a0 (bAnd .u32 (bXor .u32 s1.1 (IntKind.u32.wrap (ix a2 s1.2))) 15))) 4) (Arr.get a0 (bAnd .u32 (bXor .u32 (shR .u32 (bXor .u32 s1.1 (IntKind.u32.wrap (ix a2 s1.2))) 4) (Arr.get a0 (bAnd .u32 (bXor .u32 s1.1 (IntKind.u32.wrap (ix a2 s1.2))) 15))) 15)))) (by exact xr_assign rfl rfl) rfl rfl rfl ?_
        refine ol_nil ?_
        refine blk_i ?_
        refine cw_region ?_
        refine ol_val (v := .int .i64 (IntKind.i64.wrap (s1.2 + 1))) (by exact xr_add rfl e11 rfl) rfl rfl rfl ?_
        refine ol_val (v := .int .i64 (IntKind.i64.wrap (s1.2 + 1))) (by exact xr_move rfl rfl) rfl rfl rfl ?_
        refine ol_nil ?_
        obtain rfl := Option.some.inj h
        refine lp_in ?_
        exact ⟨e0, rfl, e9, e10, rfl, b_0, fB⟩
      · refine cw_condF rfl c8 ?_
        refine cw_exit ?_
        repeat (first | with_reducible refine thn_e ?_ | with_reducible refine blk_e rfl ?_)
        obtain rfl := Option.some.inj h
        refine lp_exit ?_
        rintro rfl
        refine thn_x ?_
        exact ⟨e1, b_0, fB⟩
  · rintro ρ12 w13 ⟨e1, b_0, fB⟩
    have h := h4
    refine cw_seq ?_
    refine cw_region ?_
    refine ol_val (v := .int .u32 e2) (by exact xr_move rfl e1) rfl rfl rfl ?_
    refine ol_val (v := .int .u32 e2) (by exact xr_assign rfl rfl) rfl rfl rfl ?_
    refine ol_nil ?_
    refine cw_ret ?_
    repeat (first | with_reducible refine thn_r ?_ | with_reducible refine blk_r ?_)
    obtain rfl := Option.some.inj h
    refine fin_ret1 Try.results155 rfl ?_
    exact ⟨_, rfl, rfl, fB⟩
end Go.Proofs.Ytklhbaghbmndeaa

/- rickyard/crc.Sum: its model, and that the Go function computes it: written by gen.py. -/
set_option linter.unusedVariables false
namespace Go.Proofs.Ytklhbaghbmndeaa
open Go Go.Xw
def crc_Sum.s0 (fu : Nat) (a0 : List (List Int)) (t1 : (Arr 16 Int)) : (Int × Int) → Option (Sum Int (Int × Int)) := fun s13 => (if (decide (s13.2 < (List.length a0 : Int))) = true then (if 0 ≤ s13.2 ∧ s13.2 < (List.length a0 : Int) then ((crc_register.f fu t1 s13.1 (ix a0 s13.2) : Option Int).bind fun t23 => some (Sum.inr (t23, (IntKind.i64.wrap (s13.2 + 1))))) else none) else some (Sum.inl (s13.1)))
def crc_Sum.f (fu : Nat) (a0 : List (List Int)) : Option Int := ((crc_Table.f fu : Option (Arr 16 Int)).bind fun t1 => ((loopM (crc_Sum.s0 fu a0 t1) fu (4294967295, 0)).bind fun e14 => some ((bXor .u32 e14 4294967295))))
set_option maxRecDepth 100000 in
set_option maxHeartbeats 400000 in
theorem crc_Sum.ok (fu : Nat) (w : World) (a0 : List (List Int)) (V0_0 : Value) (R0_0 : Rds (kI .u8) w V0_0 a0) (r : Int) (h : crc_Sum.f fu a0 = some r) :
    Calls Try.prog 149 (([V0_0] : List Value).toArray) w (fun e w' => ∃ v, e = .returned v ∧ v = .int .u32 r ∧ Gr w w') := by
  unfold crc_Sum.f at h
  have fB : Gr w w := Fr.refl _ _
  refine calls_cw Try.func149 rfl Try.ntmps149 rfl ?_
  refine cw_seq ?_
  refine cw_region ?_
  refine ol_val (v := .int .u32 0) (by exact xr_assign rfl rfl) rfl rfl rfl ?_
  refine ol_nil ?_
  refine cw_seq ?_
  refine cw_region ?_
  obtain ⟨t1, k2, h⟩ := bs h
  refine ol_op (by exact opv_call rfl cal154 an (crc_Table.ok fu _ _ k2)) rfl rfl rfl ?_
  rintro _ w4 ⟨rfl, q3⟩
  have fB := fB.gr q3
  refine ol_op (by exact opv_alloc (ss := [Kd.seg (kA 16 (kI .u32)) (Arr.rep 16 (0 : Int))]) rfl ze205 rfl) rfl rfl rfl ?_
  rintro _ w10 ⟨G5, rfl, b6, q7, z8⟩
  have z8 := Nat.le_trans fB.size z8
  have fB := fB.gr q7
  refine ol_op0 (by exact opv_store (ss' := [Kd.seg (kA 16 (kI .u32)) t1]) (xs := cellsOf [Kd.seg (kA 16 (kI .u32)) t1]) rfl sz205 rfl rfl rfl (len_cellsOf _) (one_cellsOf _) b6 (Spl.segs _ 0 1 [Kd.seg (kA 16 (kI .u32)) t1] rfl rfl)) rfl rfl ?_
  rintro _ w12 ⟨b6, q11⟩
  have fB := fB.wr q11 z8
  refine ol_val (v := .int .u32 4294967295) (by exact xr_assign rfl rfl) rfl rfl rfl ?_
  refine ol_nil ?_
  refine cw_seq ?_
  refine cw_seq ?_
  refine cw_region ?_
  refine ol_val (v := V0_0) (by exact xr_move rfl rfl) rfl rfl rfl ?_
  refine ol_val (v := .int .i64 (List.length a0 : Int)) (by exact xr_lenRs rfl Try.underlying100 rfl (R0_0.gr fB)) rfl rfl rfl ?_
  refine ol_val (v := .int .i64 0) (by exact xr_move rfl rfl) rfl rfl rfl ?_
  refine ol_nil ?_
  obtain ⟨e14, l15, h16⟩ := bs h
  refine cw_mid (fun ρ' w' => ρ' 4 = .int .u32 e14 ∧ Gr w w') ?_ ?_
  · refine cw_block ?_
    refine cw_round (fun (s13 : Int × Int) ρ' w' => ρ' 3 = .pointer (some ⟨G5, 0, none⟩) ∧ ρ' 4 = .int .u32 s13.1 ∧ ρ' 8 = V0_0 ∧ ρ' 9 = .int .i64 (List.length a0 : Int) ∧ ρ' 10 = .int .i64 s13.2 ∧ Blk w' G5 205 [Kd.seg (kA 16 (kI .u32)) t1] ∧ Gr w w') l15 ?_ ?_
    · skip
      exact ⟨rfl, rfl, rfl, rfl, rfl, b6, fB⟩
    · rintro s13 x19 ρ17 w18 ⟨e3, e4, e8, e9, e10, b6, fB⟩ h
      unfold crc_Sum.s0 at h
      refine cw_seq ?_
      refine cw_region ?_
      refine ol_val (v := .bool (decide (s13.2 < (List.length a0 : Int)))) (by exact xr_lss rfl e10 e9) rfl rfl rfl ?_
      refine ol_nil ?_
      refine cw_seq ?_
      rcases is h with ⟨c20, h⟩ | ⟨c20, h⟩
      · refine cw_condT rfl c20 ?_
        refine cw_skip ?_
        refine cw_seq ?_
        refine cw_block ?_
        refine cw_seq ?_
        refine cw_region ?_
        obtain ⟨g21, h⟩ := gs h
        refine ol_val (v := .pointer (some ⟨(sb V0_0), so V0_0 + Int.toNat s13.2 * 1, none⟩)) (by exact xr_indexRs (v := V0_0) rfl Try.underlying100 sz43 e8 (R0_0.gr fB) e10 g21.1 g21.2) rfl rfl rfl ?_
        refine ol_val (v := inner w18 V0_0 s13.2) (by exact xr_load1 (v := inner w18 V0_0 s13.2) rfl ag43 rfl ((R0_0.gr fB).elem g21.1 g21.2).1) rfl rfl rfl ?_
        have r22 : Rd (kI .u8) w18 (inner w18 V0_0 s13.2) (ix a0 s13.2) := ((R0_0.gr fB).elem g21.1 g21.2).2
        refine ol_val (v := inner w18 V0_0 s13.2) (by exact xr_assign rfl rfl) rfl rfl rfl ?_
        refine ol_nil ?_
        refine cw_region ?_
        refine ol_val (v := .int .u32 s13.1) (by exact xr_move rfl e4) rfl rfl rfl ?_
        refine ol_val (v := inner w18 V0_0 s13.2) (by exact xr_move rfl rfl) rfl rfl rfl ?_
        obtain ⟨t23, k24, h⟩ := bs h
        refine ol_op (by exact opv_call rfl cal155 (ac e3 (ac rfl (ac rfl an))) (crc_register.ok fu _ t1 G5 b6 s13.1 (ix a0 s13.2) (inner w18 V0_0 s13.2) (r22) _ k24)) rfl rfl rfl ?_
        rintro _ w26 ⟨rfl, q25⟩
        have b6 := b6.gr q25
        have fB := fB.gr q25
        refine ol_val (v := .int .u32 t23) (by exact xr_assign rfl rfl) rfl rfl rfl ?_
        refine ol_nil ?_
        refine blk_i ?_
        refine cw_region ?_
        refine ol_val (v := .int .i64 (IntKind.i64.wrap (s13.2 + 1))) (by exact xr_add rfl e10 rfl) rfl rfl rfl ?_
        refine ol_val (v := .int .i64 (IntKind.i64.wrap (s13.2 + 1))) (by exact xr_move rfl rfl) rfl rfl rfl ?_
        refine ol_nil ?_
        obtain rfl := Option.some.inj h
        refine lp_in ?_
        exact ⟨e3, rfl, e8, e9, rfl, b6, fB⟩
      · refine cw_condF rfl c20 ?_
        refine cw_exit ?_
        repeat (first | with_reducible refine thn_e ?_ | with_reducible refine blk_e rfl ?_)
        obtain rfl := Option.some.inj h
        refine lp_exit ?_
        rintro rfl
        refine thn_x ?_
        exact ⟨e4, fB⟩
  · rintro ρ27 w28 ⟨e4, fB⟩
    have h := h16
    refine cw_seq ?_
    refine cw_region ?_
    refine ol_val (v := .int .u32 e14) (by exact xr_move rfl e4) rfl rfl rfl ?_
    refine ol_val (v := .int .u32 (bXor .u32 e14 4294967295)) (by exact xr_xor rfl rfl rfl) rfl rfl rfl ?_
    refine ol_val (v := .int .u32 (bXor .u32 e14 4294967295)) (by exact xr_assign rfl rfl) rfl rfl rfl ?_
    refine ol_nil ?_
    refine cw_ret ?_
    repeat (first | with_reducible refine thn_r ?_ | with_reducible refine blk_r ?_)
    obtain rfl := Option.some.inj h
    refine fin_ret1 Try.results149 rfl ?_
    exact ⟨_, rfl, rfl, fB⟩
end Go.Proofs.Ytklhbaghbmndeaa

/- rickyard/rickyardref02.Step: its model, and that the Go function computes it: written by gen.py. -/
set_option linter.unusedVariables false
namespace Go.Proofs.Ytklhbaghbmndeaa
open Go Go.Xw
def rickyardref02_Step.f (fu : Nat) (a0 : Int) : Option Int := (if (decide ((Int.tmod a0 2) = 1)) = true then some ((bXor .u32 (IntKind.u32.wrap (Int.tdiv a0 2)) 2197175160)) else some ((IntKind.u32.wrap (Int.tdiv a0 2))))
set_option maxRecDepth 100000 in
set_option maxHeartbeats 400000 in
theorem rickyardref02_Step.ok (fu : Nat) (w : World) (a0 : Int) (r : Int) (h : rickyardref02_Step.f fu a0 = some r) :
    Calls Try.prog 153 (([.int .u32 a0] : List Value).toArray) w (fun e w' => ∃ v, e = .returned v ∧ v = .int .u32 r ∧ Gr w w') := by
  unfold rickyardref02_Step.f at h
  have fB : Gr w w := Fr.refl _ _
  refine calls_cw Try.func153 rfl Try.ntmps153 rfl ?_
  refine cw_seq ?_
  refine cw_region ?_
  refine ol_val (v := .int .u32 0) (by exact xr_assign rfl rfl) rfl rfl rfl ?_
  refine ol_nil ?_
  refine cw_seq ?_
  refine cw_seq ?_
  refine cw_region ?_
  refine ol_val (v := .int .u32 a0) (by exact xr_move rfl rfl) rfl rfl rfl ?_
  refine ol_val (v := .int .u32 (Int.tmod a0 2)) (by exact xr_rem rfl rfl rfl (by decide)) rfl rfl rfl ?_
  refine ol_val (v := .bool (decide ((Int.tmod a0 2) = 1))) (by exact xr_eqI rfl Try.underlying191 rfl rfl rfl) rfl rfl rfl ?_
  refine ol_nil ?_
  rcases is h with ⟨c1, h⟩ | ⟨c1, h⟩
  · refine cw_condT rfl c1 ?_
    refine cw_seq ?_
    refine cw_region ?_
    refine ol_val (v := .int .u32 a0) (by exact xr_move rfl rfl) rfl rfl rfl ?_
    refine ol_val (v := .int .u32 (IntKind.u32.wrap (Int.tdiv a0 2))) (by exact xr_quo rfl rfl rfl (by decide)) rfl rfl rfl ?_
    refine ol_val (v := .int .u32 (bXor .u32 (IntKind.u32.wrap (Int.tdiv a0 2)) 2197175160)) (by exact xr_xor rfl rfl rfl) rfl rfl rfl ?_
    refine ol_val (v := .int .u32 (bXor .u32 (IntKind.u32.wrap (Int.tdiv a0 2)) 2197175160)) (by exact xr_assign rfl rfl) rfl rfl rfl ?_
    refine ol_nil ?_
    refine cw_ret ?_
    repeat (first | with_reducible refine thn_r ?_ | with_reducible refine blk_r ?_)
    obtain rfl := Option.some.inj h
    refine fin_ret1 Try.results153 rfl ?_
    exact ⟨_, rfl, rfl, fB⟩
  · refine cw_condF rfl c1 ?_
    refine cw_skip ?_
    refine cw_seq ?_
    refine cw_region ?_
    refine ol_val (v := .int .u32 a0) (by exact xr_move rfl rfl) rfl rfl rfl ?_
    refine ol_val (v := .int .u32 (IntKind.u32.wrap (Int.tdiv a0 2))) (by exact xr_quo rfl rfl rfl (by decide)) rfl rfl rfl ?_
    refine ol_val (v := .int .u32 (IntKind.u32.wrap (Int.tdiv a0 2))) (by exact xr_assign rfl rfl) rfl rfl rfl ?_
    refine ol_nil ?_
    refine cw_ret ?_
    repeat (first | with_reducible refine thn_r ?_ | with_reducible refine blk_r ?_)
    obtain rfl := Option.some.inj h
    refine fin_ret1 Try.results153 rfl ?_
    exact ⟨_, rfl, rfl, fB⟩
end Go.Proofs.Ytklhbaghbmndeaa

/- rickyard/rickyardref02.Steps: its model, and that the Go function computes it: written by gen.py. -/
set_option linter.unusedVariables false
namespace Go.Proofs.Ytklhbaghbmndeaa
open Go Go.Xw
def rickyardref02_Steps.s0 (fu : Nat) (a1 : Int) : (Int × Int) → Option (Sum Int (Int × Int)) := fun s1 => (if (decide (s1.2 < a1)) = true then ((rickyardref02_Step.f fu s1.1 : Option Int).bind fun t9 => some (Sum.inr (t9, (IntKind.i64.wrap (s1.2 + 1))))) else some (Sum.inl (s1.1)))
def rickyardref02_Steps.f (fu : Nat) (a0 : Int) (a1 : Int) : Option Int := ((loopM (rickyardref02_Steps.s0 fu a1) fu (a0, 0)).bind fun e2 => some (e2))
set_option maxRecDepth 100000 in
set_option maxHeartbeats 400000 in
theorem rickyardref02_Steps.ok (fu : Nat) (w : World) (a0 : Int) (a1 : Int) (r : Int) (h : rickyardref02_Steps.f fu a0 a1 = some r) :
    Calls Try.prog 148 (([.int .u32 a0, .int .i64 a1] : List Value).toArray) w (fun e w' => ∃ v, e = .returned v ∧ v = .int .u32 r ∧ Gr w w') := by
  unfold rickyardref02_Steps.f at h
  have fB : Gr w w := Fr.refl _ _
  refine calls_cw Try.func148 rfl Try.ntmps148 rfl ?_
  refine cw_seq ?_
  refine cw_region ?_
  refine ol_val (v := .int .u32 0) (by exact xr_assign rfl rfl) rfl rfl rfl ?_
  refine ol_nil ?_
  refine cw_seq ?_
  refine cw_seq ?_
  refine cw_region ?_
  refine ol_val (v := .int .i64 0) (by exact xr_assign rfl rfl) rfl rfl rfl ?_
  refine ol_nil ?_
  obtain ⟨e2, l3, h4⟩ := bs h
  refine cw_mid (fun ρ' w' => ρ' 0 = .int .u32 e2 ∧ Gr w w') ?_ ?_
  · refine cw_block ?_
    refine cw_round (fun (s1 : Int × Int) ρ' w' => ρ' 0 = .int .u32 s1.1 ∧ ρ' 1 = .int .i64 a1 ∧ ρ' 5 = .int .i64 s1.2 ∧ Gr w w') l3 ?_ ?_
    · skip
      exact ⟨rfl, rfl, rfl, fB⟩
    · rintro s1 x7 ρ5 w6 ⟨e0, e1, e5, fB⟩ h
      unfold rickyardref02_Steps.s0 at h
      refine cw_seq ?_
      refine cw_seq ?_
      refine cw_region ?_
      refine ol_val (v := .int .i64 s1.2) (by exact xr_move rfl e5) rfl rfl rfl ?_
      refine ol_val (v := .int .i64 a1) (by exact xr_move rfl e1) rfl rfl rfl ?_
      refine ol_val (v := .bool (decide (s1.2 < a1))) (by exact xr_lss rfl rfl rfl) rfl rfl rfl ?_
      refine ol_nil ?_
      rcases is h with ⟨c8, h⟩ | ⟨c8, h⟩
      · refine cw_condT rfl c8 ?_
        refine cw_skip ?_
        refine cw_seq ?_
        refine cw_block ?_
        refine cw_region ?_
        refine ol_val (v := .int .u32 s1.1) (by exact xr_move rfl e0) rfl rfl rfl ?_
        obtain ⟨t9, k10, h⟩ := bs h
        refine ol_op (by exact opv_call rfl cal153 (ac rfl an) (rickyardref02_Step.ok fu _ s1.1 _ k10)) rfl rfl rfl ?_
        rintro _ w12 ⟨rfl, q11⟩
        have fB := fB.gr q11
        refine ol_val (v := .int .u32 t9) (by exact xr_assign rfl rfl) rfl rfl rfl ?_
        refine ol_nil ?_
        refine blk_i ?_
        refine cw_region ?_
        refine ol_val (v := .int .i64 s1.2) (by exact xr_move rfl e5) rfl rfl rfl ?_
        refine ol_val (v := .int .i64 (IntKind.i64.wrap (s1.2 + 1))) (by exact xr_add rfl rfl rfl) rfl rfl rfl ?_
        refine ol_val (v := .int .i64 (IntKind.i64.wrap (s1.2 + 1))) (by exact xr_assign rfl rfl) rfl rfl rfl ?_
        refine ol_nil ?_
        obtain rfl := Option.some.inj h
        refine lp_in ?_
        exact ⟨rfl, e1, rfl, fB⟩
      · refine cw_condF rfl c8 ?_
        refine cw_exit ?_
        repeat (first | with_reducible refine thn_e ?_ | with_reducible refine blk_e rfl ?_)
        obtain rfl := Option.some.inj h
        refine lp_exit ?_
        rintro rfl
        refine thn_x ?_
        exact ⟨e0, fB⟩
  · rintro ρ13 w14 ⟨e0, fB⟩
    have h := h4
    refine cw_seq ?_
    refine cw_region ?_
    refine ol_val (v := .int .u32 e2) (by exact xr_move rfl e0) rfl rfl rfl ?_
    refine ol_val (v := .int .u32 e2) (by exact xr_assign rfl rfl) rfl rfl rfl ?_
    refine ol_nil ?_
    refine cw_ret ?_
    repeat (first | with_reducible refine thn_r ?_ | with_reducible refine blk_r ?_)
    obtain rfl := Option.some.inj h
    refine fin_ret1 Try.results148 rfl ?_
    exact ⟨_, rfl, rfl, fB⟩
end Go.Proofs.Ytklhbaghbmndeaa

/- rickyard/rickyardref02.Sum: its model, and that the Go function computes it: written by gen.py. -/
set_option linter.unusedVariables false
namespace Go.Proofs.Ytklhbaghbmndeaa
open Go Go.Xw
def rickyardref02_Sum.s0 (fu : Nat) (a0 : List Int) : (Int × Int) → Option (Sum Int (Int × Int)) := fun s1 => (if (decide (s1.2 < (List.length a0 : Int))) = true then (if 0 ≤ s1.2 ∧ s1.2 < (List.length a0 : Int) then ((rickyardref02_Steps.f fu (bXor .u32 s1.1 (IntKind.u32.wrap (ix a0 s1.2))) 8 : Option Int).bind fun t10 => some (Sum.inr (t10, (IntKind.i64.wrap (s1.2 + 1))))) else none) else some (Sum.inl (s1.1)))
def rickyardref02_Sum.f (fu : Nat) (a0 : List Int) : Option Int := ((loopM (rickyardref02_Sum.s0 fu a0) fu (4294967295, 0)).bind fun e2 => some ((IntKind.u32.wrap (4294967295 - e2))))
set_option maxRecDepth 100000 in
set_option maxHeartbeats 400000 in
theorem rickyardref02_Sum.ok (fu : Nat) (w : World) (a0 : List Int) (V0_0 : Value) (R0_0 : Rd (kI .u8) w V0_0 a0) (r : Int) (h : rickyardref02_Sum.f fu a0 = some r) :
    Calls Try.prog 139 (([V0_0] : List Value).toArray) w (fun e w' => ∃ v, e = .returned v ∧ v = .int .u32 r ∧ Gr w w') := by
  unfold rickyardref02_Sum.f at h
  have fB : Gr w w := Fr.refl _ _
  refine calls_cw Try.func139 rfl Try.ntmps139 rfl ?_
  refine cw_seq ?_
  refine cw_region ?_
  refine ol_val (v := .int .u32 0) (by exact xr_assign rfl rfl) rfl rfl rfl ?_
  refine ol_nil ?_
  refine cw_seq ?_
  refine cw_region ?_
  refine ol_val (v := .int .u32 4294967295) (by exact xr_assign rfl rfl) rfl rfl rfl ?_
  refine ol_nil ?_
  refine cw_seq ?_
  refine cw_seq ?_
  refine cw_region ?_
  refine ol_val (v := .int .i64 0) (by exact xr_assign rfl rfl) rfl rfl rfl ?_
  refine ol_nil ?_
  obtain ⟨e2, l3, h4⟩ := bs h
  refine cw_mid (fun ρ' w' => ρ' 3 = .int .u32 e2 ∧ Gr w w') ?_ ?_
  · refine cw_block ?_
    refine cw_round (fun (s1 : Int × Int) ρ' w' => ρ' 0 = V0_0 ∧ ρ' 3 = .int .u32 s1.1 ∧ ρ' 4 = .int .i64 s1.2 ∧ Gr w w') l3 ?_ ?_
    · skip
      exact ⟨rfl, rfl, rfl, fB⟩
    · rintro s1 x7 ρ5 w6 ⟨e0, e3, e4, fB⟩ h
      unfold rickyardref02_Sum.s0 at h
      refine cw_seq ?_
      refine cw_seq ?_
      refine cw_region ?_
      refine ol_val (v := .int .i64 s1.2) (by exact xr_move rfl e4) rfl rfl rfl ?_
      refine ol_val (v := V0_0) (by exact xr_move rfl e0) rfl rfl rfl ?_
      refine ol_val (v := .int .i64 (List.length a0 : Int)) (by exact xr_lenR rfl Try.underlying43 rfl (R0_0.gr fB)) rfl rfl rfl ?_
      refine ol_val (v := .bool (decide (s1.2 < (List.length a0 : Int)))) (by exact xr_lss rfl rfl rfl) rfl rfl rfl ?_
      refine ol_nil ?_
      rcases is h with ⟨c8, h⟩ | ⟨c8, h⟩
      · refine cw_condT rfl c8 ?_
        refine cw_skip ?_
        refine cw_seq ?_
        refine cw_block ?_
        refine cw_region ?_
        refine ol_val (v := .int .u32 s1.1) (by exact xr_move rfl e3) rfl rfl rfl ?_
        refine ol_val (v := V0_0) (by exact xr_move rfl e0) rfl rfl rfl ?_
        refine ol_val (v := .int .i64 s1.2) (by exact xr_move rfl e4) rfl rfl rfl ?_
        obtain ⟨g9, h⟩ := gs h
        refine ol_val (v := .pointer (some ⟨(sb V0_0), so V0_0 + Int.toNat s1.2 * 1, none⟩)) (by exact xr_indexR (K := (kI .u8)) (v := V0_0) rfl Try.underlying43 sz5 rfl (R0_0.gr fB) rfl g9.1 g9.2) rfl rfl rfl ?_
        refine ol_val (v := .int .u8 (ix a0 s1.2)) (by exact xr_load1 (v := .int .u8 (ix a0 s1.2)) rfl ag5 rfl ((R0_0.gr fB).elem g9.1 g9.2)) rfl rfl rfl ?_
        refine ol_val (v := .int .u32 (IntKind.u32.wrap (ix a0 s1.2))) (by exact xr_conv rfl Try.underlying5 Try.underlying191 rfl) rfl rfl rfl ?_
        refine ol_val (v := .int .u32 (bXor .u32 s1.1 (IntKind.u32.wrap (ix a0 s1.2)))) (by exact xr_xor rfl rfl rfl) rfl rfl rfl ?_
        obtain ⟨t10, k11, h⟩ := bs h
        refine ol_op (by exact opv_call rfl cal148 (ac rfl (ac rfl an)) (rickyardref02_Steps.ok fu _ (bXor .u32 s1.1 (IntKind.u32.wrap (ix a0 s1.2))) 8 _ k11)) rfl rfl rfl ?_
        rintro _ w13 ⟨rfl, q12⟩
        have fB := fB.gr q12
        refine ol_val (v := .int .u32 t10) (by exact xr_assign rfl rfl) rfl rfl rfl ?_
        refine ol_nil ?_
        refine blk_i ?_
        refine cw_region ?_
        refine ol_val (v := .int .i64 s1.2) (by exact xr_move rfl e4) rfl rfl rfl ?_
        refine ol_val (v := .int .i64 (IntKind.i64.wrap (s1.2 + 1))) (by exact xr_add rfl rfl rfl) rfl rfl rfl ?_
        refine ol_val (v := .int .i64 (IntKind.i64.wrap (s1.2 + 1))) (by exact xr_assign rfl rfl) rfl rfl rfl ?_
        refine ol_nil ?_
        obtain rfl := Option.some.inj h
        refine lp_in ?_
        exact ⟨e0, rfl, rfl, fB⟩
      · refine cw_condF rfl c8 ?_
        refine cw_exit ?_
        repeat (first | with_reducible refine thn_e ?_ | with_reducible refine blk_e rfl ?_)
        obtain rfl := Option.some.inj h
        refine lp_exit ?_
        rintro rfl
        refine thn_x ?_
        exact ⟨e3, fB⟩
  · rintro ρ14 w15 ⟨e3, fB⟩
    have h := h4
    refine cw_seq ?_
    refine cw_region ?_
    refine ol_val (v := .int .u32 e2) (by exact xr_move rfl e3) rfl rfl rfl ?_
    refine ol_val (v := .int .u32 (IntKind.u32.wrap (4294967295 - e2))) (by exact xr_sub rfl rfl rfl) rfl rfl rfl ?_
    refine ol_val (v := .int .u32 (IntKind.u32.wrap (4294967295 - e2))) (by exact xr_assign rfl rfl) rfl rfl rfl ?_
    refine ol_nil ?_
    refine cw_ret ?_
    repeat (first | with_reducible refine thn_r ?_ | with_reducible refine blk_r ?_)
    obtain rfl := Option.some.inj h
    refine fin_ret1 Try.results139 rfl ?_
    exact ⟨_, rfl, rfl, fB⟩
end Go.Proofs.Ytklhbaghbmndeaa

/- Sums in plain words: steps of one bit over words of 32 bits; the program's halves of octets and the document's single steps tell the same. -/
set_option linter.unusedVariables false
set_option linter.unusedSimpArgs false
namespace Go.Proofs.Ytklhbaghbmndeaa.Pure
open Go Go.Xw
def I32 (x : BitVec 32) : Int := (x.toNat : Int)
theorem I32_lt (x : BitVec 32) : 0 ≤ I32 x ∧ I32 x ≤ 4294967295 := by
  unfold I32
  have := x.isLt
  omega
theorem ofI (x : BitVec 32) : BitVec.ofInt 32 (I32 x) = x := by
  unfold I32
  rw [BitVec.ofInt_natCast, BitVec.ofNat_toNat, BitVec.setWidth_eq]
theorem I32_of {n : Int} (h0 : 0 ≤ n) (h1 : n ≤ 4294967295) : n = I32 (BitVec.ofNat 32 n.toNat) := by
  unfold I32
  rw [BitVec.toNat_ofNat, Nat.mod_eq_of_lt (by omega)]
  omega
theorem wI32 (x : BitVec 32) : IntKind.u32.wrap (I32 x) = I32 x := wu32 (I32_lt x).1 (I32_lt x).2
theorem bx32 (x y : BitVec 32) : bXor .u32 (I32 x) (I32 y) = I32 (x ^^^ y) := by
  unfold bXor
  show IntKind.u32.wrap (((BitVec.ofInt 32 (I32 x) ^^^ BitVec.ofInt 32 (I32 y)).toNat : Nat) : Int) = _
  rw [ofI, ofI]
  exact wI32 _
theorem ba32 (x y : BitVec 32) : bAnd .u32 (I32 x) (I32 y) = I32 (x &&& y) := by
  unfold bAnd
  show IntKind.u32.wrap (((BitVec.ofInt 32 (I32 x) &&& BitVec.ofInt 32 (I32 y)).toNat : Nat) : Int) = _
  rw [ofI, ofI]
  exact wI32 _
theorem sr32 (x : BitVec 32) (n : Nat) (hn : n ≤ 32) : shR .u32 (I32 x) (n : Int) = I32 (x >>> n) := by
  unfold shR I32
  rw [BitVec.toNat_ushiftRight, Nat.shiftRight_eq_div_pow]
  show Int.fdiv (x.toNat : Int) (2 ^ min ((n : Int).toNat) 32) = _
  rw [Int.toNat_natCast, Nat.min_eq_left hn, Int.fdiv_eq_ediv_of_nonneg _ (Int.le_of_lt (Int.pow_pos (by decide)))]
  simp
def poly : BitVec 32 := 2197175160#32
def stp (x : BitVec 32) : BitVec 32 := (x >>> 1) ^^^ (if x.getLsbD 0 then poly else 0#32)
theorem lsb_and (x : BitVec 32) : (I32 (x &&& 1#32) = 1) ↔ x.getLsbD 0 = true := by
  unfold I32
  rw [BitVec.toNat_and]
  show ((x.toNat &&& 1 : Nat) : Int) = 1 ↔ x.toNat.testBit 0 = true
  rw [Nat.and_one_is_mod, Nat.testBit_zero]
  simp
  omega
theorem step_eq (fu : Nat) (x : BitVec 32) : crc_step.f fu (I32 x) = some (I32 (stp x)) := by
  unfold crc_step.f stp
  have e1 : bAnd .u32 (I32 x) 1 = I32 (x &&& 1#32) := ba32 x 1#32
  have e2 : shR .u32 (I32 x) 1 = I32 (x >>> 1) := sr32 x 1 (by decide)
  have e3 : bXor .u32 (I32 (x >>> 1)) 2197175160 = I32 (x >>> 1 ^^^ poly) := bx32 (x >>> 1) poly
  rw [e1, e2, e3]
  by_cases h : x.getLsbD 0 = true
  · rw [if_pos (by simpa using (lsb_and x).2 h), if_pos h]
  · rw [if_neg (by simpa using fun e => h ((lsb_and x).1 e)), if_neg h]
    simp
theorem rstep_eq (fu : Nat) (x : BitVec 32) : rickyardref02_Step.f fu (I32 x) = some (I32 (stp x)) := by
  unfold rickyardref02_Step.f stp
  have hb := I32_lt x
  have e1 : Int.tmod (I32 x) 2 = I32 (x &&& 1#32) := by
    rw [Int.tmod_eq_emod_of_nonneg hb.1]
    unfold I32
    rw [BitVec.toNat_and]
    show ((x.toNat : Int)) % 2 = ((x.toNat &&& 1 : Nat) : Int)
    rw [Nat.and_one_is_mod]
    omega
  have e2 : Int.tdiv (I32 x) 2 = I32 (x >>> 1) := by
    rw [Int.tdiv_eq_ediv_of_nonneg hb.1]
    unfold I32
    rw [BitVec.toNat_ushiftRight, Nat.shiftRight_eq_div_pow]
    omega
  have e3 : bXor .u32 (I32 (x >>> 1)) 2197175160 = I32 (x >>> 1 ^^^ poly) := bx32 (x >>> 1) poly
  rw [e1, e2, wI32, e3]
  by_cases h : x.getLsbD 0 = true
  · rw [if_pos (by simpa using (lsb_and x).2 h), if_pos h]
  · rw [if_neg (by simpa using fun e => h ((lsb_and x).1 e)), if_neg h]
    simp
theorem xor4 (a b p q : BitVec 32) : (a ^^^ b) ^^^ (p ^^^ q) = (a ^^^ p) ^^^ (b ^^^ q) := by
  rw [BitVec.xor_assoc, ← BitVec.xor_assoc b, BitVec.xor_comm b p, BitVec.xor_assoc p, ← BitVec.xor_assoc]
theorem sel_xor (a b : Bool) (p : BitVec 32) : (if (a ^^ b) = true then p else 0#32) = (if a = true then p else 0#32) ^^^ (if b = true then p else 0#32) := by
  cases a <;> cases b <;> simp
theorem stp_xor (x y : BitVec 32) : stp (x ^^^ y) = stp x ^^^ stp y := by
  unfold stp
  rw [BitVec.ushiftRight_xor_distrib, BitVec.getLsbD_xor, sel_xor, xor4]
def stps : Nat → BitVec 32 → BitVec 32
  | 0, x => x
  | n + 1, x => stps n (stp x)
theorem stps_xor : ∀ (n : Nat) (x y : BitVec 32), stps n (x ^^^ y) = stps n x ^^^ stps n y
  | 0, x, y => rfl
  | n + 1, x, y => by
    unfold stps
    rw [stp_xor, stps_xor n]
theorem stps_add (m : Nat) : ∀ (n : Nat) (x : BitVec 32), stps (n + m) x = stps m (stps n x)
  | 0, x => by simp [stps]
  | n + 1, x => by
    rw [Nat.add_right_comm]
    show stps (n + m) (stp x) = stps m (stps n (stp x))
    exact stps_add m n (stp x)
theorem stps_succ (n : Nat) (x : BitVec 32) : stps (n + 1) x = stp (stps n x) := stps_add 1 n x
theorem stp_even {x : BitVec 32} (h : x.getLsbD 0 = false) : stp x = x >>> 1 := by
  unfold stp
  rw [h]
  simp
theorem stps_high (x : BitVec 32) : ∀ n, (∀ j, j < n → x.getLsbD j = false) → stps n x = x >>> n
  | 0, _ => by simp [stps]
  | n + 1, h => by
    rw [stps_succ, stps_high x n fun j hj => h j (by omega)]
    rw [stp_even (by rw [BitVec.getLsbD_ushiftRight]; exact h (n + 0) (by omega)), ← BitVec.shiftRight_add]
theorem low_bit (n j : Nat) (hj : j < n) (hn : n ≤ 32) : (BitVec.ofNat 32 (2 ^ n - 1)).getLsbD j = true := by
  rw [BitVec.getLsbD_ofNat, Nat.testBit_two_pow_sub_one]
  simp
  omega
theorem high_bit (n j : Nat) (hj : n ≤ j) : (BitVec.ofNat 32 (2 ^ n - 1)).getLsbD j = false := by
  rw [BitVec.getLsbD_ofNat, Nat.testBit_two_pow_sub_one]
  simp
  omega
/-- n steps: what is above the lowest n bits moves down, the lowest n bits make the rest. -/
theorem stps_split (n : Nat) (hn : n ≤ 32) (x : BitVec 32) : stps n x = (x >>> n) ^^^ stps n (x &&& BitVec.ofNat 32 (2 ^ n - 1)) := by
  have e : x = (x &&& ~~~ BitVec.ofNat 32 (2 ^ n - 1)) ^^^ (x &&& BitVec.ofNat 32 (2 ^ n - 1)) := by
    apply BitVec.eq_of_getLsbD_eq
    intro i hi
    rw [BitVec.getLsbD_xor, BitVec.getLsbD_and, BitVec.getLsbD_and, BitVec.getLsbD_not]
    cases x.getLsbD i <;> cases (BitVec.ofNat 32 (2 ^ n - 1)).getLsbD i <;> simp [hi]
  conv => lhs; rw [e]
  rw [stps_xor, stps_high]
  · congr 1
    apply BitVec.eq_of_getLsbD_eq
    intro i hi
    rw [BitVec.getLsbD_ushiftRight, BitVec.getLsbD_ushiftRight, BitVec.getLsbD_and, BitVec.getLsbD_not, high_bit n (n + i) (by omega)]
    by_cases h : n + i < 32
    · simp [h]
    · have : x.getLsbD (n + i) = false := BitVec.getLsbD_of_ge _ _ (by omega)
      simp [this]
  · intro j hj
    rw [BitVec.getLsbD_and, BitVec.getLsbD_not, low_bit n j hj hn]
    simp
/-- Steps lose nothing. -/
theorem stp_inj0 {x : BitVec 32} (h : stp x = 0#32) : x = 0#32 := by
  unfold stp at h
  have hp : poly.getLsbD 31 = true := by decide
  have h31 : (stp x).getLsbD 31 = x.getLsbD 0 := by
    unfold stp
    rw [BitVec.getLsbD_xor, BitVec.getLsbD_ushiftRight, BitVec.getLsbD_of_ge x (1 + 31) (by omega)]
    cases x.getLsbD 0 <;> simp [hp]
  have h0 : x.getLsbD 0 = false := by
    rw [← h31]
    unfold stp
    rw [h]
    simp
  simp only [h0] at h
  apply BitVec.eq_of_getLsbD_eq
  intro i hi
  cases i with
  | zero => rw [h0]; simp
  | succ i =>
    have := congrArg (fun z => z.getLsbD i) h
    simp [BitVec.getLsbD_ushiftRight] at this
    rw [Nat.add_comm] at this
    simpa using this
theorem stps_inj0 : ∀ (n : Nat) {x : BitVec 32}, stps n x = 0#32 → x = 0#32
  | 0, x, h => h
  | n + 1, x, h => stp_inj0 (stps_inj0 n h)
def Bytes (l : List Int) : Prop := ∀ x ∈ l, 0 ≤ x ∧ x ≤ 255
def b32 (c : Int) : BitVec 32 := BitVec.ofNat 32 c.toNat
theorem b32_eq {c : Int} (h : 0 ≤ c ∧ c ≤ 255) : IntKind.u32.wrap c = I32 (b32 c) := by
  rw [wu32 h.1 (by omega)]
  exact I32_of h.1 (by omega)
def take8 (x : BitVec 32) (c : Int) : BitVec 32 := stps 8 (x ^^^ b32 c)
def regs (x : BitVec 32) (l : List Int) : BitVec 32 := l.foldl take8 x
def tabL : List Int := (List.range 16).map fun i => I32 (stps 4 (BitVec.ofNat 32 i))
def tabA : Arr 16 Int := ⟨tabL, rfl⟩
theorem table_at (n : Nat) : crc_Table.f (n + 20) = some tabA := by kernel_rfl
theorem table_eq {fu : Nat} (h : 20 ≤ fu) : crc_Table.f fu = some tabA := by
  obtain ⟨n, rfl⟩ : ∃ n, fu = n + 20 := ⟨fu - 20, by omega⟩
  exact table_at n
theorem tab_get : ∀ i : Fin 16, Arr.get tabA ((i : Nat) : Int) = I32 (stps 4 (BitVec.ofNat 32 (i : Nat))) := by decide +kernel
theorem nib (x : BitVec 32) : bXor .u32 (shR .u32 (I32 x) 4) (Arr.get tabA (bAnd .u32 (I32 x) 15)) = I32 (stps 4 x) := by
  have e1 : bAnd .u32 (I32 x) 15 = I32 (x &&& 15#32) := ba32 x 15#32
  have e2 : shR .u32 (I32 x) 4 = I32 (x >>> 4) := sr32 x 4 (by decide)
  have hlt : (x &&& 15#32).toNat < 16 := by
    rw [BitVec.toNat_and]
    exact Nat.lt_of_le_of_lt Nat.and_le_right (by decide)
  have e3 : Arr.get tabA (I32 (x &&& 15#32)) = I32 (stps 4 (x &&& 15#32)) := by
    have := tab_get ⟨(x &&& 15#32).toNat, hlt⟩
    simp only [BitVec.ofNat_toNat, BitVec.setWidth_eq] at this
    exact this
  rw [e1, e2, e3, bx32]
  exact congrArg I32 (stps_split 4 (by decide) x).symm
theorem nib_in (x : BitVec 32) : 0 ≤ bAnd .u32 (I32 x) 15 ∧ bAnd .u32 (I32 x) 15 < 16 := by
  have e1 : bAnd .u32 (I32 x) 15 = I32 (x &&& 15#32) := ba32 x 15#32
  have hlt : (x &&& 15#32).toNat < 16 := by
    rw [BitVec.toNat_and]
    exact Nat.lt_of_le_of_lt Nat.and_le_right (by decide)
  rw [e1]
  unfold I32
  omega
theorem ix_nat {α : Type} [Inhabited α] {l : List α} {j : Nat} (h : j < l.length) : ix l (j : Int) = l[j] := by
  simp [ix, List.getD_eq_getElem?_getD, List.getElem?_eq_getElem h]
theorem take_next {α : Type} {l : List α} {j : Nat} (h : j < l.length) : l.take (j + 1) = l.take j ++ [l[j]] := by
  rw [List.take_add_one, List.getElem?_eq_getElem h]
  rfl
theorem reg_eq {fu : Nat} {x : BitVec 32} {l : List Int} (hb : Bytes l) (hl : l.length ≤ 9000000000000000000) (hf : l.length < fu) : crc_register.f fu tabA (I32 x) l = some (I32 (regs x l)) := by
  unfold crc_register.f
  have : loopM (crc_register.s0 fu tabA l) fu (I32 x, 0) = some (I32 (regs x l)) := by
    refine loopM_run (S := fun j => (I32 (regs x (l.take j)), (j : Int))) l.length (by simp [regs]) ?_ ?_ hf
    · intro j hj
      unfold crc_register.s0
      have h1 : (j : Int) < (l.length : Int) := by omega
      have w3 : IntKind.i64.wrap ((j : Int) + 1) = ((j + 1 : Nat) : Int) := by rw [w64 (by omega) (by omega)]; omega
      have hc := hb _ (List.getElem_mem hj)
      have e1 : bXor .u32 (I32 (regs x (l.take j))) (IntKind.u32.wrap (ix l (j : Int))) = I32 (regs x (l.take j) ^^^ b32 l[j]) := by
        rw [ix_nat hj, b32_eq hc, bx32]
      have e2 : regs x (l.take (j + 1)) = stps 4 (stps 4 (regs x (l.take j) ^^^ b32 l[j])) := by
        rw [take_next hj]
        unfold regs
        rw [List.foldl_append]
        exact stps_add 4 4 _
      simp only [h1, decide_true, if_true, e1, nib, w3, e2]
      rw [if_pos ⟨by omega, trivial⟩, if_pos (nib_in _), if_pos (nib_in _)]
    · unfold crc_register.s0
      simp
  rw [this]
  rfl
def ones : BitVec 32 := 4294967295#32
def crc (l : List Int) : BitVec 32 := regs ones l ^^^ ones
theorem regs_append (x : BitVec 32) (a b : List Int) : regs x (a ++ b) = regs (regs x a) b := by
  unfold regs
  rw [List.foldl_append]
theorem sum_eq {fu : Nat} {l : List Int} (hb : Bytes l) (hl : l.length ≤ 9000000000000000000) (hf : l.length + 20 < fu) : crc_Sum.f fu [l] = some (I32 (crc l)) := by
  unfold crc_Sum.f
  rw [table_eq (by omega)]
  have : loopM (crc_Sum.s0 fu [l] tabA) fu (4294967295, 0) = some (I32 (regs ones l)) := by
    refine loopM_run (S := fun j => (if j = 0 then I32 ones else I32 (regs ones l), (j : Int))) 1 rfl ?_ ?_ (by omega)
    · intro j hj
      obtain rfl : j = 0 := by omega
      unfold crc_Sum.s0
      have e0 : ix [l] ((0 : Nat) : Int) = l := rfl
      have w3 : IntKind.i64.wrap (((0 : Nat) : Int) + 1) = ((0 + 1 : Nat) : Int) := by decide
      simp only [e0, w3, if_true, reg_eq hb hl (by omega : l.length < fu)]
      simp
    · unfold crc_Sum.s0
      simp
  simp only [Option.bind_some]
  rw [this]
  simp only [Option.bind_some]
  exact congrArg some (bx32 _ ones)
theorem rsteps_eq {fu : Nat} {x : BitVec 32} (hf : 8 < fu) : rickyardref02_Steps.f fu (I32 x) 8 = some (I32 (stps 8 x)) := by
  unfold rickyardref02_Steps.f
  have : loopM (rickyardref02_Steps.s0 fu 8) fu (I32 x, 0) = some (I32 (stps 8 x)) := by
    refine loopM_run (S := fun j => (I32 (stps j x), (j : Int))) 8 rfl ?_ ?_ hf
    · intro j hj
      unfold rickyardref02_Steps.s0
      have h1 : (j : Int) < 8 := by omega
      have w3 : IntKind.i64.wrap ((j : Int) + 1) = ((j + 1 : Nat) : Int) := by rw [w64 (by omega) (by omega)]; omega
      simp only [h1, decide_true, if_true, rstep_eq, w3, stps_succ]
      rfl
    · unfold rickyardref02_Steps.s0
      simp
  rw [this]
  rfl
theorem rsum_eq {fu : Nat} {l : List Int} (hb : Bytes l) (hl : l.length ≤ 9000000000000000000) (hf : l.length + 20 < fu) : rickyardref02_Sum.f fu l = some (I32 (crc l)) := by
  unfold rickyardref02_Sum.f
  have : loopM (rickyardref02_Sum.s0 fu l) fu (4294967295, 0) = some (I32 (regs ones l)) := by
    refine loopM_run (S := fun j => (I32 (regs ones (l.take j)), (j : Int))) l.length (by simp [regs]; rfl) ?_ ?_ (by omega)
    · intro j hj
      unfold rickyardref02_Sum.s0
      have h1 : (j : Int) < (l.length : Int) := by omega
      have w3 : IntKind.i64.wrap ((j : Int) + 1) = ((j + 1 : Nat) : Int) := by rw [w64 (by omega) (by omega)]; omega
      have hc := hb _ (List.getElem_mem hj)
      have e1 : bXor .u32 (I32 (regs ones (l.take j))) (IntKind.u32.wrap (ix l (j : Int))) = I32 (regs ones (l.take j) ^^^ b32 l[j]) := by
        rw [ix_nat hj, b32_eq hc, bx32]
      have e2 : regs ones (l.take (j + 1)) = stps 8 (regs ones (l.take j) ^^^ b32 l[j]) := by
        rw [take_next hj]
        unfold regs
        rw [List.foldl_append]
        rfl
      simp only [h1, decide_true, if_true, e1, w3, e2, rsteps_eq (by omega : 8 < fu)]
      rw [if_pos ⟨by omega, trivial⟩]
      rfl
    · unfold rickyardref02_Sum.s0
      simp
  rw [this]
  have e : IntKind.u32.wrap (4294967295 - I32 (regs ones l)) = I32 (crc l) := by
    have hlt := (regs ones l).isLt
    have h2 : (crc l).toNat = 4294967295 - (regs ones l).toNat := by
      unfold crc
      have : regs ones l ^^^ ones = ~~~ (regs ones l) := by
        apply BitVec.eq_of_getLsbD_eq
        intro i hi
        have ho : ones.getLsbD i = true := by
          have := low_bit 32 i hi (by decide)
          exact this
        rw [BitVec.getLsbD_xor, BitVec.getLsbD_not, ho]
        simp [hi]
      rw [this, BitVec.toNat_not]
    unfold I32
    rw [h2, wu32 (by omega) (by omega)]
    omega
  simp only [Option.bind_some, e]
end Go.Proofs.Ytklhbaghbmndeaa.Pure

/- rickyard/octet.there: its model, and that the Go function computes it: written by gen.py. -/
set_option linter.unusedVariables false
namespace Go.Proofs.Ytklhbaghbmndeaa
open Go Go.Xw
def octet_there.f (fu : Nat) (a0 : List Int) (a1 : Int) (a2 : Int) : Option Bool := some ((if (decide (a1 ≥ 0)) = true then (if (decide (a2 ≥ 0)) = true then (if (decide (a2 ≤ (List.length a0 : Int))) = true then (decide (a1 ≤ (IntKind.i64.wrap ((List.length a0 : Int) - a2)))) else false) else false) else false))
set_option maxRecDepth 100000 in
set_option maxHeartbeats 400000 in
theorem octet_there.ok (fu : Nat) (w : World) (a0 : List Int) (V0_0 : Value) (R0_0 : Rd (kI .u8) w V0_0 a0) (a1 : Int) (a2 : Int) (r : Bool) (h : octet_there.f fu a0 a1 a2 = some r) :
    Calls Try.prog 147 (([V0_0, .int .i64 a1, .int .i64 a2] : List Value).toArray) w (fun e w' => ∃ v, e = .returned v ∧ v = .bool r ∧ Gr w w') := by
  unfold octet_there.f at h
  have fB : Gr w w := Fr.refl _ _
  refine calls_cw Try.func147 rfl Try.ntmps147 rfl ?_
  refine cw_seq ?_
  refine cw_region ?_
  refine ol_val (v := .bool false) (by exact xr_assign rfl rfl) rfl rfl rfl ?_
  refine ol_nil ?_
  refine cw_seq ?_
  refine cw_mid (fun ρ' w' => ρ' 6 = .bool (if (decide (a1 ≥ 0)) = true then (if (decide (a2 ≥ 0)) = true then (if (decide (a2 ≤ (List.length a0 : Int))) = true then (decide (a1 ≤ (IntKind.i64.wrap ((List.length a0 : Int) - a2)))) else false) else false) else false) ∧ w = w') ?_ ?_
  · skip
    refine cw_region ?_
    refine ol_val (v := .int .i64 a1) (by exact xr_move rfl rfl) rfl rfl rfl ?_
    refine ol_val (v := .bool (decide (a1 ≥ 0))) (by exact xr_geq rfl rfl rfl) rfl rfl rfl ?_
    refine ol_val (v := .bool (decide (a1 ≥ 0))) (by exact xr_move rfl rfl) rfl rfl rfl ?_
    rcases bt (decide (a1 ≥ 0)) with c1 | c1
    · skip
      refine ol_gval (v := .int .i64 a2) (by exact xr_move rfl rfl) rfl rfl rfl rfl rfl c1 ?_
      refine ol_gval (v := .bool (decide (a2 ≥ 0))) (by exact xr_geq rfl rfl rfl) rfl rfl rfl rfl rfl c1 ?_
      refine ol_val (v := .bool (decide (a2 ≥ 0))) (by exact xr_pickT rfl rfl c1 rfl) rfl rfl rfl ?_
      refine ol_val (v := .bool (decide (a2 ≥ 0))) (by exact xr_move rfl rfl) rfl rfl rfl ?_
      rcases bt (decide (a2 ≥ 0)) with c2 | c2
      · skip
        refine ol_gval (v := .int .i64 a2) (by exact xr_move rfl rfl) rfl rfl rfl rfl rfl c2 ?_
        refine ol_gval (v := V0_0) (by exact xr_move rfl rfl) rfl rfl rfl rfl rfl c2 ?_
        refine ol_gval (v := .int .i64 (List.length a0 : Int)) (by exact xr_lenR rfl Try.underlying43 rfl (R0_0.gr fB)) rfl rfl rfl rfl rfl c2 ?_
        refine ol_gval (v := .bool (decide (a2 ≤ (List.length a0 : Int)))) (by exact xr_leq rfl rfl rfl) rfl rfl rfl rfl rfl c2 ?_
        refine ol_val (v := .bool (decide (a2 ≤ (List.length a0 : Int)))) (by exact xr_pickT rfl rfl c2 rfl) rfl rfl rfl ?_
        refine ol_val (v := .bool (decide (a2 ≤ (List.length a0 : Int)))) (by exact xr_move rfl rfl) rfl rfl rfl ?_
        rcases bt (decide (a2 ≤ (List.length a0 : Int))) with c3 | c3
        · skip
          refine ol_gval (v := .int .i64 a1) (by exact xr_move rfl rfl) rfl rfl rfl rfl rfl c3 ?_
          refine ol_gval (v := V0_0) (by exact xr_move rfl rfl) rfl rfl rfl rfl rfl c3 ?_
          refine ol_gval (v := .int .i64 (List.length a0 : Int)) (by exact xr_lenR rfl Try.underlying43 rfl (R0_0.gr fB)) rfl rfl rfl rfl rfl c3 ?_
          refine ol_gval (v := .int .i64 a2) (by exact xr_move rfl rfl) rfl rfl rfl rfl rfl c3 ?_
          refine ol_gval (v := .int .i64 (IntKind.i64.wrap ((List.length a0 : Int) - a2))) (by exact xr_sub rfl rfl rfl) rfl rfl rfl rfl rfl c3 ?_
          refine ol_gval (v := .bool (decide (a1 ≤ (IntKind.i64.wrap ((List.length a0 : Int) - a2))))) (by exact xr_leq rfl rfl rfl) rfl rfl rfl rfl rfl c3 ?_
          refine ol_val (v := .bool (decide (a1 ≤ (IntKind.i64.wrap ((List.length a0 : Int) - a2))))) (by exact xr_pickT rfl rfl c3 rfl) rfl rfl rfl ?_
          refine ol_val (v := .bool (decide (a1 ≤ (IntKind.i64.wrap ((List.length a0 : Int) - a2))))) (by exact xr_assign rfl rfl) rfl rfl rfl ?_
          refine ol_nil ?_
          refine thn_i ?_
          exact ⟨(rfl).trans (congrArg (fun z => (.bool z : Value)) (show (decide (a1 ≤ (IntKind.i64.wrap ((List.length a0 : Int) - a2)))) = (if (decide (a1 ≥ 0)) = true then (if (decide (a2 ≥ 0)) = true then (if (decide (a2 ≤ (List.length a0 : Int))) = true then (decide (a1 ≤ (IntKind.i64.wrap ((List.length a0 : Int) - a2)))) else false) else false) else false) from by rw [ite_t c1, ite_t c2, ite_t c3])), rfl⟩
        · skip
          refine ol_gskip rfl rfl rfl rfl rfl c3 ?_
          refine ol_gskip rfl rfl rfl rfl rfl c3 ?_
          refine ol_gskip rfl rfl rfl rfl rfl c3 ?_
          refine ol_gskip rfl rfl rfl rfl rfl c3 ?_
          refine ol_gskip rfl rfl rfl rfl rfl c3 ?_
          refine ol_gskip rfl rfl rfl rfl rfl c3 ?_
          refine ol_val (v := .bool false) (by exact xr_pickF rfl rfl c3 rfl) rfl rfl rfl ?_
          refine ol_val (v := .bool false) (by exact xr_assign rfl rfl) rfl rfl rfl ?_
          refine ol_nil ?_
          refine thn_i ?_
          exact ⟨(rfl).trans (congrArg (fun z => (.bool z : Value)) (show false = (if (decide (a1 ≥ 0)) = true then (if (decide (a2 ≥ 0)) = true then (if (decide (a2 ≤ (List.length a0 : Int))) = true then (decide (a1 ≤ (IntKind.i64.wrap ((List.length a0 : Int) - a2)))) else false) else false) else false) from by rw [ite_t c1, ite_t c2, ite_f c3])), rfl⟩
      · skip
        refine ol_gskip rfl rfl rfl rfl rfl c2 ?_
        refine ol_gskip rfl rfl rfl rfl rfl c2 ?_
        refine ol_gskip rfl rfl rfl rfl rfl c2 ?_
        refine ol_gskip rfl rfl rfl rfl rfl c2 ?_
        refine ol_val (v := .bool false) (by exact xr_pickF rfl rfl c2 rfl) rfl rfl rfl ?_
        refine ol_val (v := .bool false) (by exact xr_move rfl rfl) rfl rfl rfl ?_
        refine ol_gskip rfl rfl rfl rfl rfl rfl ?_
        refine ol_gskip rfl rfl rfl rfl rfl rfl ?_
        refine ol_gskip rfl rfl rfl rfl rfl rfl ?_
        refine ol_gskip rfl rfl rfl rfl rfl rfl ?_
        refine ol_gskip rfl rfl rfl rfl rfl rfl ?_
        refine ol_gskip rfl rfl rfl rfl rfl rfl ?_
        refine ol_val (v := .bool false) (by exact xr_pickF rfl rfl rfl rfl) rfl rfl rfl ?_
        refine ol_val (v := .bool false) (by exact xr_assign rfl rfl) rfl rfl rfl ?_
        refine ol_nil ?_
        refine thn_i ?_
        exact ⟨(rfl).trans (congrArg (fun z => (.bool z : Value)) (show false = (if (decide (a1 ≥ 0)) = true then (if (decide (a2 ≥ 0)) = true then (if (decide (a2 ≤ (List.length a0 : Int))) = true then (decide (a1 ≤ (IntKind.i64.wrap ((List.length a0 : Int) - a2)))) else false) else false) else false) from by rw [ite_t c1, ite_f c2])), rfl⟩
    · skip
      refine ol_gskip rfl rfl rfl rfl rfl c1 ?_
      refine ol_gskip rfl rfl rfl rfl rfl c1 ?_
      refine ol_val (v := .bool false) (by exact xr_pickF rfl rfl c1 rfl) rfl rfl rfl ?_
      refine ol_val (v := .bool false) (by exact xr_move rfl rfl) rfl rfl rfl ?_
      refine ol_gskip rfl rfl rfl rfl rfl rfl ?_
      refine ol_gskip rfl rfl rfl rfl rfl rfl ?_
      refine ol_gskip rfl rfl rfl rfl rfl rfl ?_
      refine ol_gskip rfl rfl rfl rfl rfl rfl ?_
      refine ol_val (v := .bool false) (by exact xr_pickF rfl rfl rfl rfl) rfl rfl rfl ?_
      refine ol_val (v := .bool false) (by exact xr_move rfl rfl) rfl rfl rfl ?_
      refine ol_gskip rfl rfl rfl rfl rfl rfl ?_
      refine ol_gskip rfl rfl rfl rfl rfl rfl ?_
      refine ol_gskip rfl rfl rfl rfl rfl rfl ?_
      refine ol_gskip rfl rfl rfl rfl rfl rfl ?_
      refine ol_gskip rfl rfl rfl rfl rfl rfl ?_
      refine ol_gskip rfl rfl rfl rfl rfl rfl ?_
      refine ol_val (v := .bool false) (by exact xr_pickF rfl rfl rfl rfl) rfl rfl rfl ?_
      refine ol_val (v := .bool false) (by exact xr_assign rfl rfl) rfl rfl rfl ?_
      refine ol_nil ?_
      refine thn_i ?_
      exact ⟨(rfl).trans (congrArg (fun z => (.bool z : Value)) (show false = (if (decide (a1 ≥ 0)) = true then (if (decide (a2 ≥ 0)) = true then (if (decide (a2 ≤ (List.length a0 : Int))) = true then (decide (a1 ≤ (IntKind.i64.wrap ((List.length a0 : Int) - a2)))) else false) else false) else false) from by rw [ite_f c1])), rfl⟩
  · skip
    rintro ρ4 _ ⟨e6, rfl⟩
    refine cw_ret ?_
    repeat (first | with_reducible refine thn_r ?_ | with_reducible refine blk_r ?_)
    obtain rfl := Option.some.inj h
    refine fin_ret1 Try.results147 e6 ?_
    exact ⟨_, rfl, rfl, fB⟩
end Go.Proofs.Ytklhbaghbmndeaa

/- rickyard/octet.Noughts: its model, and that the Go function computes it: written by gen.py. -/
set_option linter.unusedVariables false
namespace Go.Proofs.Ytklhbaghbmndeaa
open Go Go.Xw
def octet_Noughts.s0 (fu : Nat) (a0 : List Int) (a1 : Int) (a2 : Int) : Int → Option (Sum (Sum Bool Unit) Int) := fun s8 => (if (decide (s8 < (List.length (cut a0 a1 (IntKind.i64.wrap (a1 + a2))) : Int))) = true then (if 0 ≤ s8 ∧ s8 < (List.length (cut a0 a1 (IntKind.i64.wrap (a1 + a2))) : Int) then (if (!decide ((ix (cut a0 a1 (IntKind.i64.wrap (a1 + a2))) s8) = 0)) = true then some (Sum.inl (Sum.inl (false))) else some (Sum.inr ((IntKind.i64.wrap (s8 + 1))))) else none) else some (Sum.inl (Sum.inr ())))
def octet_Noughts.f (fu : Nat) (a0 : List Int) (a1 : Int) (a2 : Int) : Option Bool := ((octet_there.f fu a0 a1 a2 : Option Bool).bind fun t1 => (if (!t1) = true then some (false) else (if (0 : Int) ≤ a1 ∧ a1 ≤ (IntKind.i64.wrap (a1 + a2)) ∧ (IntKind.i64.wrap (a1 + a2)) ≤ (List.length a0 : Int) then ((loopM (octet_Noughts.s0 fu a0 a1 a2) fu (0)).bind fun e9 => match e9 with | Sum.inl p => some p | Sum.inr x12 => some (true)) else none)))
set_option maxRecDepth 100000 in
set_option maxHeartbeats 400000 in
theorem octet_Noughts.ok (fu : Nat) (w : World) (a0 : List Int) (V0_0 : Value) (R0_0 : Rd (kI .u8) w V0_0 a0) (a1 : Int) (a2 : Int) (r : Bool) (h : octet_Noughts.f fu a0 a1 a2 = some r) :
    Calls Try.prog 133 (([V0_0, .int .i64 a1, .int .i64 a2] : List Value).toArray) w (fun e w' => ∃ v, e = .returned v ∧ v = .bool r ∧ Gr w w') := by
  unfold octet_Noughts.f at h
  have fB : Gr w w := Fr.refl _ _
  refine calls_cw Try.func133 rfl Try.ntmps133 rfl ?_
  refine cw_seq ?_
  refine cw_region ?_
  refine ol_val (v := .bool false) (by exact xr_assign rfl rfl) rfl rfl rfl ?_
  refine ol_nil ?_
  refine cw_seq ?_
  refine cw_seq ?_
  refine cw_region ?_
  refine ol_val (v := V0_0) (by exact xr_move rfl rfl) rfl rfl rfl ?_
  refine ol_val (v := .int .i64 a1) (by exact xr_move rfl rfl) rfl rfl rfl ?_
  refine ol_val (v := .int .i64 a2) (by exact xr_move rfl rfl) rfl rfl rfl ?_
  obtain ⟨t1, k2, h⟩ := bs h
  refine ol_op (by exact opv_call rfl cal147 (ac rfl (ac rfl (ac rfl an))) (octet_there.ok fu _ a0 V0_0 (R0_0.gr fB) a1 a2 _ k2)) rfl rfl rfl ?_
  rintro _ w4 ⟨rfl, q3⟩
  have fB := fB.gr q3
  refine ol_val (v := .bool (!t1)) (by exact xr_not rfl rfl) rfl rfl rfl ?_
  refine ol_nil ?_
  rcases is h with ⟨c5, h⟩ | ⟨c5, h⟩
  · refine cw_condT rfl c5 ?_
    refine cw_seq ?_
    refine cw_region ?_
    refine ol_val (v := .bool false) (by exact xr_assign rfl rfl) rfl rfl rfl ?_
    refine ol_nil ?_
    refine cw_ret ?_
    repeat (first | with_reducible refine thn_r ?_ | with_reducible refine blk_r ?_)
    obtain rfl := Option.some.inj h
    refine fin_ret1 Try.results133 rfl ?_
    exact ⟨_, rfl, rfl, fB⟩
  · refine cw_condF rfl c5 ?_
    refine cw_skip ?_
    refine cw_seq ?_
    refine cw_seq ?_
    refine cw_region ?_
    refine ol_val (v := V0_0) (by exact xr_move rfl rfl) rfl rfl rfl ?_
    refine ol_val (v := .int .i64 a1) (by exact xr_move rfl rfl) rfl rfl rfl ?_
    refine ol_val (v := .int .i64 a1) (by exact xr_move rfl rfl) rfl rfl rfl ?_
    refine ol_val (v := .int .i64 a2) (by exact xr_move rfl rfl) rfl rfl rfl ?_
    refine ol_val (v := .int .i64 (IntKind.i64.wrap (a1 + a2))) (by exact xr_add rfl rfl rfl) rfl rfl rfl ?_
    obtain ⟨g7, h⟩ := gs h
    refine ol_val (v := subv 1 V0_0 (Int.toNat a1) (Int.toNat (IntKind.i64.wrap (a1 + a2)))) (by exact xr_slice_lh (K := (kI .u8)) (v := V0_0) rfl Try.underlying43 sz5 rfl (R0_0.gr fB) rfl rfl g7.1 g7.2.1 g7.2.2) rfl rfl rfl ?_
    have r6 : Rd (kI .u8) w4 (subv 1 V0_0 (Int.toNat a1) (Int.toNat (IntKind.i64.wrap (a1 + a2)))) (cut a0 a1 (IntKind.i64.wrap (a1 + a2))) := (R0_0.gr fB).cut (lo := a1) (hi := (IntKind.i64.wrap (a1 + a2))) g7.1 g7.2.1 g7.2.2
    refine ol_val (v := .int .i64 (List.length (cut a0 a1 (IntKind.i64.wrap (a1 + a2))) : Int)) (by exact xr_lenR rfl Try.underlying43 rfl r6) rfl rfl rfl ?_
    refine ol_val (v := .int .i64 0) (by exact xr_move rfl rfl) rfl rfl rfl ?_
    refine ol_nil ?_
    obtain ⟨e9, l10, h11⟩ := bs h
    refine cw_mid (fun ρ' w' => ∃ x12, e9 = Sum.inr x12 ∧ Gr w w') ?_ ?_
    · refine cw_block ?_
      refine cw_round (fun (s8 : Int) ρ' w' => ∃ r6 : Rd (kI .u8) w' (subv 1 V0_0 (Int.toNat a1) (Int.toNat (IntKind.i64.wrap (a1 + a2)))) (cut a0 a1 (IntKind.i64.wrap (a1 + a2))), ρ' 19 = subv 1 V0_0 (Int.toNat a1) (Int.toNat (IntKind.i64.wrap (a1 + a2))) ∧ ρ' 20 = .int .i64 (List.length (cut a0 a1 (IntKind.i64.wrap (a1 + a2))) : Int) ∧ ρ' 21 = .int .i64 s8 ∧ Gr w w') l10 ?_ ?_
      · skip
        exact ⟨r6, rfl, rfl, rfl, fB⟩
      · rintro s8 x15 ρ13 w14 ⟨r6, e19, e20, e21, fB⟩ h
        unfold octet_Noughts.s0 at h
        refine cw_seq ?_
        refine cw_region ?_
        refine ol_val (v := .bool (decide (s8 < (List.length (cut a0 a1 (IntKind.i64.wrap (a1 + a2))) : Int)))) (by exact xr_lss rfl e21 e20) rfl rfl rfl ?_
        refine ol_nil ?_
        refine cw_seq ?_
        rcases is h with ⟨c16, h⟩ | ⟨c16, h⟩
        · refine cw_condT rfl c16 ?_
          refine cw_skip ?_
          refine cw_seq ?_
          refine cw_block ?_
          refine cw_seq ?_
          refine cw_region ?_
          obtain ⟨g17, h⟩ := gs h
          refine ol_val (v := .pointer (some ⟨(sb (subv 1 V0_0 (Int.toNat a1) (Int.toNat (IntKind.i64.wrap (a1 + a2))))), so (subv 1 V0_0 (Int.toNat a1) (Int.toNat (IntKind.i64.wrap (a1 + a2)))) + Int.toNat s8 * 1, none⟩)) (by exact xr_indexR (K := (kI .u8)) (v := subv 1 V0_0 (Int.toNat a1) (Int.toNat (IntKind.i64.wrap (a1 + a2)))) rfl Try.underlying43 sz5 e19 r6 e21 g17.1 g17.2) rfl rfl rfl ?_
          refine ol_val (v := .int .u8 (ix (cut a0 a1 (IntKind.i64.wrap (a1 + a2))) s8)) (by exact xr_load1 (v := .int .u8 (ix (cut a0 a1 (IntKind.i64.wrap (a1 + a2))) s8)) rfl ag5 rfl (r6.elem g17.1 g17.2)) rfl rfl rfl ?_
          refine ol_val (v := .int .u8 (ix (cut a0 a1 (IntKind.i64.wrap (a1 + a2))) s8)) (by exact xr_assign rfl rfl) rfl rfl rfl ?_
          refine ol_nil ?_
          refine cw_seq ?_
          refine cw_region ?_
          refine ol_val (v := .int .u8 (ix (cut a0 a1 (IntKind.i64.wrap (a1 + a2))) s8)) (by exact xr_move rfl rfl) rfl rfl rfl ?_
          refine ol_val (v := .bool (!decide ((ix (cut a0 a1 (IntKind.i64.wrap (a1 + a2))) s8) = 0))) (by exact xr_neI rfl Try.underlying5 rfl rfl rfl) rfl rfl rfl ?_
          refine ol_nil ?_
          rcases is h with ⟨c18, h⟩ | ⟨c18, h⟩
          · refine cw_condT rfl c18 ?_
            refine cw_seq ?_
            refine cw_region ?_
            refine ol_val (v := .bool false) (by exact xr_assign rfl rfl) rfl rfl rfl ?_
            refine ol_nil ?_
            refine cw_ret ?_
            repeat (first | with_reducible refine thn_r ?_ | with_reducible refine blk_r ?_)
            obtain rfl := Option.some.inj h
            refine lp_ret ?_
            rintro rfl
            repeat (first | with_reducible refine thn_r ?_ | with_reducible refine blk_r ?_)
            have h := h11
            obtain rfl := Option.some.inj h
            refine fin_ret1 Try.results133 rfl ?_
            exact ⟨_, rfl, rfl, fB⟩
          · refine cw_condF rfl c18 ?_
            refine cw_skip ?_
            refine blk_i ?_
            refine cw_region ?_
            refine ol_val (v := .int .i64 (IntKind.i64.wrap (s8 + 1))) (by exact xr_add rfl e21 rfl) rfl rfl rfl ?_
            refine ol_val (v := .int .i64 (IntKind.i64.wrap (s8 + 1))) (by exact xr_move rfl rfl) rfl rfl rfl ?_
            refine ol_nil ?_
            obtain rfl := Option.some.inj h
            refine lp_in ?_
            exact ⟨r6, e19, e20, rfl, fB⟩
        · refine cw_condF rfl c16 ?_
          refine cw_exit ?_
          repeat (first | with_reducible refine thn_e ?_ | with_reducible refine blk_e rfl ?_)
          obtain rfl := Option.some.inj h
          refine lp_exit ?_
          rintro rfl
          refine thn_x ?_
          exact ⟨_, rfl, fB⟩
    · rintro ρ19 w20 ⟨x12, rfl, fB⟩
      have h := h11
      refine cw_seq ?_
      refine cw_region ?_
      refine ol_val (v := .bool true) (by exact xr_assign rfl rfl) rfl rfl rfl ?_
      refine ol_nil ?_
      refine cw_ret ?_
      repeat (first | with_reducible refine thn_r ?_ | with_reducible refine blk_r ?_)
      obtain rfl := Option.some.inj h
      refine fin_ret1 Try.results133 rfl ?_
      exact ⟨_, rfl, rfl, fB⟩
end Go.Proofs.Ytklhbaghbmndeaa

/- rickyard/rickyardref01.Octet: its model, and that the Go function computes it: written by gen.py. -/
set_option linter.unusedVariables false
namespace Go.Proofs.Ytklhbaghbmndeaa
open Go Go.Xw
def rickyardref01_Octet.s0 (fu : Nat) (a1 : Int) : (Int × Int) → Option (Sum Int (Int × Int)) := fun s1 => (if (decide (s1.2 < a1)) = true then some (Sum.inr ((IntKind.u64.wrap (Int.tdiv s1.1 256)), (IntKind.i64.wrap (s1.2 + 1)))) else some (Sum.inl (s1.1)))
def rickyardref01_Octet.f (fu : Nat) (a0 : Int) (a1 : Int) : Option Int := ((loopM (rickyardref01_Octet.s0 fu a1) fu (a0, 0)).bind fun e2 => some ((IntKind.u8.wrap (Int.tmod e2 256))))
set_option maxRecDepth 100000 in
set_option maxHeartbeats 400000 in
theorem rickyardref01_Octet.ok (fu : Nat) (w : World) (a0 : Int) (a1 : Int) (r : Int) (h : rickyardref01_Octet.f fu a0 a1 = some r) :
    Calls Try.prog 137 (([.int .u64 a0, .int .i64 a1] : List Value).toArray) w (fun e w' => ∃ v, e = .returned v ∧ v = .int .u8 r ∧ Gr w w') := by
  unfold rickyardref01_Octet.f at h
  have fB : Gr w w := Fr.refl _ _
  refine calls_cw Try.func137 rfl Try.ntmps137 rfl ?_
  refine cw_seq ?_
  refine cw_region ?_
  refine ol_val (v := .int .u8 0) (by exact xr_assign rfl rfl) rfl rfl rfl ?_
  refine ol_nil ?_
  refine cw_seq ?_
  refine cw_seq ?_
  refine cw_region ?_
  refine ol_val (v := .int .i64 0) (by exact xr_assign rfl rfl) rfl rfl rfl ?_
  refine ol_nil ?_
  obtain ⟨e2, l3, h4⟩ := bs h
  refine cw_mid (fun ρ' w' => ρ' 0 = .int .u64 e2 ∧ Gr w w') ?_ ?_
  · refine cw_block ?_
    refine cw_round (fun (s1 : Int × Int) ρ' w' => ρ' 0 = .int .u64 s1.1 ∧ ρ' 1 = .int .i64 a1 ∧ ρ' 5 = .int .i64 s1.2 ∧ Gr w w') l3 ?_ ?_
    · skip
      exact ⟨rfl, rfl, rfl, fB⟩
    · rintro s1 x7 ρ5 w6 ⟨e0, e1, e5, fB⟩ h
      unfold rickyardref01_Octet.s0 at h
      refine cw_seq ?_
      refine cw_seq ?_
      refine cw_region ?_
      refine ol_val (v := .int .i64 s1.2) (by exact xr_move rfl e5) rfl rfl rfl ?_
      refine ol_val (v := .int .i64 a1) (by exact xr_move rfl e1) rfl rfl rfl ?_
      refine ol_val (v := .bool (decide (s1.2 < a1))) (by exact xr_lss rfl rfl rfl) rfl rfl rfl ?_
      refine ol_nil ?_
      rcases is h with ⟨c8, h⟩ | ⟨c8, h⟩
      · refine cw_condT rfl c8 ?_
        refine cw_skip ?_
        refine cw_seq ?_
        refine cw_block ?_
        refine cw_region ?_
        refine ol_val (v := .int .u64 s1.1) (by exact xr_move rfl e0) rfl rfl rfl ?_
        refine ol_val (v := .int .u64 (IntKind.u64.wrap (Int.tdiv s1.1 256))) (by exact xr_quo rfl rfl rfl (by decide)) rfl rfl rfl ?_
        refine ol_val (v := .int .u64 (IntKind.u64.wrap (Int.tdiv s1.1 256))) (by exact xr_assign rfl rfl) rfl rfl rfl ?_
        refine ol_nil ?_
        refine blk_i ?_
        refine cw_region ?_
        refine ol_val (v := .int .i64 s1.2) (by exact xr_move rfl e5) rfl rfl rfl ?_
        refine ol_val (v := .int .i64 (IntKind.i64.wrap (s1.2 + 1))) (by exact xr_add rfl rfl rfl) rfl rfl rfl ?_
        refine ol_val (v := .int .i64 (IntKind.i64.wrap (s1.2 + 1))) (by exact xr_assign rfl rfl) rfl rfl rfl ?_
        refine ol_nil ?_
        obtain rfl := Option.some.inj h
        refine lp_in ?_
        exact ⟨rfl, e1, rfl, fB⟩
      · refine cw_condF rfl c8 ?_
        refine cw_exit ?_
        repeat (first | with_reducible refine thn_e ?_ | with_reducible refine blk_e rfl ?_)
        obtain rfl := Option.some.inj h
        refine lp_exit ?_
        rintro rfl
        refine thn_x ?_
        exact ⟨e0, fB⟩
  · rintro ρ9 w10 ⟨e0, fB⟩
    have h := h4
    refine cw_seq ?_
    refine cw_region ?_
    refine ol_val (v := .int .u64 e2) (by exact xr_move rfl e0) rfl rfl rfl ?_
    refine ol_val (v := .int .u64 (Int.tmod e2 256)) (by exact xr_rem rfl rfl rfl (by decide)) rfl rfl rfl ?_
    refine ol_val (v := .int .u8 (IntKind.u8.wrap (Int.tmod e2 256))) (by exact xr_conv rfl Try.underlying22 Try.underlying5 rfl) rfl rfl rfl ?_
    refine ol_val (v := .int .u8 (IntKind.u8.wrap (Int.tmod e2 256))) (by exact xr_assign rfl rfl) rfl rfl rfl ?_
    refine ol_nil ?_
    refine cw_ret ?_
    repeat (first | with_reducible refine thn_r ?_ | with_reducible refine blk_r ?_)
    obtain rfl := Option.some.inj h
    refine fin_ret1 Try.results137 rfl ?_
    exact ⟨_, rfl, rfl, fB⟩
end Go.Proofs.Ytklhbaghbmndeaa
