/- rickyard/rickyardref10.List: its model, and that the Go function computes it: written by gen.py. -/
import Derived.Test.YtjhajfkfhdnciaaBase
import Derived.Test.YtjhajfkfhdnciaaFrickyardref10Right
set_option linter.unusedVariables false
namespace Go.Proofs.Ytjhajfkfhdnciaa
open Go Go.Xw
def rickyardref10_List.s2 (fu : Nat) (a0 : S_api_Chart) (s10 : (List Int) × Int) : ((List Int) × Int × Int) → Option (Sum (List Int) ((List Int) × Int × Int)) := fun s35 => (if (decide (s35.2.2 < 8)) = true then (((if (decide ((Int.tmod s35.2.1 2) = 1)) = true then (if List.length s35.1 + List.length [(IntKind.i64.wrap ((IntKind.i64.wrap ((IntKind.i64.wrap (384 * a0.Place)) + (IntKind.i64.wrap (8 * s10.2)))) + s35.2.2))] ≤ LIM then some ((s35.1 ++ [(IntKind.i64.wrap ((IntKind.i64.wrap ((IntKind.i64.wrap (384 * a0.Place)) + (IntKind.i64.wrap (8 * s10.2)))) + s35.2.2))])) else none) else some (s35.1)) : Option (List Int)).bind fun x49 => some (Sum.inr (x49, (IntKind.i64.wrap (Int.tdiv s35.2.1 2)), (IntKind.i64.wrap (s35.2.2 + 1))))) else some (Sum.inl (s35.1)))
def rickyardref10_List.s1 (fu : Nat) (a0 : S_api_Chart) : ((List Int) × Int) → Option (Sum (List Int) ((List Int) × Int)) := fun s10 => (((if (decide (s10.2 < 48)) = true then ((rickyardref10_Right.f fu a0 : Option Bool).bind fun t26 => some (t26)) else some (false)) : Option Bool).bind fun x23 => (if x23 = true then (if 0 ≤ s10.2 ∧ s10.2 < 48 then ((loopM (rickyardref10_List.s2 fu a0 s10) fu (s10.1, (IntKind.i64.wrap (Arr.get a0.Bits s10.2)), 0)).bind fun e36 => some (Sum.inr (e36, (IntKind.i64.wrap (s10.2 + 1))))) else none) else some (Sum.inl (s10.1))))
def rickyardref10_List.f (fu : Nat) (a0 : S_api_Chart) : Option (List Int) := ((loopM (rickyardref10_List.s1 fu a0) fu ([], 0)).bind fun e11 => some (e11))
set_option maxRecDepth 100000 in
set_option maxHeartbeats 400000 in
theorem rickyardref10_List.ok (fu : Nat) (w : World) (a0 : S_api_Chart) (r : (List Int)) (h : rickyardref10_List.f fu a0 = some r) :
    Calls Try.prog 62 (([aggV [Seg.cell (.int .i64 a0.Place), Kd.seg (kA 48 (kI .u8)) a0.Bits]] : List Value).toArray) w (fun e w' => ∃ v, e = .returned v ∧ ∃ u1 : Value, ∃ o2 : Own (kI .i64) 3 w' w.heap.size u1 r, v = u1 ∧ Gr w w') := by
  unfold rickyardref10_List.f at h
  have fB : Gr w w := Fr.refl _ _
  refine calls_cw Try.func62 rfl Try.ntmps62 rfl ?_
  refine cw_seq ?_
  refine cw_region ?_
  refine ol_op (by exact opv_box (ss := [Seg.cell (.int .i64 a0.Place), Kd.seg (kA 48 (kI .u8)) a0.Bits]) rfl rfl rfl) rfl rfl rfl ?_
  rintro _ w9 ⟨G4, rfl, b5, q6, z7⟩
  have z7 := Nat.le_trans fB.size z7
  have fB := fB.gr q6
  refine ol_val (v := .slice none 0 0) (by exact xr_assign rfl rfl) rfl rfl rfl ?_
  refine ol_nil ?_
  refine cw_seq ?_
  refine cw_region ?_
  refine ol_val (v := .slice none 0 0) (by exact xr_assign rfl rfl) rfl rfl rfl ?_
  refine ol_nil ?_
  refine cw_seq ?_
  refine cw_seq ?_
  refine cw_region ?_
  refine ol_val (v := .int .i64 0) (by exact xr_assign rfl rfl) rfl rfl rfl ?_
  refine ol_nil ?_
  obtain ⟨e11, l12, h13⟩ := bs h
  refine cw_mid (fun ρ' w' => ∃ v14 : Value, ∃ o15 : Own (kI .i64) 3 w' w.heap.size v14 e11, ρ' 3 = v14 ∧ Gr w w') ?_ ?_
  · refine cw_block ?_
    refine cw_round (fun (s10 : (List Int) × Int) ρ' w' => ∃ v17 : Value, ∃ o18 : Own (kI .i64) 3 w' w.heap.size v17 s10.1, ρ' 1 = .pointer (some ⟨G4, 0, none⟩) ∧ ρ' 3 = v17 ∧ ρ' 4 = .int .i64 s10.2 ∧ Blk w' G4 81 [Seg.cell (.int .i64 a0.Place), Kd.seg (kA 48 (kI .u8)) a0.Bits] ∧ Gr w w') l12 ?_ ?_
    · skip
      exact ⟨(.slice none 0 0), Own.nil _ _ _ _, rfl, rfl, rfl, b5, fB⟩
    · rintro s10 x22 ρ20 w21 ⟨v17, o18, e1, e3, e4, b5, fB⟩ h
      unfold rickyardref10_List.s1 at h
      refine cw_seq ?_
      refine cw_seq ?_
      obtain ⟨x23, j24, h⟩ := bs h
      refine cw_mid (fun ρ' w' => ρ' 1 = .pointer (some ⟨G4, 0, none⟩) ∧ ρ' 3 = v17 ∧ ρ' 4 = .int .i64 s10.2 ∧ ρ' 12 = .bool x23 ∧ Gr w21 w') ?_ ?_
      · skip
        refine cw_region ?_
        refine ol_val (v := .int .i64 s10.2) (by exact xr_move rfl e4) rfl rfl rfl ?_
        refine ol_val (v := .bool (decide (s10.2 < 48))) (by exact xr_lss rfl rfl rfl) rfl rfl rfl ?_
        refine ol_val (v := .bool (decide (s10.2 < 48))) (by exact xr_move rfl rfl) rfl rfl rfl ?_
        rcases is j24 with ⟨c25, j24⟩ | ⟨c25, j24⟩
        · skip
          refine ol_gval (v := aggV [Seg.cell (.int .i64 a0.Place), Kd.seg (kA 48 (kI .u8)) a0.Bits]) (by exact xr_loadS (ss := [Seg.cell (.int .i64 a0.Place), Kd.seg (kA 48 (kI .u8)) a0.Bits]) rfl ag81 sz81 rfl e1 (b5.segs 0 2 rfl)) rfl rfl rfl rfl rfl c25 ?_
          obtain ⟨t26, k27, j24⟩ := bs j24
          refine ol_gop (by exact opv_call rfl cal61 (ac rfl an) (rickyardref10_Right.ok fu _ a0 _ k27)) rfl rfl rfl rfl rfl c25 ?_
          rintro _ w29 ⟨rfl, q28⟩
          have b5 := b5.gr q28
          have o18 := o18.gr q28
          have fB := fB.gr q28
          refine ol_val (v := .bool t26) (by exact xr_pickT rfl rfl c25 rfl) rfl rfl rfl ?_
          refine ol_nil ?_
          obtain rfl := Option.some.inj j24
          refine thn_i ?_
          exact ⟨e1, e3, e4, rfl, q28⟩
        · skip
          refine ol_gskip rfl rfl rfl rfl rfl c25 ?_
          refine ol_gskip rfl rfl rfl rfl rfl c25 ?_
          refine ol_val (v := .bool false) (by exact xr_pickF rfl rfl c25 rfl) rfl rfl rfl ?_
          refine ol_nil ?_
          obtain rfl := Option.some.inj j24
          refine thn_i ?_
          exact ⟨e1, e3, e4, rfl, Fr.refl _ _⟩
      · skip
        rintro ρ30 w31 ⟨e1, e3, e4, e12, q32⟩
        have b5 := b5.gr q32
        have o18 := o18.gr q32
        have fB := fB.gr q32
        rcases is h with ⟨c33, h⟩ | ⟨c33, h⟩
        · refine cw_condT e12 c33 ?_
          refine cw_skip ?_
          refine cw_seq ?_
          refine cw_block ?_
          refine cw_seq ?_
          refine cw_region ?_
          refine ol_val (v := .int .i64 s10.2) (by exact xr_move rfl e4) rfl rfl rfl ?_
          refine ol_val (v := .pointer (some ⟨G4, 1, none⟩)) (by exact xr_fieldAddr (p := 0) (q := 1) rfl fl81_1 e1) rfl rfl rfl ?_
          obtain ⟨g34, h⟩ := gs h
          refine ol_val (v := .pointer (some ⟨G4, 1 + Int.toNat s10.2 * 1, none⟩)) (by exact xr_indexA (p := 1) (s := 1) rfl Try.underlying79 sz5 rfl rfl g34.1 g34.2) rfl rfl rfl ?_
          refine ol_val (v := .int .u8 (Arr.get a0.Bits s10.2)) (by exact xr_load1 (v := .int .u8 (Arr.get a0.Bits s10.2)) rfl ag5 rfl (At.arr (a := a0.Bits) (b5.seg 1 rfl rfl) g34.1 g34.2)) rfl rfl rfl ?_
          refine ol_val (v := .int .i64 (IntKind.i64.wrap (Arr.get a0.Bits s10.2))) (by exact xr_conv rfl Try.underlying5 Try.underlying3 rfl) rfl rfl rfl ?_
          refine ol_val (v := .int .i64 (IntKind.i64.wrap (Arr.get a0.Bits s10.2))) (by exact xr_assign rfl rfl) rfl rfl rfl ?_
          refine ol_nil ?_
          refine cw_seq ?_
          refine cw_region ?_
          refine ol_val (v := .int .i64 0) (by exact xr_assign rfl rfl) rfl rfl rfl ?_
          refine ol_nil ?_
          obtain ⟨e36, l37, h38⟩ := bs h
          refine cw_mid (fun ρ' w' => ∃ v39 : Value, ∃ o40 : Own (kI .i64) 3 w' w.heap.size v39 e36, ρ' 1 = .pointer (some ⟨G4, 0, none⟩) ∧ ρ' 3 = v39 ∧ ρ' 4 = .int .i64 s10.2 ∧ Blk w' G4 81 [Seg.cell (.int .i64 a0.Place), Kd.seg (kA 48 (kI .u8)) a0.Bits] ∧ Gr w w') ?_ ?_
          · refine cw_block ?_
            refine cw_round (fun (s35 : (List Int) × Int × Int) ρ' w' => ∃ v42 : Value, ∃ o43 : Own (kI .i64) 3 w' w.heap.size v42 s35.1, ρ' 1 = .pointer (some ⟨G4, 0, none⟩) ∧ ρ' 3 = v42 ∧ ρ' 4 = .int .i64 s10.2 ∧ ρ' 5 = .int .i64 s35.2.1 ∧ ρ' 6 = .int .i64 s35.2.2 ∧ Blk w' G4 81 [Seg.cell (.int .i64 a0.Place), Kd.seg (kA 48 (kI .u8)) a0.Bits] ∧ Gr w w') l37 ?_ ?_
            · skip
              exact ⟨v17, o18, e1, e3, e4, rfl, rfl, b5, fB⟩
            · rintro s35 x47 ρ45 w46 ⟨v42, o43, e1, e3, e4, e5, e6, b5, fB⟩ h
              unfold rickyardref10_List.s2 at h
              refine cw_seq ?_
              refine cw_seq ?_
              refine cw_region ?_
              refine ol_val (v := .int .i64 s35.2.2) (by exact xr_move rfl e6) rfl rfl rfl ?_
              refine ol_val (v := .bool (decide (s35.2.2 < 8))) (by exact xr_lss rfl rfl rfl) rfl rfl rfl ?_
              refine ol_nil ?_
              rcases is h with ⟨c48, h⟩ | ⟨c48, h⟩
              · refine cw_condT rfl c48 ?_
                refine cw_skip ?_
                refine cw_seq ?_
                refine cw_block ?_
                refine cw_seq ?_
                refine cw_seq ?_
                refine cw_region ?_
                refine ol_val (v := .int .i64 s35.2.1) (by exact xr_move rfl e5) rfl rfl rfl ?_
                refine ol_val (v := .int .i64 (Int.tmod s35.2.1 2)) (by exact xr_rem rfl rfl rfl (by decide)) rfl rfl rfl ?_
                refine ol_val (v := .bool (decide ((Int.tmod s35.2.1 2) = 1))) (by exact xr_eqI rfl Try.underlying3 rfl rfl rfl) rfl rfl rfl ?_
                refine ol_nil ?_
                obtain ⟨x49, j50, h51⟩ := bs h
                refine cw_mid (fun ρ' w' => ∃ v52 : Value, ∃ o53 : Own (kI .i64) 3 w' w.heap.size v52 x49, ρ' 1 = .pointer (some ⟨G4, 0, none⟩) ∧ ρ' 3 = v52 ∧ ρ' 4 = .int .i64 s10.2 ∧ ρ' 5 = .int .i64 s35.2.1 ∧ ρ' 6 = .int .i64 s35.2.2 ∧ Blk w' G4 81 [Seg.cell (.int .i64 a0.Place), Kd.seg (kA 48 (kI .u8)) a0.Bits] ∧ Gr w w') ?_ ?_
                · have h := j50
                  rcases is h with ⟨c55, h⟩ | ⟨c55, h⟩
                  · refine cw_condT rfl c55 ?_
                    refine cw_region ?_
                    refine ol_val (v := v42) (by exact xr_move rfl e3) rfl rfl rfl ?_
                    refine ol_val (v := .pointer (some ⟨G4, 0, none⟩)) (by exact xr_fieldAddr (p := 0) (q := 0) rfl fl81_0 e1) rfl rfl rfl ?_
                    refine ol_val (v := .int .i64 a0.Place) (by exact xr_load1 (v := .int .i64 a0.Place) rfl ag3 rfl (b5.seg 0 rfl rfl)) rfl rfl rfl ?_
                    refine ol_val (v := .int .i64 (IntKind.i64.wrap (384 * a0.Place))) (by exact xr_mul rfl rfl rfl) rfl rfl rfl ?_
                    refine ol_val (v := .int .i64 s10.2) (by exact xr_move rfl e4) rfl rfl rfl ?_
                    refine ol_val (v := .int .i64 (IntKind.i64.wrap (8 * s10.2))) (by exact xr_mul rfl rfl rfl) rfl rfl rfl ?_
                    refine ol_val (v := .int .i64 (IntKind.i64.wrap ((IntKind.i64.wrap (384 * a0.Place)) + (IntKind.i64.wrap (8 * s10.2))))) (by exact xr_add rfl rfl rfl) rfl rfl rfl ?_
                    refine ol_val (v := .int .i64 s35.2.2) (by exact xr_move rfl e6) rfl rfl rfl ?_
                    refine ol_val (v := .int .i64 (IntKind.i64.wrap ((IntKind.i64.wrap ((IntKind.i64.wrap (384 * a0.Place)) + (IntKind.i64.wrap (8 * s10.2)))) + s35.2.2))) (by exact xr_add rfl rfl rfl) rfl rfl rfl ?_
                    refine ol_op (by exact opv_buildSlice (K := (kI .i64)) (xs := [(IntKind.i64.wrap ((IntKind.i64.wrap ((IntKind.i64.wrap (384 * a0.Place)) + (IntKind.i64.wrap (8 * s10.2)))) + s35.2.2))]) (vals := [.int .i64 (IntKind.i64.wrap ((IntKind.i64.wrap ((IntKind.i64.wrap (384 * a0.Place)) + (IntKind.i64.wrap (8 * s10.2)))) + s35.2.2))]) rfl Try.underlying45 el3 rfl rfl ⟨rfl, rfl, trivial⟩ rfl rfl rfl fB.size) rfl rfl rfl ?_
                    rintro v56 w61 ⟨o58, q57, z59⟩
                    have a62 := OffV.new o43 z59
                    have b5 := b5.gr q57
                    have o43 := o43.gr q57
                    have fB := fB.gr q57
                    obtain ⟨g67, h⟩ := gs h
                    have f69 := off_ty b5 o43 (by decide)
                    have f70 := o43.geO
                    refine ol_op (by exact opv_append (K := (kI .i64)) rfl Try.underlying45 el3 rfl rfl rfl rfl rfl o43 o58.rd g67 fB.size) rfl rfl rfl ?_
                    rintro v63 w71 ⟨o64, q65, n66⟩
                    have b5 := b5.wrO q65 f69
                    have fB := fB.wrO q65 f70
                    refine ol_val (v := v63) (by exact xr_assign rfl rfl) rfl rfl rfl ?_
                    refine ol_nil ?_
                    obtain rfl := Option.some.inj h
                    refine thn_i ?_
                    exact ⟨v63, o64, e1, rfl, e4, e5, e6, b5, fB⟩
                  · refine cw_condF rfl c55 ?_
                    refine cw_skip ?_
                    obtain rfl := Option.some.inj h
                    refine thn_i ?_
                    exact ⟨v42, o43, e1, e3, e4, e5, e6, b5, fB⟩
                · rintro ρ72 w73 ⟨v52, o53, e1, e3, e4, e5, e6, b5, fB⟩
                  have h := h51
                  refine cw_region ?_
                  refine ol_val (v := .int .i64 s35.2.1) (by exact xr_move rfl e5) rfl rfl rfl ?_
                  refine ol_val (v := .int .i64 (IntKind.i64.wrap (Int.tdiv s35.2.1 2))) (by exact xr_quo rfl rfl rfl (by decide)) rfl rfl rfl ?_
                  refine ol_val (v := .int .i64 (IntKind.i64.wrap (Int.tdiv s35.2.1 2))) (by exact xr_assign rfl rfl) rfl rfl rfl ?_
                  refine ol_nil ?_
                  refine blk_i ?_
                  refine cw_region ?_
                  refine ol_val (v := .int .i64 s35.2.2) (by exact xr_move rfl e6) rfl rfl rfl ?_
                  refine ol_val (v := .int .i64 (IntKind.i64.wrap (s35.2.2 + 1))) (by exact xr_add rfl rfl rfl) rfl rfl rfl ?_
                  refine ol_val (v := .int .i64 (IntKind.i64.wrap (s35.2.2 + 1))) (by exact xr_assign rfl rfl) rfl rfl rfl ?_
                  refine ol_nil ?_
                  obtain rfl := Option.some.inj h
                  refine lp_in ?_
                  exact ⟨v52, o53, e1, e3, e4, rfl, rfl, b5, fB⟩
              · refine cw_condF rfl c48 ?_
                refine cw_exit ?_
                repeat (first | with_reducible refine thn_e ?_ | with_reducible refine blk_e rfl ?_)
                obtain rfl := Option.some.inj h
                refine lp_exit ?_
                rintro rfl
                refine thn_x ?_
                exact ⟨v42, o43, e1, e3, e4, b5, fB⟩
          · rintro ρ74 w75 ⟨v39, o40, e1, e3, e4, b5, fB⟩
            have h := h38
            refine blk_i ?_
            refine cw_region ?_
            refine ol_val (v := .int .i64 s10.2) (by exact xr_move rfl e4) rfl rfl rfl ?_
            refine ol_val (v := .int .i64 (IntKind.i64.wrap (s10.2 + 1))) (by exact xr_add rfl rfl rfl) rfl rfl rfl ?_
            refine ol_val (v := .int .i64 (IntKind.i64.wrap (s10.2 + 1))) (by exact xr_assign rfl rfl) rfl rfl rfl ?_
            refine ol_nil ?_
            obtain rfl := Option.some.inj h
            refine lp_in ?_
            exact ⟨v39, o40, e1, e3, rfl, b5, fB⟩
        · refine cw_condF e12 c33 ?_
          refine cw_exit ?_
          repeat (first | with_reducible refine thn_e ?_ | with_reducible refine blk_e rfl ?_)
          obtain rfl := Option.some.inj h
          refine lp_exit ?_
          rintro rfl
          refine thn_x ?_
          exact ⟨v17, o18, e3, fB⟩
  · rintro ρ76 w77 ⟨v14, o15, e3, fB⟩
    have h := h13
    refine cw_seq ?_
    refine cw_region ?_
    refine ol_val (v := v14) (by exact xr_move rfl e3) rfl rfl rfl ?_
    refine ol_val (v := v14) (by exact xr_assign rfl rfl) rfl rfl rfl ?_
    refine ol_nil ?_
    refine cw_ret ?_
    repeat (first | with_reducible refine thn_r ?_ | with_reducible refine blk_r ?_)
    obtain rfl := Option.some.inj h
    refine fin_ret1 Try.results62 rfl ?_
    exact ⟨_, rfl, v14, o15, rfl, fB⟩
end Go.Proofs.Ytjhajfkfhdnciaa
