/- FateChooses: texts merged, part 8 of 8. The last part proves that the law FateChooses holds for every input. -/
import Derived.Test.YtklhbaghbmndeaaPkFateChooses7
/- rickyard/rickyardref06.Values: its model, and that the Go function computes it: written by gen.py. -/
set_option linter.unusedVariables false
namespace Go.Proofs.Ytklhbaghbmndeaa
open Go Go.Xw
def rickyardref06_Values.s2 (fu : Nat) (s10 : (List Int) × Int) (t24 : Int) : (Bool × Int) → Option (Sum Bool (Bool × Int)) := fun s28 => (if (decide (s28.2 < (List.length s10.1 : Int))) = true then (((if s28.1 = true then some (true) else (if 0 ≤ s28.2 ∧ s28.2 < (List.length s10.1 : Int) then some ((decide ((ix s10.1 s28.2) = t24))) else none)) : Option Bool).bind fun x36 => some (Sum.inr (x36, (IntKind.i64.wrap (s28.2 + 1))))) else some (Sum.inl (s28.1)))
def rickyardref06_Values.s1 (fu : Nat) (a0 : S_api_Fate) : ((List Int) × Int) → Option (Sum (List Int) ((List Int) × Int)) := fun s10 => (if (decide (s10.2 < 3)) = true then ((rickyardref05_Value.f fu a0 s10.2 : Option Int).bind fun t24 => ((loopM (rickyardref06_Values.s2 fu s10 t24) fu (false, 0)).bind fun e29 => (((if (!e29) = true then (if List.length s10.1 + List.length [t24] ≤ LIM then some ((s10.1 ++ [t24])) else none) else some (s10.1)) : Option (List Int)).bind fun x43 => some (Sum.inr (x43, (IntKind.i64.wrap (s10.2 + 1))))))) else some (Sum.inl (s10.1)))
def rickyardref06_Values.f (fu : Nat) (a0 : S_api_Fate) : Option (List Int) := ((loopM (rickyardref06_Values.s1 fu a0) fu ([], 0)).bind fun e11 => some (e11))
set_option maxRecDepth 100000 in
set_option maxHeartbeats 400000 in
theorem rickyardref06_Values.ok (fu : Nat) (w : World) (a0 : S_api_Fate) (r : (List Int)) (h : rickyardref06_Values.f fu a0 = some r) :
    Calls Try.prog 51 (([aggV [Seg.cell (.int .i64 a0.At), Seg.cell (.int .u64 a0.Lasts), Seg.cell (.bool a0.Flushed), Seg.cell (.int .u64 a0.Sent), Seg.cell (.int .u64 a0.Stored)]] : List Value).toArray) w (fun e w' => ∃ v, e = .returned v ∧ ∃ u1 : Value, ∃ o2 : Own (kI .u64) 22 w' w.heap.size u1 r, v = u1 ∧ Gr w w') := by
  unfold rickyardref06_Values.f at h
  have fB : Gr w w := Fr.refl _ _
  refine calls_cw Try.func51 rfl Try.ntmps51 rfl ?_
  refine cw_seq ?_
  refine cw_region ?_
  refine ol_op (by exact opv_box (ss := [Seg.cell (.int .i64 a0.At), Seg.cell (.int .u64 a0.Lasts), Seg.cell (.bool a0.Flushed), Seg.cell (.int .u64 a0.Sent), Seg.cell (.int .u64 a0.Stored)]) rfl rfl rfl) rfl rfl rfl ?_
  rintro _ w9 ⟨G4, rfl, b5, q6, z7⟩
  have z7 := Nat.le_trans fB.size z7
  have fB := fB.gr q6
  refine ol_val (v := .slice none 0 0) (by exact xr_assign rfl rfl) rfl rfl rfl ?_
  refine ol_nil ?_
  refine cw_seq ?_
  refine cw_region ?_
  refine ol_val (v := .slice none 0 0) (by exact xr_assign rfl rfl) rfl rfl rfl ?_
  refine ol_nil ?_
  refine cw_seq ?_
  refine cw_seq ?_
  refine cw_region ?_
  refine ol_val (v := .int .i64 0) (by exact xr_assign rfl rfl) rfl rfl rfl ?_
  refine ol_nil ?_
  obtain ⟨e11, l12, h13⟩ := bs h
  refine cw_mid (fun ρ' w' => ∃ v14 : Value, ∃ o15 : Own (kI .u64) 22 w' w.heap.size v14 e11, ρ' 3 = v14 ∧ Gr w w') ?_ ?_
  · refine cw_block ?_
    refine cw_round (fun (s10 : (List Int) × Int) ρ' w' => ∃ v17 : Value, ∃ o18 : Own (kI .u64) 22 w' w.heap.size v17 s10.1, ρ' 1 = .pointer (some ⟨G4, 0, none⟩) ∧ ρ' 3 = v17 ∧ ρ' 4 = .int .i64 s10.2 ∧ Blk w' G4 55 [Seg.cell (.int .i64 a0.At), Seg.cell (.int .u64 a0.Lasts), Seg.cell (.bool a0.Flushed), Seg.cell (.int .u64 a0.Sent), Seg.cell (.int .u64 a0.Stored)] ∧ Gr w w') l12 ?_ ?_
    · skip
      exact ⟨(.slice none 0 0), Own.nil _ _ _ _, rfl, rfl, rfl, b5, fB⟩
    · rintro s10 x22 ρ20 w21 ⟨v17, o18, e1, e3, e4, b5, fB⟩ h
      unfold rickyardref06_Values.s1 at h
      refine cw_seq ?_
      refine cw_seq ?_
      refine cw_region ?_
      refine ol_val (v := .int .i64 s10.2) (by exact xr_move rfl e4) rfl rfl rfl ?_
      refine ol_val (v := .bool (decide (s10.2 < 3))) (by exact xr_lss rfl rfl rfl) rfl rfl rfl ?_
      refine ol_nil ?_
      rcases is h with ⟨c23, h⟩ | ⟨c23, h⟩
      · refine cw_condT rfl c23 ?_
        refine cw_skip ?_
        refine cw_seq ?_
        refine cw_block ?_
        refine cw_seq ?_
        refine cw_region ?_
        refine ol_val (v := aggV [Seg.cell (.int .i64 a0.At), Seg.cell (.int .u64 a0.Lasts), Seg.cell (.bool a0.Flushed), Seg.cell (.int .u64 a0.Sent), Seg.cell (.int .u64 a0.Stored)]) (by exact xr_loadS (ss := [Seg.cell (.int .i64 a0.At), Seg.cell (.int .u64 a0.Lasts), Seg.cell (.bool a0.Flushed), Seg.cell (.int .u64 a0.Sent), Seg.cell (.int .u64 a0.Stored)]) rfl ag55 sz55 rfl e1 (b5.segs 0 5 rfl)) rfl rfl rfl ?_
        refine ol_val (v := .int .i64 s10.2) (by exact xr_move rfl e4) rfl rfl rfl ?_
        obtain ⟨t24, k25, h⟩ := bs h
        refine ol_op (by exact opv_call rfl cal42 (ac rfl (ac rfl an)) (rickyardref05_Value.ok fu _ a0 s10.2 _ k25)) rfl rfl rfl ?_
        rintro _ w27 ⟨rfl, q26⟩
        have b5 := b5.gr q26
        have o18 := o18.gr q26
        have fB := fB.gr q26
        refine ol_val (v := .int .u64 t24) (by exact xr_assign rfl rfl) rfl rfl rfl ?_
        refine ol_nil ?_
        refine cw_seq ?_
        refine cw_region ?_
        refine ol_val (v := .bool false) (by exact xr_assign rfl rfl) rfl rfl rfl ?_
        refine ol_nil ?_
        refine cw_seq ?_
        refine cw_seq ?_
        refine cw_region ?_
        refine ol_val (v := .int .i64 0) (by exact xr_assign rfl rfl) rfl rfl rfl ?_
        refine ol_nil ?_
        obtain ⟨e29, l30, h31⟩ := bs h
        refine cw_mid (fun ρ' w' => ∃ o18 : Own (kI .u64) 22 w' w.heap.size v17 s10.1, ρ' 1 = .pointer (some ⟨G4, 0, none⟩) ∧ ρ' 3 = v17 ∧ ρ' 4 = .int .i64 s10.2 ∧ ρ' 5 = .int .u64 t24 ∧ ρ' 6 = .bool e29 ∧ Blk w' G4 55 [Seg.cell (.int .i64 a0.At), Seg.cell (.int .u64 a0.Lasts), Seg.cell (.bool a0.Flushed), Seg.cell (.int .u64 a0.Sent), Seg.cell (.int .u64 a0.Stored)] ∧ Gr w w') ?_ ?_
        · refine cw_block ?_
          refine cw_round (fun (s28 : Bool × Int) ρ' w' => ∃ o18 : Own (kI .u64) 22 w' w.heap.size v17 s10.1, ρ' 1 = .pointer (some ⟨G4, 0, none⟩) ∧ ρ' 3 = v17 ∧ ρ' 4 = .int .i64 s10.2 ∧ ρ' 5 = .int .u64 t24 ∧ ρ' 6 = .bool s28.1 ∧ ρ' 7 = .int .i64 s28.2 ∧ Blk w' G4 55 [Seg.cell (.int .i64 a0.At), Seg.cell (.int .u64 a0.Lasts), Seg.cell (.bool a0.Flushed), Seg.cell (.int .u64 a0.Sent), Seg.cell (.int .u64 a0.Stored)] ∧ Gr w w') l30 ?_ ?_
          · skip
            exact ⟨o18, e1, e3, e4, rfl, rfl, rfl, b5, fB⟩
          · rintro s28 x34 ρ32 w33 ⟨o18, e1, e3, e4, e5, e6, e7, b5, fB⟩ h
            unfold rickyardref06_Values.s2 at h
            refine cw_seq ?_
            refine cw_seq ?_
            refine cw_region ?_
            refine ol_val (v := .int .i64 s28.2) (by exact xr_move rfl e7) rfl rfl rfl ?_
            refine ol_val (v := v17) (by exact xr_move rfl e3) rfl rfl rfl ?_
            refine ol_val (v := .int .i64 (List.length s10.1 : Int)) (by exact xr_lenR rfl Try.underlying46 rfl o18.rd) rfl rfl rfl ?_
            refine ol_val (v := .bool (decide (s28.2 < (List.length s10.1 : Int)))) (by exact xr_lss rfl rfl rfl) rfl rfl rfl ?_
            refine ol_nil ?_
            rcases is h with ⟨c35, h⟩ | ⟨c35, h⟩
            · refine cw_condT rfl c35 ?_
              refine cw_skip ?_
              refine cw_seq ?_
              refine cw_block ?_
              obtain ⟨x36, j37, h⟩ := bs h
              refine cw_mid (fun ρ' w' => ρ' 1 = .pointer (some ⟨G4, 0, none⟩) ∧ ρ' 3 = v17 ∧ ρ' 4 = .int .i64 s10.2 ∧ ρ' 5 = .int .u64 t24 ∧ ρ' 6 = .bool x36 ∧ ρ' 7 = .int .i64 s28.2 ∧ w33 = w') ?_ ?_
              · skip
                refine cw_region ?_
                refine ol_val (v := .bool s28.1) (by exact xr_move rfl e6) rfl rfl rfl ?_
                refine ol_val (v := .bool s28.1) (by exact xr_move rfl rfl) rfl rfl rfl ?_
                rcases is j37 with ⟨c38, j37⟩ | ⟨c38, j37⟩
                · skip
                  refine ol_gskip rfl rfl rfl rfl rfl c38 ?_
                  refine ol_gskip rfl rfl rfl rfl rfl c38 ?_
                  refine ol_gskip rfl rfl rfl rfl rfl c38 ?_
                  refine ol_gskip rfl rfl rfl rfl rfl c38 ?_
                  refine ol_gskip rfl rfl rfl rfl rfl c38 ?_
                  refine ol_gskip rfl rfl rfl rfl rfl c38 ?_
                  refine ol_val (v := .bool true) (by exact xr_pickT rfl rfl c38 rfl) rfl rfl rfl ?_
                  refine ol_val (v := .bool true) (by exact xr_assign rfl rfl) rfl rfl rfl ?_
                  refine ol_nil ?_
                  obtain rfl := Option.some.inj j37
                  refine thn_i ?_
                  exact ⟨e1, e3, e4, e5, rfl, e7, rfl⟩
                · skip
                  refine ol_gval (v := v17) (by exact xr_move rfl e3) rfl rfl rfl rfl rfl c38 ?_
                  refine ol_gval (v := .int .i64 s28.2) (by exact xr_move rfl e7) rfl rfl rfl rfl rfl c38 ?_
                  obtain ⟨g39, j37⟩ := gs j37
                  refine ol_gval (v := .pointer (some ⟨(sb v17), so v17 + Int.toNat s28.2 * 1, none⟩)) (by exact xr_indexR (K := (kI .u64)) (v := v17) rfl Try.underlying46 sz22 rfl o18.rd rfl g39.1 g39.2) rfl rfl rfl rfl rfl c38 ?_
                  refine ol_gval (v := .int .u64 (ix s10.1 s28.2)) (by exact xr_load1 (v := .int .u64 (ix s10.1 s28.2)) rfl ag22 rfl (o18.rd.elem g39.1 g39.2)) rfl rfl rfl rfl rfl c38 ?_
                  refine ol_gval (v := .int .u64 t24) (by exact xr_move rfl e5) rfl rfl rfl rfl rfl c38 ?_
                  refine ol_gval (v := .bool (decide ((ix s10.1 s28.2) = t24))) (by exact xr_eqI rfl Try.underlying22 rfl rfl rfl) rfl rfl rfl rfl rfl c38 ?_
                  refine ol_val (v := .bool (decide ((ix s10.1 s28.2) = t24))) (by exact xr_pickF rfl rfl c38 rfl) rfl rfl rfl ?_
                  refine ol_val (v := .bool (decide ((ix s10.1 s28.2) = t24))) (by exact xr_assign rfl rfl) rfl rfl rfl ?_
                  refine ol_nil ?_
                  obtain rfl := Option.some.inj j37
                  refine thn_i ?_
                  exact ⟨e1, e3, e4, e5, rfl, e7, rfl⟩
              · skip
                rintro ρ40 _ ⟨e1, e3, e4, e5, e6, e7, rfl⟩
                refine blk_i ?_
                refine cw_region ?_
                refine ol_val (v := .int .i64 s28.2) (by exact xr_move rfl e7) rfl rfl rfl ?_
                refine ol_val (v := .int .i64 (IntKind.i64.wrap (s28.2 + 1))) (by exact xr_add rfl rfl rfl) rfl rfl rfl ?_
                refine ol_val (v := .int .i64 (IntKind.i64.wrap (s28.2 + 1))) (by exact xr_assign rfl rfl) rfl rfl rfl ?_
                refine ol_nil ?_
                obtain rfl := Option.some.inj h
                refine lp_in ?_
                exact ⟨o18, e1, e3, e4, e5, e6, rfl, b5, fB⟩
            · refine cw_condF rfl c35 ?_
              refine cw_exit ?_
              repeat (first | with_reducible refine thn_e ?_ | with_reducible refine blk_e rfl ?_)
              obtain rfl := Option.some.inj h
              refine lp_exit ?_
              rintro rfl
              refine thn_x ?_
              exact ⟨o18, e1, e3, e4, e5, e6, b5, fB⟩
        · rintro ρ41 w42 ⟨o18, e1, e3, e4, e5, e6, b5, fB⟩
          have h := h31
          refine cw_seq ?_
          refine cw_region ?_
          refine ol_val (v := .bool e29) (by exact xr_move rfl e6) rfl rfl rfl ?_
          refine ol_val (v := .bool (!e29)) (by exact xr_not rfl rfl) rfl rfl rfl ?_
          refine ol_nil ?_
          obtain ⟨x43, j44, h45⟩ := bs h
          refine cw_mid (fun ρ' w' => ∃ v46 : Value, ∃ o47 : Own (kI .u64) 22 w' w.heap.size v46 x43, ρ' 1 = .pointer (some ⟨G4, 0, none⟩) ∧ ρ' 3 = v46 ∧ ρ' 4 = .int .i64 s10.2 ∧ Blk w' G4 55 [Seg.cell (.int .i64 a0.At), Seg.cell (.int .u64 a0.Lasts), Seg.cell (.bool a0.Flushed), Seg.cell (.int .u64 a0.Sent), Seg.cell (.int .u64 a0.Stored)] ∧ Gr w w') ?_ ?_
          · have h := j44
            rcases is h with ⟨c49, h⟩ | ⟨c49, h⟩
            · refine cw_condT rfl c49 ?_
              refine cw_region ?_
              refine ol_val (v := v17) (by exact xr_move rfl e3) rfl rfl rfl ?_
              refine ol_val (v := .int .u64 t24) (by exact xr_move rfl e5) rfl rfl rfl ?_
              refine ol_op (by exact opv_buildSlice (K := (kI .u64)) (xs := [t24]) (vals := [.int .u64 t24]) rfl Try.underlying46 el22 rfl rfl ⟨rfl, rfl, trivial⟩ rfl rfl rfl fB.size) rfl rfl rfl ?_
              rintro v50 w55 ⟨o52, q51, z53⟩
              have a56 := OffV.new o18 z53
              have b5 := b5.gr q51
              have o18 := o18.gr q51
              have fB := fB.gr q51
              obtain ⟨g61, h⟩ := gs h
              have f63 := off_ty b5 o18 (by decide)
              have f64 := o18.geO
              refine ol_op (by exact opv_append (K := (kI .u64)) rfl Try.underlying46 el22 rfl rfl rfl rfl rfl o18 o52.rd g61 fB.size) rfl rfl rfl ?_
              rintro v57 w65 ⟨o58, q59, n60⟩
              have b5 := b5.wrO q59 f63
              have fB := fB.wrO q59 f64
              refine ol_val (v := v57) (by exact xr_assign rfl rfl) rfl rfl rfl ?_
              refine ol_nil ?_
              obtain rfl := Option.some.inj h
              refine thn_i ?_
              exact ⟨v57, o58, e1, rfl, e4, b5, fB⟩
            · refine cw_condF rfl c49 ?_
              refine cw_skip ?_
              obtain rfl := Option.some.inj h
              refine thn_i ?_
              exact ⟨v17, o18, e1, e3, e4, b5, fB⟩
          · rintro ρ66 w67 ⟨v46, o47, e1, e3, e4, b5, fB⟩
            have h := h45
            refine blk_i ?_
            refine cw_region ?_
            refine ol_val (v := .int .i64 s10.2) (by exact xr_move rfl e4) rfl rfl rfl ?_
            refine ol_val (v := .int .i64 (IntKind.i64.wrap (s10.2 + 1))) (by exact xr_add rfl rfl rfl) rfl rfl rfl ?_
            refine ol_val (v := .int .i64 (IntKind.i64.wrap (s10.2 + 1))) (by exact xr_assign rfl rfl) rfl rfl rfl ?_
            refine ol_nil ?_
            obtain rfl := Option.some.inj h
            refine lp_in ?_
            exact ⟨v46, o47, e1, e3, rfl, b5, fB⟩
      · refine cw_condF rfl c23 ?_
        refine cw_exit ?_
        repeat (first | with_reducible refine thn_e ?_ | with_reducible refine blk_e rfl ?_)
        obtain rfl := Option.some.inj h
        refine lp_exit ?_
        rintro rfl
        refine thn_x ?_
        exact ⟨v17, o18, e3, fB⟩
  · rintro ρ68 w69 ⟨v14, o15, e3, fB⟩
    have h := h13
    refine cw_seq ?_
    refine cw_region ?_
    refine ol_val (v := v14) (by exact xr_move rfl e3) rfl rfl rfl ?_
    refine ol_val (v := v14) (by exact xr_assign rfl rfl) rfl rfl rfl ?_
    refine ol_nil ?_
    refine cw_ret ?_
    repeat (first | with_reducible refine thn_r ?_ | with_reducible refine blk_r ?_)
    obtain rfl := Option.some.inj h
    refine fin_ret1 Try.results51 rfl ?_
    exact ⟨_, rfl, v14, o15, rfl, fB⟩
end Go.Proofs.Ytklhbaghbmndeaa

/- rickyard/rickyardref06.Count: its model, and that the Go function computes it: written by gen.py. -/
set_option linter.unusedVariables false
namespace Go.Proofs.Ytklhbaghbmndeaa
open Go Go.Xw
def rickyardref06_Count.s0 (fu : Nat) (t1 : (List S_api_Fate)) : (Int × Int) → Option (Sum Int (Int × Int)) := fun s8 => (if (decide (s8.2 < (List.length t1 : Int))) = true then (if 0 ≤ s8.2 ∧ s8.2 < (List.length t1 : Int) then ((rickyardref06_Values.f fu (ix t1 s8.2) : Option (List Int)).bind fun t17 => (((if (decide ((IntKind.i64.wrap (s8.1 * (List.length t17 : Int))) > 1099511627776)) = true then some (1099511627776) else some ((IntKind.i64.wrap (s8.1 * (List.length t17 : Int))))) : Option Int).bind fun x24 => some (Sum.inr (x24, (IntKind.i64.wrap (s8.2 + 1)))))) else none) else some (Sum.inl (s8.1)))
def rickyardref06_Count.f (fu : Nat) (a0 : S_rickyardref05_Device) : Option Int := ((rickyardref05_Device_Fates.f fu a0 : Option (List S_api_Fate)).bind fun t1 => ((loopM (rickyardref06_Count.s0 fu t1) fu (1, 0)).bind fun e9 => some (e9)))
set_option maxRecDepth 100000 in
set_option maxHeartbeats 400000 in
theorem rickyardref06_Count.ok (fu : Nat) (w : World) (a0 : S_rickyardref05_Device) (G_0 : Nat) (V0_0 : Value) (R0_0 : Rd (kI .u64) w V0_0 a0.Lasts) (V0_1 : Value) (R0_1 : Rd (kI .u64) w V0_1 a0.Stored) (V0_2 : Value) (R0_2 : Rd (kI .u64) w V0_2 a0.Sent) (V0_3 : Value) (R0_3 : Rd kB w V0_3 a0.Flushed) (V0_4 : Value) (R0_4 : Rd (kI .i64) w V0_4 a0.Plan) (b_0 : Blk w G_0 65 [Seg.cell V0_0 R0_0.one, Seg.cell V0_1 R0_1.one, Seg.cell V0_2 R0_2.one, Seg.cell V0_3 R0_3.one, Seg.cell V0_4 R0_4.one, Seg.cell (.int .i64 a0.Since), Seg.cell (.int .i64 a0.Left), Seg.cell (.int .i64 a0.Steps)]) (r : Int) (h : rickyardref06_Count.f fu a0 = some r) :
    Calls Try.prog 62 (([.pointer (some ⟨G_0, 0, none⟩)] : List Value).toArray) w (fun e w' => ∃ v, e = .returned v ∧ v = .int .i64 r ∧ Gr w w') := by
  unfold rickyardref06_Count.f at h
  have fB : Gr w w := Fr.refl _ _
  refine calls_cw Try.func62 rfl Try.ntmps62 rfl ?_
  refine cw_seq ?_
  refine cw_region ?_
  refine ol_val (v := .int .i64 0) (by exact xr_assign rfl rfl) rfl rfl rfl ?_
  refine ol_nil ?_
  refine cw_seq ?_
  refine cw_region ?_
  refine ol_val (v := .pointer (some ⟨G_0, 0, none⟩)) (by exact xr_move rfl rfl) rfl rfl rfl ?_
  obtain ⟨t1, k2, h⟩ := bs h
  refine ol_op (by exact opv_call rfl cal47 (ac rfl an) (rickyardref05_Device_Fates.ok fu _ a0 G_0 V0_0 (R0_0.gr fB) V0_1 (R0_1.gr fB) V0_2 (R0_2.gr fB) V0_3 (R0_3.gr fB) V0_4 (R0_4.gr fB) b_0 _ k2)) rfl rfl rfl ?_
  rintro u3 w7 ⟨_, o4, rfl, q6⟩
  have o4 := Own.base o4 fB.size
  have b_0 := b_0.gr q6
  have fB := fB.gr q6
  refine ol_val (v := u3) (by exact xr_assign rfl rfl) rfl rfl rfl ?_
  refine ol_nil ?_
  refine cw_seq ?_
  refine cw_region ?_
  refine ol_val (v := .int .i64 1) (by exact xr_assign rfl rfl) rfl rfl rfl ?_
  refine ol_nil ?_
  refine cw_seq ?_
  refine cw_seq ?_
  refine cw_region ?_
  refine ol_val (v := .int .i64 0) (by exact xr_assign rfl rfl) rfl rfl rfl ?_
  refine ol_nil ?_
  obtain ⟨e9, l10, h11⟩ := bs h
  refine cw_mid (fun ρ' w' => ρ' 4 = .int .i64 e9 ∧ Blk w' G_0 65 [Seg.cell V0_0 R0_0.one, Seg.cell V0_1 R0_1.one, Seg.cell V0_2 R0_2.one, Seg.cell V0_3 R0_3.one, Seg.cell V0_4 R0_4.one, Seg.cell (.int .i64 a0.Since), Seg.cell (.int .i64 a0.Left), Seg.cell (.int .i64 a0.Steps)] ∧ Gr w w') ?_ ?_
  · refine cw_block ?_
    refine cw_round (fun (s8 : Int × Int) ρ' w' => ∃ o4 : Own k_api_Fate 55 w' w.heap.size u3 t1, ρ' 3 = u3 ∧ ρ' 4 = .int .i64 s8.1 ∧ ρ' 5 = .int .i64 s8.2 ∧ Blk w' G_0 65 [Seg.cell V0_0 R0_0.one, Seg.cell V0_1 R0_1.one, Seg.cell V0_2 R0_2.one, Seg.cell V0_3 R0_3.one, Seg.cell V0_4 R0_4.one, Seg.cell (.int .i64 a0.Since), Seg.cell (.int .i64 a0.Left), Seg.cell (.int .i64 a0.Steps)] ∧ Gr w w') l10 ?_ ?_
    · skip
      exact ⟨o4, rfl, rfl, rfl, b_0, fB⟩
    · rintro s8 x14 ρ12 w13 ⟨o4, e3, e4, e5, b_0, fB⟩ h
      unfold rickyardref06_Count.s0 at h
      refine cw_seq ?_
      refine cw_seq ?_
      refine cw_region ?_
      refine ol_val (v := .int .i64 s8.2) (by exact xr_move rfl e5) rfl rfl rfl ?_
      refine ol_val (v := u3) (by exact xr_move rfl e3) rfl rfl rfl ?_
      refine ol_val (v := .int .i64 (List.length t1 : Int)) (by exact xr_lenR rfl Try.underlying52 rfl o4.rd) rfl rfl rfl ?_
      refine ol_val (v := .bool (decide (s8.2 < (List.length t1 : Int)))) (by exact xr_lss rfl rfl rfl) rfl rfl rfl ?_
      refine ol_nil ?_
      rcases is h with ⟨c15, h⟩ | ⟨c15, h⟩
      · refine cw_condT rfl c15 ?_
        refine cw_skip ?_
        refine cw_seq ?_
        refine cw_block ?_
        refine cw_seq ?_
        refine cw_region ?_
        refine ol_val (v := .int .i64 s8.1) (by exact xr_move rfl e4) rfl rfl rfl ?_
        refine ol_val (v := u3) (by exact xr_move rfl e3) rfl rfl rfl ?_
        refine ol_val (v := .int .i64 s8.2) (by exact xr_move rfl e5) rfl rfl rfl ?_
        obtain ⟨g16, h⟩ := gs h
        refine ol_val (v := .pointer (some ⟨(sb u3), so u3 + Int.toNat s8.2 * 5, none⟩)) (by exact xr_indexR (K := k_api_Fate) (v := u3) rfl Try.underlying52 sz55 rfl o4.rd rfl g16.1 g16.2) rfl rfl rfl ?_
        refine ol_val (v := aggV [Seg.cell (.int .i64 ((ix t1 s8.2).At)), Seg.cell (.int .u64 ((ix t1 s8.2).Lasts)), Seg.cell (.bool ((ix t1 s8.2).Flushed)), Seg.cell (.int .u64 ((ix t1 s8.2).Sent)), Seg.cell (.int .u64 ((ix t1 s8.2).Stored))]) (by exact xr_loadS (ss := [Seg.cell (.int .i64 ((ix t1 s8.2).At)), Seg.cell (.int .u64 ((ix t1 s8.2).Lasts)), Seg.cell (.bool ((ix t1 s8.2).Flushed)), Seg.cell (.int .u64 ((ix t1 s8.2).Sent)), Seg.cell (.int .u64 ((ix t1 s8.2).Stored))]) rfl ag55 sz55 rfl rfl (o4.rd.elem g16.1 g16.2)) rfl rfl rfl ?_
        obtain ⟨t17, k18, h⟩ := bs h
        refine ol_op (by exact opv_call rfl cal51 (ac rfl an) (rickyardref06_Values.ok fu _ (ix t1 s8.2) _ k18)) rfl rfl rfl ?_
        rintro u19 w23 ⟨_, o20, rfl, q22⟩
        have o20 := Own.base o20 fB.size
        have b_0 := b_0.gr q22
        have o4 := o4.gr q22
        have fB := fB.gr q22
        refine ol_val (v := .int .i64 (List.length t17 : Int)) (by exact xr_lenR rfl Try.underlying46 rfl o20.rd) rfl rfl rfl ?_
        refine ol_val (v := .int .i64 (IntKind.i64.wrap (s8.1 * (List.length t17 : Int)))) (by exact xr_mul rfl rfl rfl) rfl rfl rfl ?_
        refine ol_val (v := .int .i64 (IntKind.i64.wrap (s8.1 * (List.length t17 : Int)))) (by exact xr_assign rfl rfl) rfl rfl rfl ?_
        refine ol_nil ?_
        refine cw_seq ?_
        refine cw_region ?_
        refine ol_val (v := .int .i64 (IntKind.i64.wrap (s8.1 * (List.length t17 : Int)))) (by exact xr_move rfl rfl) rfl rfl rfl ?_
        refine ol_val (v := .bool (decide ((IntKind.i64.wrap (s8.1 * (List.length t17 : Int))) > 1099511627776))) (by exact xr_gtr rfl rfl rfl) rfl rfl rfl ?_
        refine ol_nil ?_
        obtain ⟨x24, j25, h26⟩ := bs h
        refine cw_mid (fun ρ' w' => ∃ o4 : Own k_api_Fate 55 w' w.heap.size u3 t1, ρ' 3 = u3 ∧ ρ' 4 = .int .i64 x24 ∧ ρ' 5 = .int .i64 s8.2 ∧ Blk w' G_0 65 [Seg.cell V0_0 R0_0.one, Seg.cell V0_1 R0_1.one, Seg.cell V0_2 R0_2.one, Seg.cell V0_3 R0_3.one, Seg.cell V0_4 R0_4.one, Seg.cell (.int .i64 a0.Since), Seg.cell (.int .i64 a0.Left), Seg.cell (.int .i64 a0.Steps)] ∧ Gr w w') ?_ ?_
        · have h := j25
          rcases is h with ⟨c27, h⟩ | ⟨c27, h⟩
          · refine cw_condT rfl c27 ?_
            refine cw_region ?_
            refine ol_val (v := .int .i64 1099511627776) (by exact xr_assign rfl rfl) rfl rfl rfl ?_
            refine ol_nil ?_
            obtain rfl := Option.some.inj h
            refine thn_i ?_
            exact ⟨o4, e3, rfl, e5, b_0, fB⟩
          · refine cw_condF rfl c27 ?_
            refine cw_skip ?_
            obtain rfl := Option.some.inj h
            refine thn_i ?_
            exact ⟨o4, e3, rfl, e5, b_0, fB⟩
        · rintro ρ28 w29 ⟨o4, e3, e4, e5, b_0, fB⟩
          have h := h26
          refine blk_i ?_
          refine cw_region ?_
          refine ol_val (v := .int .i64 s8.2) (by exact xr_move rfl e5) rfl rfl rfl ?_
          refine ol_val (v := .int .i64 (IntKind.i64.wrap (s8.2 + 1))) (by exact xr_add rfl rfl rfl) rfl rfl rfl ?_
          refine ol_val (v := .int .i64 (IntKind.i64.wrap (s8.2 + 1))) (by exact xr_assign rfl rfl) rfl rfl rfl ?_
          refine ol_nil ?_
          obtain rfl := Option.some.inj h
          refine lp_in ?_
          exact ⟨o4, e3, e4, rfl, b_0, fB⟩
      · refine cw_condF rfl c15 ?_
        refine cw_exit ?_
        repeat (first | with_reducible refine thn_e ?_ | with_reducible refine blk_e rfl ?_)
        obtain rfl := Option.some.inj h
        refine lp_exit ?_
        rintro rfl
        refine thn_x ?_
        exact ⟨e4, b_0, fB⟩
  · rintro ρ30 w31 ⟨e4, b_0, fB⟩
    have h := h11
    refine cw_seq ?_
    refine cw_region ?_
    refine ol_val (v := .int .i64 e9) (by exact xr_move rfl e4) rfl rfl rfl ?_
    refine ol_val (v := .int .i64 e9) (by exact xr_assign rfl rfl) rfl rfl rfl ?_
    refine ol_nil ?_
    refine cw_ret ?_
    repeat (first | with_reducible refine thn_r ?_ | with_reducible refine blk_r ?_)
    obtain rfl := Option.some.inj h
    refine fin_ret1 Try.results62 rfl ?_
    exact ⟨_, rfl, rfl, fB⟩
end Go.Proofs.Ytklhbaghbmndeaa

/- What may last of a word, and how many images there may be. -/
set_option linter.unusedVariables false
set_option linter.unusedSimpArgs false
namespace Go.Proofs.Ytklhbaghbmndeaa.Pure
open Go Go.Xw
theorem awake06 : rickyardlaw06_awake.f FU = some true := by decide +kernel
theorem contains1_eq {fu : Nat} {l : List Int} {x : Int} (hl : l.length ≤ 100000) (hf : l.length < fu) : slices_Contains_1.f fu l x = some (decide (x ∈ l)) := by
  unfold slices_Contains_1.f slices_Index_1.f
  have hs : ∀ j : Nat, j < l.length → slices_Index_1.s0 fu l x (j : Int) = some (if x = ix l (j : Int) then .inl (.inl (j : Int)) else .inr ((j + 1 : Nat) : Int)) := by
    intro j hj
    unfold slices_Index_1.s0
    rw [decide_eq_true (show (j : Int) < (l.length : Int) by omega), if_pos rfl, if_pos (by omega), next64 hj hl]
    by_cases e : x = ix l (j : Int)
    · rw [decide_eq_true e, if_pos rfl, if_pos e]
    · rw [decide_eq_false e, if_neg (by decide), if_neg e]
  have : ∃ e, loopM (slices_Index_1.s0 fu l x) fu 0 = some e ∧ ((∃ k : Int, 0 ≤ k ∧ e = .inl k ∧ x ∈ l) ∨ e = .inr () ∧ x ∉ l) := by
    have step : ∀ k m, m ≤ l.length → l.length - m < k → (∀ i, i < m → x ≠ ix l (i : Int)) → ∃ e, loopM (slices_Index_1.s0 fu l x) k ((m : Nat) : Int) = some e ∧ ((∃ k : Int, 0 ≤ k ∧ e = .inl k ∧ x ∈ l) ∨ e = .inr () ∧ x ∉ l) := by
      intro k
      induction k with
      | zero => intro m _ h; omega
      | succ k ih =>
        intro m hm hk hno
        unfold loopM
        by_cases e1 : m = l.length
        · subst e1
          unfold slices_Index_1.s0
          rw [decide_eq_false (show ¬ ((l.length : Int) < (l.length : Int)) by omega), if_neg (by decide)]
          refine ⟨_, rfl, .inr ⟨rfl, fun hx => ?_⟩⟩
          obtain ⟨i, hi, rfl⟩ := List.getElem_of_mem hx
          exact hno i hi (ix_nat hi).symm
        · rw [hs m (by omega)]
          by_cases e : x = ix l (m : Int)
          · rw [if_pos e]
            refine ⟨_, rfl, .inl ⟨(m : Int), by omega, rfl, ?_⟩⟩
            rw [e, ix_nat (by omega)]
            exact List.getElem_mem _
          · rw [if_neg e]
            refine ih (m + 1) (by omega) (by omega) fun i hi => ?_
            by_cases h : i = m
            · rw [h]; exact e
            · exact hno i (by omega)
    exact step fu 0 (by omega) (by omega) fun i hi => by omega
  obtain ⟨e, h1, h2⟩ := this
  rw [h1]
  rcases h2 with ⟨k, hk, rfl, hx⟩ | ⟨rfl, hx⟩
  · rw [decide_eq_true hx]
    simp only [Option.bind_some]
    rw [decide_eq_true (show k ≥ 0 from hk)]
  · rw [decide_eq_false hx]
    rfl
def vals1 (f : S_api_Fate) : List Int := if f.Flushed = true ∧ f.Sent ≠ f.Lasts then [f.Lasts, f.Sent] else [f.Lasts]
/-- What may last of a word. -/
def vals (f : S_api_Fate) : List Int := if f.Stored ∈ vals1 f then vals1 f else vals1 f ++ [f.Stored]
theorem vals1_len (f : S_api_Fate) : 1 ≤ (vals1 f).length ∧ (vals1 f).length ≤ 2 := by
  unfold vals1
  split <;> simp
theorem vals_len (f : S_api_Fate) : 1 ≤ (vals f).length ∧ (vals f).length ≤ 3 := by
  have := vals1_len f
  unfold vals
  split
  · omega
  · rw [List.length_append]
    simp only [List.length_cons, List.length_nil]
    omega
theorem lim3 {n : Nat} (h : n ≤ 100) : n ≤ LIM := Nat.le_trans h (by decide)
theorem values_eq {fu : Nat} {f : S_api_Fate} (hf : 3 < fu) : fate_Values.f fu f = some (vals f) := by
  unfold fate_Values.f
  have h1 : ((if (if f.Flushed = true then (!decide (f.Sent = f.Lasts)) else false) = true then (if List.length [f.Lasts] + List.length [f.Sent] ≤ LIM then some (([f.Lasts] ++ [f.Sent])) else none) else some ([f.Lasts])) : Option (List Int)) = some (vals1 f) := by
    unfold vals1
    by_cases e : f.Flushed = true ∧ f.Sent ≠ f.Lasts
    · rw [if_pos e, e.1, if_pos rfl, decide_eq_false e.2, if_pos (by decide), if_pos (lim3 (by simp))]
      rfl
    · rw [if_neg e]
      have : ¬ (if f.Flushed = true then (!decide (f.Sent = f.Lasts)) else false) = true := by
        intro q
        by_cases h : f.Flushed = true
        · rw [if_pos h] at q
          exact e ⟨h, by simpa using q⟩
        · rw [if_neg h] at q
          cases q
      rw [if_neg this]
  have hl := vals1_len f
  rw [h1]
  simp only [Option.bind_some]
  rw [contains1_eq (by omega) (by omega)]
  simp only [Option.bind_some]
  unfold vals
  by_cases e : f.Stored ∈ vals1 f
  · rw [decide_eq_true e, if_pos e]
    rfl
  · rw [decide_eq_false e, if_neg e, if_pos (by decide), if_pos (lim3 (by simp only [List.length_cons, List.length_nil]; omega))]
    rfl
theorem rin_eq {fu : Nat} {l : List Int} {j v : Int} (hl : l.length ≤ 100) (hf : l.length < fu) : loopM (rickyardref06_Values.s2 fu (l, j) v) fu (false, 0) = some (decide (v ∈ l)) := by
  refine loopM_run (S := fun i => (decide (v ∈ l.take i), (i : Int))) l.length (by simp) ?_ ?_ hf
  · intro i hi
    unfold rickyardref06_Values.s2
    simp only []
    rw [decide_eq_true (show (i : Int) < (l.length : Int) by omega), if_pos rfl, next64 hi (by omega), take_next hi]
    by_cases e : v ∈ l.take i
    · rw [decide_eq_true e, if_pos rfl, decide_eq_true (List.mem_append_left _ e)]
      rfl
    · rw [decide_eq_false e, if_neg (by decide), if_pos (by omega), ix_nat hi]
      have : (v ∈ l.take i ++ [l[i]]) ↔ l[i] = v := by
        rw [List.mem_append, List.mem_singleton]
        exact ⟨fun h => (h.resolve_left e).symm, fun h => .inr h.symm⟩
      simp only [Option.bind_some, this]
  · unfold rickyardref06_Values.s2
    simp only []
    rw [decide_eq_false (show ¬ ((l.length : Int) < (l.length : Int)) by omega), if_neg (by decide), List.take_length]
theorem rvalues_eq {fu : Nat} {f : S_api_Fate} (hf : 10 < fu) : rickyardref06_Values.f fu f = some (vals f) := by
  unfold rickyardref06_Values.f
  have hl := vals1_len f
  have hv : ∀ (i : Nat), i < 3 → rickyardref05_Value.f fu f (i : Int) = some (if i = 2 then f.Stored else if i = 1 ∧ f.Flushed = true then f.Sent else f.Lasts) := by
    intro i hi
    rw [value_eq (by unfold I64; omega)]
    have : i = 0 ∨ i = 1 ∨ i = 2 := by omega
    rcases this with rfl | rfl | rfl <;> simp
  have : loopM (rickyardref06_Values.s1 fu f) fu ([], 0) = some (vals f) := by
    refine loopM_run (S := fun i => (if i = 0 then [] else if i = 1 then [f.Lasts] else if i = 2 then vals1 f else vals f, (i : Int))) 3 rfl ?_ ?_ (by omega)
    · intro i hi
      have : i = 0 ∨ i = 1 ∨ i = 2 := by omega
      unfold rickyardref06_Values.s1
      simp only []
      rw [decide_eq_true (show (i : Int) < 3 by omega), if_pos rfl, hv i hi, next64 hi (by decide)]
      simp only [Option.bind_some]
      rcases this with rfl | rfl | rfl
      · rw [rin_eq (by simp) (by simp; omega)]
        simp [lim3]
      · rw [rin_eq (by simp) (by simp; omega)]
        simp only [if_false, if_true, show ¬ ((1 : Nat) = 0) from by decide, show ¬ ((1 : Nat) = 2) from by decide, true_and, Option.bind_some, List.mem_singleton]
        unfold vals1
        by_cases h : f.Flushed = true ∧ f.Sent ≠ f.Lasts
        · rw [if_pos h.1, decide_eq_false h.2, if_pos (by decide), if_pos (lim3 (by simp)), if_pos h]
          rfl
        · have : (if f.Flushed = true then f.Sent else f.Lasts) = f.Lasts := by
            by_cases q : f.Flushed = true
            · rw [if_pos q]
              exact Classical.byContradiction fun z => h ⟨q, z⟩
            · rw [if_neg q]
          rw [this, decide_eq_true rfl, if_neg (by decide), if_neg h]
          rfl
      · rw [rin_eq (by show (vals1 f).length ≤ 100; omega) (by show (vals1 f).length < fu; omega)]
        simp only [if_false, if_true, show ¬ ((2 : Nat) = 0) from by decide, show ¬ ((2 : Nat) = 1) from by decide, Option.bind_some]
        unfold vals
        by_cases e : f.Stored ∈ vals1 f
        · rw [decide_eq_true e, if_pos e]
          rfl
        · rw [decide_eq_false e, if_neg e, if_pos (by decide), if_pos (lim3 (by simp only [List.length_cons, List.length_nil]; omega))]
          rfl
    · unfold rickyardref06_Values.s1
      rw [decide_eq_false (show ¬ (((3 : Nat) : Int) < 3) by decide), if_neg (by decide)]
      rfl
  rw [this]
  rfl
def countU (fs : List S_api_Fate) : Nat → Int
  | 0 => 1
  | j + 1 => mnI (countU fs j * ((vals (ix fs (j : Int))).length : Int)) 1099511627776
theorem mnI_le (a b : Int) : mnI a b ≤ b ∧ (0 ≤ a → 0 ≤ b → 0 ≤ mnI a b) := by
  unfold mnI
  split
  · exact ⟨by omega, fun _ h => by omega⟩
  · exact ⟨by omega, fun h _ => by omega⟩
theorem countU_le (fs : List S_api_Fate) : ∀ j, 0 ≤ countU fs j ∧ countU fs j ≤ 1099511627776
  | 0 => ⟨by simp [countU], by simp [countU]⟩
  | j + 1 => by
    have h := countU_le fs j
    have hm := mnI_le (countU fs j * ((vals (ix fs (j : Int))).length : Int)) 1099511627776
    have : 0 ≤ countU fs j * ((vals (ix fs (j : Int))).length : Int) := Int.mul_nonneg h.1 (by omega)
    exact ⟨hm.2 this (by decide), hm.1⟩
theorem count_wrap (fs : List S_api_Fate) (j : Nat) : IntKind.i64.wrap (countU fs j * ((vals (ix fs (j : Int))).length : Int)) = countU fs j * ((vals (ix fs (j : Int))).length : Int) := by
  have h := countU_le fs j
  have h2 := vals_len (ix fs (j : Int))
  have h3 : 0 ≤ countU fs j * ((vals (ix fs (j : Int))).length : Int) := Int.mul_nonneg h.1 (by omega)
  have h4 : countU fs j * ((vals (ix fs (j : Int))).length : Int) ≤ 1099511627776 * 3 := Int.mul_le_mul h.2 (by omega) (by omega) (by decide)
  exact w64 (by omega) (by omega)
theorem fcount_eq {fu n : Nat} {B : Int} {d : Dev} (h : DevOk n B d) (hn : n ≤ 100000) (hf : n + 10 < fu) : fate_Count.f fu d = some (countU (fatesD d) (fatesD d).length) := by
  unfold fate_Count.f
  rw [fates_eq h hn (by omega)]
  have hfl : (fatesD d).length ≤ n := by
    have := fatesU_le d d.cells.length
    have := h.len
    unfold fatesD
    omega
  simp only [Option.bind_some]
  have : loopM (fate_Count.s0 fu (fatesD d)) fu (1, 0) = some (countU (fatesD d) (fatesD d).length) := by
    refine loopM_run (S := fun j => (countU (fatesD d) j, (j : Int))) (fatesD d).length rfl ?_ ?_ (by omega)
    · intro j hj
      unfold fate_Count.s0
      simp only []
      rw [decide_eq_true (show (j : Int) < ((fatesD d).length : Int) by omega), if_pos rfl, if_pos (by omega), values_eq (by omega), next64 hj (by omega)]
      simp only [Option.bind_some]
      rw [count_wrap]
      rfl
    · unfold fate_Count.s0
      simp only []
      rw [decide_eq_false (show ¬ (((fatesD d).length : Int) < ((fatesD d).length : Int)) by omega), if_neg (by decide)]
  rw [this]
  rfl
theorem rcount_eq {fu n : Nat} {B s : Int} {d : Dev} (h : DevOk n B d) (hn : n ≤ 100000) (hf : n + 10 < fu) : rickyardref06_Count.f fu (toM d s) = some (countU (fatesD d) (fatesD d).length) := by
  unfold rickyardref06_Count.f
  rw [rfates_eq h hn (by omega)]
  have hfl : (fatesD d).length ≤ n := by
    have := fatesU_le d d.cells.length
    have := h.len
    unfold fatesD
    omega
  simp only [Option.bind_some]
  have : loopM (rickyardref06_Count.s0 fu (fatesD d)) fu (1, 0) = some (countU (fatesD d) (fatesD d).length) := by
    refine loopM_run (S := fun j => (countU (fatesD d) j, (j : Int))) (fatesD d).length rfl ?_ ?_ (by omega)
    · intro j hj
      unfold rickyardref06_Count.s0
      simp only []
      rw [decide_eq_true (show (j : Int) < ((fatesD d).length : Int) by omega), if_pos rfl, if_pos (by omega), rvalues_eq (by omega), next64 hj (by omega)]
      simp only [Option.bind_some]
      rw [count_wrap]
      show _ = some (Sum.inr (mnI (countU (fatesD d) j * ((vals (ix (fatesD d) (j : Int))).length : Int)) 1099511627776, ((j + 1 : Nat) : Int)))
      generalize countU (fatesD d) j * ((vals (ix (fatesD d) (j : Int))).length : Int) = q
      have hm : mnI q 1099511627776 = if q > 1099511627776 then 1099511627776 else q := by
        rfl
      rw [hm]
      by_cases e : q > 1099511627776
      · rw [decide_eq_true e, if_pos rfl, if_pos e]
        rfl
      · rw [decide_eq_false e, if_neg (by decide), if_neg e]
        rfl
    · unfold rickyardref06_Count.s0
      simp only []
      rw [decide_eq_false (show ¬ (((fatesD d).length : Int) < ((fatesD d).length : Int)) by omega), if_neg (by decide)]
  rw [this]
  rfl
def tupW (i : Int) (d : Dev) (m : Ref) := (i, d.cells, d.plan.list, d.plan.at_, d.off, d.armed, d.left, d.steps, m.Lasts, m.Stored, m.Sent, m.Flushed, m.Plan, m.Since, m.Left, m.Steps)
/-- A device, and the document's, behind some acts. -/
theorem made_eq {lines : Int} {acts : List S_rickyardlaw05_Act} (hl : 0 ≤ lines ∧ lines ≤ 255) (hacts : ∀ x ∈ acts, ok_rickyardlaw05_Act x) : rickyardlaw06_made.f FU lines acts = some (none, none) ∨ ∃ (n : Nat) (d : Dev) (s : Int), n ≤ 24 ∧ DevOk n 40 d ∧ 0 ≤ s ∧ s ≤ 40 ∧ Since d s ∧ rickyardlaw06_made.f FU lines acts = some (some d, some (toM d s)) := by
  unfold rickyardlaw06_made.f
  have hw : Int.tmod (IntKind.i64.wrap lines) 4 = ((lines % 4).toNat : Int) := by
    rw [w64 (by omega) (by omega), Int.tmod_eq_emod_of_nonneg hl.1]
    omega
  have hk : (lines % 4).toNat ≤ 3 := by omega
  rw [hw]
  generalize (lines % 4).toNat = k at *
  have hnew : pmem_New.f FU (k : Int) = some (some (newD (8 * k)), 0) := new_eq (by omega)
  have hrn : rickyardref05_New.f FU (k : Int) = some (toM (newD (8 * k)) 0) := rnew_eq (by omega)
  have hsm : rickyardlaw05_Small.f FU acts 40 = some (decide (Small acts 40)) := small_eq (m := 40) (by decide) (by decide)
  rw [hnew, hsm, hrn]
  simp only [Option.bind_some, Option.elim_some]
  by_cases hS : Small acts 40
  rotate_left
  · rw [decide_eq_false hS]
    exact .inl rfl
  right
  rw [decide_eq_true hS, if_neg (by decide)]
  have hokA : ∀ a ∈ acts, okA a := fun a h => okA_of (hacts a h) (hS.2 a h)
  have hd0 := newD_ok (8 * k)
  have loop : ∃ e, loopM (rickyardlaw06_made.s0 FU acts) FU (tupW 0 (newD (8 * k)) (toM (newD (8 * k)) 0)) = some e ∧ ∃ (d : Dev) (s : Int), e = (d.cells, d.plan.list, d.plan.at_, d.off, d.armed, d.left, d.steps, (toM d s).Lasts, (toM d s).Stored, (toM d s).Sent, (toM d s).Flushed, (toM d s).Plan, (toM d s).Since, (toM d s).Left, (toM d s).Steps) ∧ DevOk (8 * k) 40 d ∧ 0 ≤ s ∧ s ≤ 40 ∧ Since d s := by
    refine loopM_inv (fun j z => ∃ (d : Dev) (s : Int), z = tupW (j : Int) d (toM d s) ∧ DevOk (8 * k) (j : Int) d ∧ 0 ≤ s ∧ s ≤ (j : Int) ∧ Since d s) acts.length _ ?_ ?_ (j := 0) ⟨_, 0, rfl, hd0, by omega, by omega, fun h => absurd rfl h⟩ (by omega) (by have := hS.1; show _ < 200000; omega)
    · rintro j _ hj ⟨d, s, rfl, hd, hs0, hs1, hsi⟩
      have hS1 := hS.1
      have c1 : 0 ≤ (j : Int) ∧ (j : Int) < (acts.length : Int) := by omega
      have hoa := hokA _ (List.getElem_mem hj)
      have hdo : rickyardlaw05_Do.f FU d acts[j] = some ((doD d acts[j]).1.1, (doD d acts[j]).1.2, (doD d acts[j]).2) := do_eq hd (by omega) (by omega) hoa (by show _ < 200000; omega)
      have hre : rickyardlaw05_Refs.f FU (toM d s) acts[j] = some ((doD d acts[j]).1.1, (doD d acts[j]).1.2, toM (doD d acts[j]).2 (since d acts[j] s)) := refs_eq hd (by omega) (by omega) hoa (by show _ < 200000; omega) (by omega) hsi
      have hd3 := do_ok hd hoa
      have hs3 := since_do (a := acts[j]) hsi
      have hs4 := since_le (d := d) (a := acts[j]) hs0
      unfold rickyardlaw06_made.s0 tupW
      simp only [eta, eta8]
      rw [decide_eq_true c1.2, if_pos rfl, if_pos c1, ix_nat hj, next64 hj (by omega), hdo]
      simp only [Option.bind_some]
      rw [if_pos c1, hre]
      exact ⟨_, rfl, (doD d acts[j]).2, since d acts[j] s, rfl, hd3.up (by omega), by omega, by omega, hs3⟩
    · rintro _ ⟨d, s, rfl, hd, hs0, hs1, hsi⟩
      have hS1 := hS.1
      unfold rickyardlaw06_made.s0 tupW
      rw [decide_eq_false (show ¬ ((acts.length : Int) < (acts.length : Int)) by omega), if_neg (by decide)]
      exact ⟨_, rfl, d, s, rfl, hd.up (by omega), hs0, by omega, hsi⟩
  obtain ⟨e, h1, d, s, rfl, hd, hs0, hs1, hsi⟩ := loop
  unfold tupW at h1
  rw [h1]
  exact ⟨8 * k, d, s, by omega, hd, hs0, hs1, hsi, rfl⟩
end Go.Proofs.Ytklhbaghbmndeaa.Pure

/- A device of octets. -/
set_option linter.unusedVariables false
set_option linter.unusedSimpArgs false
namespace Go.Proofs.Ytklhbaghbmndeaa.Pure
open Go Go.Xw
theorem read_long {fu : Nat} {l : List Int} (h : 8 ≤ l.length) : octet_Read.f fu l = octet_Read.f fu (l.take 8) := by
  have h8 : (l.take 8).length = 8 := by rw [List.length_take]; omega
  have e1 : mnI (l.length : Int) 8 = 8 := by unfold mnI; split <;> omega
  have e2 : mnI ((l.take 8).length : Int) 8 = 8 := by rw [h8]; rfl
  have e3 : cut l 0 8 = l.take 8 := rfl
  have e4 : cut (l.take 8) 0 8 = l.take 8 := by
    unfold cut
    rw [List.take_of_length_le (by rw [h8]; decide)]
    rfl
  have es : octet_Read.s0 fu l = octet_Read.s0 fu (l.take 8) := by
    unfold octet_Read.s0
    rw [e1, e2, e3, e4]
  unfold octet_Read.f
  rw [e1, e2, es, if_pos (by omega), if_pos (by rw [h8]; decide)]
def wordsU (l : List Int) (j : Nat) : List Int := (List.range j).map fun i => ((num ((l.drop (8 * i)).take 8) : Nat) : Int)
theorem wordsU_succ (l : List Int) (j : Nat) : wordsU l (j + 1) = wordsU l j ++ [((num ((l.drop (8 * j)).take 8) : Nat) : Int)] := by
  simp [wordsU, List.range_succ]
theorem wordsU_len (l : List Int) (j : Nat) : (wordsU l j).length = j := by simp [wordsU]
theorem chunk_len {l : List Int} {j : Nat} (h : 8 * j + 8 ≤ l.length) : ((l.drop (8 * j)).take 8).length = 8 := by
  rw [List.length_take, List.length_drop]
  omega
theorem octs_words {l : List Int} (hb : Bytes l) : ∀ j, 8 * j ≤ l.length → octs (wordsU l j) = l.take (8 * j)
  | 0, _ => by simp [wordsU, octs]
  | j + 1, h => by
    have hc : ((l.drop (8 * j)).take 8).length = 8 := chunk_len (by omega)
    have hl := lay_num ((hb.drop (8 * j)).take 8)
    rw [hc] at hl
    rw [wordsU_succ, octs_append, octs_one, octs_words hb j (by omega), Int.toNat_natCast, hl, show 8 * (j + 1) = 8 * j + 8 from by omega, List.take_add]
theorem words_U64 {l : List Int} (hb : Bytes l) {n : Nat} : ∀ w ∈ wordsU l n, U64 w := by
  intro w hw
  obtain ⟨i, _, rfl⟩ := List.mem_map.1 hw
  have := num_lt8 ((hb.drop (8 * i)).take 8) (by rw [List.length_take]; omega)
  unfold U64
  omega
theorem words_eq {fu n : Nat} {l : List Int} (hb : Bytes l) (hl : l.length = 8 * n) (hn : n ≤ 100000) (hf : n + 8 < fu) : octet_Words.f fu l = some (wordsU l n) := by
  unfold octet_Words.f
  have : loopM (octet_Words.s0 fu) fu (l, []) = some (wordsU l n) := by
    refine loopM_run (S := fun j => (l.drop (8 * j), wordsU l j)) n (by simp [wordsU]) ?_ ?_ (by omega)
    · intro j hj
      unfold octet_Words.s0
      have hdl : (l.drop (8 * j)).length = 8 * n - 8 * j := by rw [List.length_drop, hl]
      have c1 : ((l.drop (8 * j)).length : Int) ≥ 8 := by omega
      have hc : ((l.drop (8 * j)).take 8).length = 8 := chunk_len (by omega)
      have hr : octet_Read.f fu (l.drop (8 * j)) = some ((num ((l.drop (8 * j)).take 8) : Nat) : Int) := by
        rw [read_long (by omega)]
        exact read_eq ((hb.drop _).take _) (by omega) (by omega)
      have e1 : cut (l.drop (8 * j)) 8 ((l.drop (8 * j)).length : Int) = l.drop (8 * (j + 1)) := by
        unfold cut
        rw [Int.toNat_natCast, List.take_length, show Int.toNat 8 = 8 from rfl, List.drop_drop]
        congr 1
      simp only [e1]
      rw [decide_eq_true c1, if_pos rfl, hr]
      simp only [Option.bind_some]
      rw [if_pos (by rw [wordsU_len]; exact Nat.le_trans (by simp only [List.length_cons, List.length_nil]; omega : _ ≤ 100001) (by decide)), if_pos c1, wordsU_succ]
    · unfold octet_Words.s0
      have : ¬ (((l.drop (8 * n)).length : Int) ≥ 8) := by rw [List.length_drop]; omega
      simp only [this, decide_false, Bool.false_eq_true, if_false]
  rw [this]
  rfl
def wordC (w : Int) : Cell := ⟨w, w, 0, false⟩
def fromD (l : List Int) : Dev := ⟨(wordsU l (8 * (l.length / 64))).map wordC, ⟨[], 0⟩, false, false, 0, 0⟩
theorem wordsU_take {l : List Int} {n : Nat} : ∀ j, 8 * j ≤ n → wordsU (l.take n) j = wordsU l j
  | 0, _ => rfl
  | j + 1, h => by
    rw [wordsU_succ, wordsU_succ, wordsU_take j (by omega)]
    congr 4
    rw [List.drop_take, List.take_take, Nat.min_eq_left (by omega)]
theorem from_eq {fu : Nat} {l : List Int} (hb : Bytes l) (hl : l.length ≤ 100000) (hf : l.length + 8 < fu) : pmem_From.f fu l = some (fromD l) := by
  unfold pmem_From.f
  have hd : l.length / 64 ≤ 1562 := by omega
  have e0 : Int.tdiv (l.length : Int) 64 = ((l.length / 64 : Nat) : Int) := by
    rw [Int.tdiv_eq_ediv_of_nonneg (by omega)]
    omega
  have e1 : mnI (IntKind.i64.wrap (Int.tdiv (l.length : Int) 64)) 4096 = ((l.length / 64 : Nat) : Int) := by
    rw [e0, w64 (by omega) (by omega)]
    unfold mnI
    split <;> omega
  have e2 : IntKind.i64.wrap (((l.length / 64 : Nat) : Int) * 64) = ((64 * (l.length / 64) : Nat) : Int) := by rw [w64 (by omega) (by omega)]; omega
  rw [e1, e2, if_pos (by omega)]
  have e3 : cut l 0 ((64 * (l.length / 64) : Nat) : Int) = l.take (64 * (l.length / 64)) := by
    unfold cut
    rw [Int.toNat_natCast]
    rfl
  have hwo : octet_Words.f fu (l.take (64 * (l.length / 64))) = some (wordsU l (8 * (l.length / 64))) := by
    rw [words_eq (n := 8 * (l.length / 64)) (hb.take _) (by rw [List.length_take]; omega) (by omega) (by omega), wordsU_take _ (by omega)]
  rw [e3, hwo]
  simp only [Option.bind_some]
  generalize hW : wordsU l (8 * (l.length / 64)) = ws
  have hwl : ws.length = 8 * (l.length / 64) := by rw [← hW, wordsU_len]
  have : loopM (pmem_From.s0 fu ws) fu (0, []) = some (ws.map wordC) := by
    refine loopM_run (S := fun j => ((j : Int), (ws.take j).map wordC)) ws.length (by simp) ?_ ?_ (by omega)
    · intro j hj
      unfold pmem_From.s0
      have c1 : 0 ≤ (j : Int) ∧ (j : Int) < (ws.length : Int) := by omega
      have hlim : List.length ((ws.take j).map wordC) + List.length [(⟨(ix ws (j : Int)), (ix ws (j : Int)), (0 : Int), false⟩ : S_pmem_cell)] ≤ LIM := by
        rw [List.length_map, List.length_take]
        exact Nat.le_trans (by simp only [List.length_cons, List.length_nil]; omega : _ ≤ 100001) (by decide)
      simp only []
      rw [decide_eq_true c1.2, if_pos rfl, if_pos c1, if_pos hlim, next64 hj (by omega), ix_nat hj, take_next hj, List.map_append]
      rfl
    · unfold pmem_From.s0
      rw [decide_eq_false (show ¬ ((ws.length : Int) < (ws.length : Int)) by omega), if_neg (by decide), List.take_length]
  rw [this]
  unfold fromD
  rw [hW]
  rfl
theorem from_ok {l : List Int} (hb : Bytes l) : DevOk (8 * (l.length / 64)) 0 (fromD l) := by
  refine ⟨by simp [fromD, wordsU], fun c hc => ?_, fun h => absurd rfl h, by simp [fromD], fun h => (by cases h), fun _ => rfl, by simp [fromD]⟩
  obtain ⟨w, hw, rfl⟩ := List.mem_map.1 hc
  have := words_U64 hb w hw
  exact ⟨this, this, by unfold U64; simp [wordC]⟩
theorem from_lasts (l : List Int) : lastsD (fromD l) = wordsU l (8 * (l.length / 64)) := by
  simp [lastsD, fromD, wordC, Function.comp_def]
theorem from_stored (l : List Int) : storedD (fromD l) = wordsU l (8 * (l.length / 64)) := by
  simp [storedD, fromD, wordC, Function.comp_def]
theorem from_shut {l : List Int} (c : Cell) (hc : c ∈ (fromD l).cells) : openC c = false := by
  obtain ⟨w, hw, rfl⟩ := List.mem_map.1 hc
  simp [openC, wordC]
end Go.Proofs.Ytklhbaghbmndeaa.Pure

/- Lists that are alike. -/
set_option linter.unusedVariables false
set_option linter.unusedSimpArgs false
namespace Go.Proofs.Ytklhbaghbmndeaa.Pure
open Go Go.Xw
theorem ix_ext {a b : List Int} (hl : a.length = b.length) (h : ∀ j, j < a.length → ix a (j : Int) = ix b (j : Int)) : a = b := by
  apply List.ext_getElem hl
  intro i h1 h2
  rw [← ix_nat h1, ← ix_nat h2]
  exact h i h1
theorem ints2_eq {fu : Nat} {a b : List Int} (ha : a.length ≤ 9000000000000000000) (hf : a.length < fu) : rickyardref01_Ints.f fu a b = some (decide (a = b)) := by
  unfold rickyardref01_Ints.f
  by_cases hl : a.length = b.length
  · have hL : (a.length : Int) = (b.length : Int) := by omega
    rw [decide_eq_true hL]
    simp only [Bool.not_true, Bool.false_eq_true, if_false]
    have hs : ∀ j : Nat, j < a.length → rickyardref01_Ints.s0 fu a b (j : Int) = some (if ix a (j : Int) = ix b (j : Int) then .inr ((j + 1 : Nat) : Int) else .inl (.inl false)) := by
      intro j hj
      unfold rickyardref01_Ints.s0
      have h1 : (j : Int) < (a.length : Int) := by omega
      have h2 : (j : Int) < (b.length : Int) := by omega
      have c0 : 0 ≤ (j : Int) := by omega
      have w3 : IntKind.i64.wrap ((j : Int) + 1) = ((j + 1 : Nat) : Int) := by rw [w64 (by omega) (by omega)]; omega
      simp only [h1, h2, c0, and_self, decide_true, if_true, w3]
      by_cases e : ix a (j : Int) = ix b (j : Int) <;> simp [e]
    by_cases h : a = b
    · have : loopM (rickyardref01_Ints.s0 fu a b) fu 0 = some (.inr ()) := by
        refine loopM_run (S := fun j => (j : Int)) a.length rfl (fun j hj => by rw [hs j hj, if_pos (by rw [h])]) ?_ hf
        unfold rickyardref01_Ints.s0
        simp
      rw [this]
      simp [h]
    · have : loopM (rickyardref01_Ints.s0 fu a b) fu 0 = some (.inl false) := by
        refine loopM_bad (S := fun j => (j : Int)) a.length (fun j => ix a (j : Int) = ix b (j : Int)) rfl ?_ (fun j hj _ hg => by rw [hs j hj, if_pos hg]) (fun j hj _ hg => by rw [hs j hj, if_neg hg]) hf
        apply Classical.byContradiction
        intro hx
        exact h (ix_ext hl fun i hi => Classical.byContradiction fun hg => hx ⟨i, hi, hg⟩)
      rw [this]
      simp [h]
  · have hL : ¬ (a.length : Int) = (b.length : Int) := by omega
    have h : ¬ a = b := fun e => hl (by rw [e])
    rw [decide_eq_false hL, decide_eq_false h]
    rfl
theorem equal_eq {fu : Nat} {a b : List Int} (ha : a.length ≤ 9000000000000000000) (hf : a.length < fu) : slices_Equal.f fu a b = some (decide (a = b)) := by
  unfold slices_Equal.f
  by_cases hl : a.length = b.length
  · have hL : (a.length : Int) = (b.length : Int) := by omega
    rw [decide_eq_true hL]
    simp only [Bool.not_true, Bool.false_eq_true, if_false]
    have hs : ∀ j : Nat, j < a.length → slices_Equal.s0 fu a b (j : Int) = some (if ix a (j : Int) = ix b (j : Int) then .inr ((j + 1 : Nat) : Int) else .inl (.inl false)) := by
      intro j hj
      unfold slices_Equal.s0
      have h1 : (j : Int) < (a.length : Int) := by omega
      have h2 : (j : Int) < (b.length : Int) := by omega
      have c0 : 0 ≤ (j : Int) := by omega
      have w3 : IntKind.i64.wrap ((j : Int) + 1) = ((j + 1 : Nat) : Int) := by rw [w64 (by omega) (by omega)]; omega
      simp only [h1, h2, c0, and_self, decide_true, if_true, w3]
      by_cases e : ix a (j : Int) = ix b (j : Int) <;> simp [e]
    by_cases h : a = b
    · have : loopM (slices_Equal.s0 fu a b) fu 0 = some (.inr ()) := by
        refine loopM_run (S := fun j => (j : Int)) a.length rfl (fun j hj => by rw [hs j hj, if_pos (by rw [h])]) ?_ hf
        unfold slices_Equal.s0
        simp
      rw [this]
      simp [h]
    · have : loopM (slices_Equal.s0 fu a b) fu 0 = some (.inl false) := by
        refine loopM_bad (S := fun j => (j : Int)) a.length (fun j => ix a (j : Int) = ix b (j : Int)) rfl ?_ (fun j hj _ hg => by rw [hs j hj, if_pos hg]) (fun j hj _ hg => by rw [hs j hj, if_neg hg]) hf
        apply Classical.byContradiction
        intro hx
        exact h (ix_ext hl fun i hi => Classical.byContradiction fun hg => hx ⟨i, hi, hg⟩)
      rw [this]
      simp [h]
  · have hL : ¬ (a.length : Int) = (b.length : Int) := by omega
    have h : ¬ a = b := fun e => hl (by rw [e])
    rw [decide_eq_false hL, decide_eq_false h]
    rfl
end Go.Proofs.Ytklhbaghbmndeaa.Pure

/- By which choices an image is left. -/
set_option linter.unusedVariables false
set_option linter.unusedSimpArgs false
namespace Go.Proofs.Ytklhbaghbmndeaa.Pure
open Go Go.Xw
def choiceC (c : Cell) (w : Int) : Int := if w = c.lasts then 0 else if c.flushed = true ∧ w = c.sent then 1 else if w = c.stored then 2 else -1
theorem choice_eq {fu : Nat} {d : Dev} {p : Nat} {w : Int} : fate_choice.f fu (fateD d p) w = some (choiceC (ix d.cells (p : Int)) w) := by
  unfold fate_choice.f choiceC fateD
  simp only []
  generalize ix d.cells (p : Int) = c
  by_cases h1 : w = c.lasts
  · rw [decide_eq_true h1, if_pos rfl, if_pos h1]
  · rw [decide_eq_false h1, if_neg (by decide), if_neg h1]
    by_cases h2 : c.flushed = true ∧ w = c.sent
    · rw [if_pos h2.1, decide_eq_true h2.2, if_pos rfl, if_pos h2]
    · have : ¬ (if c.flushed = true then (decide (w = c.sent)) else false) = true := by
        intro q
        by_cases h : c.flushed = true
        · rw [if_pos h] at q
          exact h2 ⟨h, by simpa using q⟩
        · rw [if_neg h] at q
          cases q
      rw [if_neg this, if_neg h2]
      by_cases h3 : w = c.stored
      · rw [decide_eq_true h3, if_pos rfl, if_pos h3]
      · rw [decide_eq_false h3, if_neg (by decide), if_neg h3]
theorem choice_fate {c : Cell} {w : Int} (h : 0 ≤ choiceC c w) : fateC c (choiceC c w) = w ∧ choiceC c w ≤ 2 := by
  unfold choiceC at *
  by_cases h1 : w = c.lasts
  · rw [if_pos h1]
    exact ⟨by rw [h1]; rfl, by decide⟩
  · rw [if_neg h1] at h ⊢
    by_cases h2 : c.flushed = true ∧ w = c.sent
    · rw [if_pos h2]
      refine ⟨?_, by decide⟩
      unfold fateC
      rw [if_neg (by decide), if_pos ⟨by decide, h2.1⟩, h2.2]
    · rw [if_neg h2] at h ⊢
      by_cases h3 : w = c.stored
      · rw [if_pos h3]
        exact ⟨by rw [h3]; rfl, by decide⟩
      · rw [if_neg h3] at h
        exact absurd h (by decide)
theorem choice_of {c : Cell} {w n : Int} (h : fateC c n = w) : 0 ≤ choiceC c w := by
  unfold choiceC fateC at *
  by_cases h1 : w = c.lasts
  · rw [if_pos h1]; decide
  · rw [if_neg h1]
    split at h
    · by_cases h2 : c.flushed = true ∧ w = c.sent
      · rw [if_pos h2]; decide
      · rw [if_neg h2, if_pos h.symm]; decide
    · split at h
      · rename_i q
        rw [if_pos ⟨q.2, h.symm⟩]; decide
      · exact absurd h.symm h1
/-- The words behind the first j choices. -/
def Wj (d : Dev) (v : List Int) (j : Nat) : List Int := (List.range d.cells.length).map fun (p : Nat) => if openC (ix d.cells (p : Int)) = true ∧ opens d.cells p < j then ix v (p : Int) else (ix d.cells (p : Int)).lasts
theorem Wj_len (d : Dev) (v : List Int) (j : Nat) : (Wj d v j).length = d.cells.length := by simp [Wj]
theorem Wj_at (d : Dev) (v : List Int) (j : Nat) {p : Nat} (hp : p < d.cells.length) : ix (Wj d v j) (p : Int) = if openC (ix d.cells (p : Int)) = true ∧ opens d.cells p < j then ix v (p : Int) else (ix d.cells (p : Int)).lasts := by
  rw [ix_nat (by rw [Wj_len]; exact hp)]
  simp [Wj]
theorem Wj_zero (d : Dev) (v : List Int) : Wj d v 0 = lastsD d := by
  apply List.ext_getElem (by simp [Wj, lastsD])
  intro p h1 h2
  have hp : p < d.cells.length := by rw [Wj_len] at h1; exact h1
  rw [← ix_nat h1, Wj_at d v 0 hp, if_neg (fun q => by omega), ix_nat hp]
  simp [lastsD]
theorem Wj_next (d : Dev) (v : List Int) {j p : Nat} (hp : p < d.cells.length) (ho : openC (ix d.cells (p : Int)) = true) (hj : opens d.cells p = j) : (Wj d v j).set p (ix v (p : Int)) = Wj d v (j + 1) := by
  apply List.ext_getElem (by rw [List.length_set, Wj_len, Wj_len])
  intro q h1 h2
  have hq : q < d.cells.length := by rw [Wj_len] at h2; exact h2
  rw [List.getElem_set, ← ix_nat h2, Wj_at d v (j + 1) hq]
  by_cases e : p = q
  · subst e
    rw [if_pos rfl, if_pos ⟨ho, by omega⟩]
  · rw [if_neg e, ← ix_nat (by rw [Wj_len]; exact hq), Wj_at d v j hq]
    by_cases hoq : openC (ix d.cells (q : Int)) = true
    · have : opens d.cells q ≠ j := fun z => e (opens_inj hp hq ho hoq (by omega))
      by_cases hlt : opens d.cells q < j
      · rw [if_pos ⟨hoq, hlt⟩, if_pos ⟨hoq, by omega⟩]
      · rw [if_neg fun z => hlt z.2, if_neg fun z => by omega]
    · rw [if_neg fun z => hoq z.1, if_neg fun z => hoq z.1]
def wordOf (v : List Int) (f : S_api_Fate) : Int := ix v f.At
def choiceF (f : S_api_Fate) (w : Int) : Int := choiceC ⟨f.Lasts, f.Stored, f.Sent, f.Flushed⟩ w
theorem choiceF_fate (d : Dev) (p : Nat) (w : Int) : choiceF (fateD d p) w = choiceC (ix d.cells (p : Int)) w := rfl
def chs (d : Dev) (v : List Int) (j : Nat) : List Int := ((fatesD d).take j).map fun f => choiceF f (wordOf v f)
theorem chs_next (d : Dev) (v : List Int) {j : Nat} (hj : j < (fatesD d).length) : chs d v (j + 1) = chs d v j ++ [choiceF (ix (fatesD d) (j : Int)) (wordOf v (ix (fatesD d) (j : Int)))] := by
  unfold chs
  rw [take_next hj, List.map_append, ix_nat hj]
  rfl
theorem chs_len (d : Dev) (v : List Int) (j : Nat) (hj : j ≤ (fatesD d).length) : (chs d v j).length = j := by
  unfold chs
  rw [List.length_map, List.length_take]
  omega
def goodJ (d : Dev) (v : List Int) (j : Nat) : Prop := 0 ≤ choiceF (ix (fatesD d) (j : Int)) (wordOf v (ix (fatesD d) (j : Int)))
theorem choose_step {fu n j : Nat} {B : Int} {d : Dev} {v : List Int} (h : DevOk n B d) (hn : n ≤ 10000) (hf : n + 10 < fu) (hv : v.length = n) (hu : ∀ w ∈ v, U64 w) (hj : j < (fatesD d).length) :
    fate_Choose.s0 fu (octs v) (fatesD d) (chs d v j, (j : Int), octs (Wj d v j)) = some (if choiceF (ix (fatesD d) (j : Int)) (wordOf v (ix (fatesD d) (j : Int))) < 0 then .inl (.inl ([], false)) else .inr (chs d v (j + 1), ((j + 1 : Nat) : Int), octs (Wj d v (j + 1)))) := by
  have hlen := h.len
  have hfl : (fatesD d).length ≤ n := by
    have := fatesU_le d d.cells.length
    unfold fatesD
    omega
  obtain ⟨p, hp, ho, hop, hfa⟩ := fates_at d d.cells.length (Nat.le_refl _) j hj
  have hfa' : ix (fatesD d) (j : Int) = fateD d p := hfa
  rw [chs_next d v hj, ← Wj_next d v hp ho hop, hfa']
  have a1 : (fateD d p).At = (p : Int) := rfl
  have a3 : choiceF (fateD d p) (wordOf v (fateD d p)) = choiceC (ix d.cells (p : Int)) (ix v (p : Int)) := rfl
  rw [a3]
  have w1 : IntKind.i64.wrap ((p : Int) * 8) = ((8 * p : Nat) : Int) := by rw [w64 (by omega) (by omega)]; omega
  have w2 : IntKind.i64.wrap (((8 * p : Nat) : Int) + 8) = ((8 * p + 8 : Nat) : Int) := by rw [w64 (by omega) (by omega)]; omega
  have hvl : (octs v).length = 8 * n := by rw [octs_len, hv]
  have hwl : (octs (Wj d v j)).length = 8 * n := by rw [octs_len, Wj_len, hlen]
  have hup : U64 (ix v (p : Int)) := by
    rw [ix_nat (by omega)]
    exact hu _ (List.getElem_mem _)
  have hrd : octet_Read.f fu (cut (octs v) ((8 * p : Nat) : Int) ((8 * p + 8 : Nat) : Int)) = some (ix v (p : Int)) := by
    rw [octs_at _ (by omega), read_eq (lay_bytes _ _) (by rw [lay_len]; exact Nat.le_refl _) (by rw [lay_len]; omega), num_lay]
    have hlt : (ix v (p : Int)).toNat < 256 ^ 8 := by
      have : (256 : Nat) ^ 8 = 18446744073709551616 := by decide
      unfold U64 at hup
      omega
    rw [Nat.mod_eq_of_lt hlt]
    congr 1
    unfold U64 at hup
    omega
  unfold fate_Choose.s0
  simp only [hfa', a1, w1, w2]
  rw [decide_eq_true (show (j : Int) < ((fatesD d).length : Int) by omega), if_pos rfl, if_pos (by omega), if_pos (by omega), hrd]
  simp only [Option.bind_some]
  rw [choice_eq]
  simp only [Option.bind_some]
  by_cases hc : choiceC (ix d.cells (p : Int)) (ix v (p : Int)) < 0
  · rw [decide_eq_true hc, if_pos rfl, if_pos hc]
  · have hlim : List.length (chs d v j) + List.length [choiceC (ix d.cells (p : Int)) (ix v (p : Int))] ≤ LIM := by
      rw [chs_len d v j (by omega)]
      exact Nat.le_trans (by simp only [List.length_cons, List.length_nil]; omega : _ ≤ 10001) (by decide)
    rw [decide_eq_false hc, if_neg (by decide), if_neg hc, if_pos hlim, if_pos (by omega), Int.toNat_natCast, if_pos ⟨by omega, Nat.le_refl _⟩, octs_at v (by omega), List.take_of_length_le (by rw [lay_len]; omega), octs_set _ (by rw [Wj_len]; exact hp), next64 hj (by omega)]
def val3 (c : Cell) (m : Nat) : Int := if m = 2 then c.stored else if m = 1 ∧ c.flushed = true then c.sent else c.lasts
def stN (c : Cell) (w : Int) (p : Nat) (W : List Int) : Nat → Int × List Int
  | 0 => (-1, W)
  | m + 1 => if val3 c (2 - m) = w then (((2 - m : Nat) : Int), W.set p w) else stN c w p W m
theorem stN_snd (c : Cell) (w : Int) (p : Nat) (W : List Int) : ∀ m, (stN c w p W m).2 = if (stN c w p W m).1 < 0 then W else W.set p w
  | 0 => rfl
  | m + 1 => by
    unfold stN
    split
    · rw [if_neg (by show ¬ ((2 - m : Nat) : Int) < 0; omega)]
    · exact stN_snd c w p W m
theorem stN_set (c : Cell) (w : Int) (p : Nat) (W : List Int) (m : Nat) : (stN c w p W m).2.set p w = W.set p w ∧ (stN c w p W m).2.length = W.length := by
  rw [stN_snd]
  split
  · exact ⟨rfl, rfl⟩
  · exact ⟨List.set_set .., List.length_set⟩
theorem stN_three (c : Cell) (w : Int) (p : Nat) (W : List Int) : (stN c w p W 3).1 = choiceC c w := by
  unfold choiceC
  have e3 : stN c w p W 3 = if val3 c 0 = w then (0, W.set p w) else stN c w p W 2 := rfl
  have e2 : stN c w p W 2 = if val3 c 1 = w then (1, W.set p w) else stN c w p W 1 := rfl
  have e1 : stN c w p W 1 = if val3 c 2 = w then (2, W.set p w) else (-1, W) := rfl
  have v0 : val3 c 0 = c.lasts := rfl
  have v1 : val3 c 1 = if c.flushed = true then c.sent else c.lasts := by simp [val3]
  have v2 : val3 c 2 = c.stored := rfl
  rw [e3, e2, e1, v0, v1, v2]
  by_cases h1 : w = c.lasts
  · rw [if_pos h1.symm, if_pos h1]
  · rw [if_neg (fun q => h1 q.symm), if_neg h1]
    by_cases hf : c.flushed = true
    · rw [if_pos hf]
      by_cases h2 : w = c.sent
      · rw [if_pos h2.symm, if_pos ⟨hf, h2⟩]
      · rw [if_neg (fun q => h2 q.symm), if_neg (show ¬ (c.flushed = true ∧ w = c.sent) from fun q => h2 q.2)]
        by_cases h3 : w = c.stored
        · rw [if_pos h3.symm, if_pos h3]
        · rw [if_neg (fun q => h3 q.symm), if_neg h3]
    · rw [if_neg hf, if_neg (fun q => h1 q.symm), if_neg (show ¬ (c.flushed = true ∧ w = c.sent) from fun q => hf q.1)]
      by_cases h3 : w = c.stored
      · rw [if_pos h3.symm, if_pos h3]
      · rw [if_neg (fun q => h3 q.symm), if_neg h3]
theorem lay_inj {a b : Int} (ha : U64 a) (hb : U64 b) (h : lay a.toNat 8 = lay b.toNat 8) : a = b := by
  have := congrArg num h
  rw [num_lay, num_lay] at this
  have e : (256 : Nat) ^ 8 = 18446744073709551616 := by decide
  unfold U64 at ha hb
  rw [Nat.mod_eq_of_lt (by omega), Nat.mod_eq_of_lt (by omega)] at this
  omega
theorem octs_inj {a b : List Int} (hl : a.length = b.length) (ha : ∀ w ∈ a, U64 w) (hb : ∀ w ∈ b, U64 w) (h : octs a = octs b) : a = b := by
  apply List.ext_getElem hl
  intro p h1 h2
  have e : lay (ix a (p : Int)).toNat 8 = lay (ix b (p : Int)).toNat 8 := by rw [← octs_at a h1, ← octs_at b h2, h]
  rw [ix_nat h1, ix_nat h2] at e
  exact lay_inj (ha _ (List.getElem_mem _)) (hb _ (List.getElem_mem _)) e
theorem cut_map {α β : Type} (f : α → β) (l : List α) (i j : Int) : cut (l.map f) i j = (cut l i j).map f := by
  unfold cut
  rw [← List.map_take, ← List.map_drop]
theorem rchoose_step {fu n j : Nat} {B : Int} {d : Dev} {v : List Int} (h : DevOk n B d) (hn : n ≤ 10000) (hf : n + 10 < fu) (hv : v.length = n) (hu : ∀ w ∈ v, U64 w) (hj : j < (fatesD d).length) :
    rickyardref06_Choose.s2 fu ((octs v).map toB) (fatesD d) (chs d v j, (j : Int), Wj d v j) = some (if choiceF (ix (fatesD d) (j : Int)) (wordOf v (ix (fatesD d) (j : Int))) < 0 then .inl (.inl ([], false)) else .inr (chs d v (j + 1), ((j + 1 : Nat) : Int), Wj d v (j + 1))) := by
  have hlen := h.len
  have hfl : (fatesD d).length ≤ n := by
    have := fatesU_le d d.cells.length
    unfold fatesD
    omega
  obtain ⟨p, hp, ho, hop, hfa⟩ := fates_at d d.cells.length (Nat.le_refl _) j hj
  have hfa' : ix (fatesD d) (j : Int) = fateD d p := hfa
  rw [chs_next d v hj, ← Wj_next d v hp ho hop, hfa']
  have a1 : (fateD d p).At = (p : Int) := rfl
  have a3 : choiceF (fateD d p) (wordOf v (fateD d p)) = choiceC (ix d.cells (p : Int)) (ix v (p : Int)) := rfl
  rw [a3]
  have w1 : IntKind.i64.wrap (8 * (p : Int)) = ((8 * p : Nat) : Int) := by rw [w64 (by omega) (by omega)]; omega
  have w2 : IntKind.i64.wrap (((8 * p : Nat) : Int) + 8) = ((8 * p + 8 : Nat) : Int) := by rw [w64 (by omega) (by omega)]; omega
  have hvl : (octs v).length = 8 * n := by rw [octs_len, hv]
  have hup : U64 (ix v (p : Int)) := by
    rw [ix_nat (by omega)]
    exact hu _ (List.getElem_mem _)
  have hcell : okC (ix d.cells (p : Int)) := by
    rw [ix_nat hp]
    exact h.val _ (List.getElem_mem _)
  have c1 : 0 ≤ (j : Int) ∧ (j : Int) < ((fatesD d).length : Int) := by omega
  have inner : loopM (rickyardref06_Choose.s3 fu ((octs v).map toB) (fatesD d) (chs d v j, (j : Int), Wj d v j)) fu (-1, 2, Wj d v j) = some (stN (ix d.cells (p : Int)) (ix v (p : Int)) p (Wj d v j) 3) := by
    refine loopM_run (S := fun m => ((stN (ix d.cells (p : Int)) (ix v (p : Int)) p (Wj d v j) m).1, 2 - (m : Int), (stN (ix d.cells (p : Int)) (ix v (p : Int)) p (Wj d v j) m).2)) 3 rfl ?_ ?_ (by omega)
    · intro m hm
      obtain ⟨k, hk⟩ : ∃ k : Nat, 2 - m = k := ⟨_, rfl⟩
      have hk2 : (2 : Int) - (m : Int) = (k : Int) := by omega
      have hval : rickyardref05_Value.f fu (fateD d p) (k : Int) = some (val3 (ix d.cells (p : Int)) k) := by
        rw [value_fate (by unfold I64; omega)]
        unfold fateC val3
        have : k = 0 ∨ k = 1 ∨ k = 2 := by omega
        rcases this with rfl | rfl | rfl <;> simp
      have huv : U64 (val3 (ix d.cells (p : Int)) k) := by
        unfold val3
        split
        · exact hcell.2.1
        · split
          · exact hcell.2.2
          · exact hcell.1
      have htx : rickyardref05_Text.f fu [val3 (ix d.cells (p : Int)) k] = some ((lay (val3 (ix d.cells (p : Int)) k).toNat 8).map toB) := by
        rw [text_eq (by intro w hw; rw [List.mem_singleton.1 hw]; exact huv) (by simp) (by simp; omega), octs_one]
      have w3 : IntKind.i64.wrap ((k : Int) - 1) = 2 - ((m + 1 : Nat) : Int) := by rw [w64 (by omega) (by omega)]; omega
      have hst := stN_set (ix d.cells (p : Int)) (ix v (p : Int)) p (Wj d v j) m
      have hsn : stN (ix d.cells (p : Int)) (ix v (p : Int)) p (Wj d v j) (m + 1) = if val3 (ix d.cells (p : Int)) k = ix v (p : Int) then ((k : Int), (Wj d v j).set p (ix v (p : Int))) else stN (ix d.cells (p : Int)) (ix v (p : Int)) p (Wj d v j) m := by
        rw [← hk]
        rfl
      unfold rickyardref06_Choose.s3
      simp only [hfa', a1, w1, w2, hk2]
      rw [decide_eq_true (show (k : Int) ≥ 0 by omega), if_pos rfl, if_pos c1, hval, hsn]
      simp only [Option.bind_some]
      rw [htx]
      simp only [Option.bind_some]
      rw [if_pos c1, if_pos c1, List.length_map, if_pos (by omega), cut_map, octs_at v (by omega), w3]
      by_cases e : val3 (ix d.cells (p : Int)) k = ix v (p : Int)
      · rw [e, decide_eq_true rfl, if_pos rfl, if_pos c1, if_pos ⟨by omega, by rw [hst.2, Wj_len]; omega⟩, Int.toNat_natCast, hst.1, if_pos rfl]
        rfl
      · have : ¬ (lay (val3 (ix d.cells (p : Int)) k).toNat 8).map toB = (lay (ix v (p : Int)).toNat 8).map toB := fun q => e (lay_inj huv hup (mapB_inj (lay_bytes _ _) (lay_bytes _ _) q))
        rw [decide_eq_false this, if_neg (by decide), if_neg e]
        rfl
    · unfold rickyardref06_Choose.s3
      rw [decide_eq_false (show ¬ ((2 : Int) - ((3 : Nat) : Int) ≥ 0) by decide), if_neg (by decide)]
  unfold rickyardref06_Choose.s2
  simp only []
  rw [decide_eq_true c1.2, if_pos rfl, inner]
  simp only [Option.bind_some]
  rw [stN_snd, stN_three]
  by_cases hc : choiceC (ix d.cells (p : Int)) (ix v (p : Int)) < 0
  · rw [decide_eq_true hc, if_pos rfl, if_pos hc]
  · have hlim : List.length (chs d v j) + List.length [choiceC (ix d.cells (p : Int)) (ix v (p : Int))] ≤ LIM := by
      rw [chs_len d v j (by omega)]
      exact Nat.le_trans (by simp only [List.length_cons, List.length_nil]; omega : _ ≤ 10001) (by decide)
    rw [decide_eq_false hc, if_neg (by decide), if_neg hc, if_pos hlim, if_neg hc, next64 hj (by omega)]
/-- What both choose. -/
theorem choose_eq {fu n : Nat} {B s : Int} {d : Dev} {img : List Int} (h : DevOk n B d) (hn : n ≤ 10000) (hf : n * 8 + 10 < fu) (hb : Bytes img) :
    (∃ v : List Int, v.length = n ∧ (∀ w ∈ v, U64 w) ∧ img = octs v ∧ (∀ j, j < (fatesD d).length → goodJ d v j) ∧ Wj d v (fatesD d).length = v ∧ fate_Choose.f fu d img = some (chs d v (fatesD d).length, true) ∧ rickyardref06_Choose.f fu (toM d s) (img.map toB) = some (chs d v (fatesD d).length, true)) ∨
    (fate_Choose.f fu d img = some ([], false) ∧ (∃ l, rickyardref06_Choose.f fu (toM d s) (img.map toB) = some (l, false)) ∧ ∀ v : List Int, v.length = n → (∀ w ∈ v, U64 w) → img = octs v → ¬ ((∀ j, j < (fatesD d).length → goodJ d v j) ∧ Wj d v (fatesD d).length = v)) := by
  have hlen := h.len
  have hfl : (fatesD d).length ≤ n := by
    have := fatesU_le d d.cells.length
    unfold fatesD
    omega
  have hLL : (toM d s).Lasts = lastsD d := rfl
  have hll : (lastsD d).length = n := by rw [lastsD, List.length_map, hlen]
  have w8 : IntKind.i64.wrap (8 * ((lastsD d).length : Int)) = ((8 * n : Nat) : Int) := by rw [w64 (by omega) (by omega)]; omega
  by_cases hi : img.length = 8 * n
  rotate_left
  · right
    refine ⟨?_, ⟨[], ?_⟩, fun v hv _ e => absurd (by rw [e, octs_len, hv]) hi⟩
    · unfold fate_Choose.f
      rw [image_eq h (by omega) (by omega)]
      simp only [Option.bind_some]
      rw [octs_len, hll, decide_eq_false (by omega), if_pos (by decide)]
    · unfold rickyardref06_Choose.f
      rw [hLL, w8, List.length_map, decide_eq_false (by omega), if_pos (by decide)]
  obtain ⟨v, hv⟩ : ∃ v, v = wordsU img n := ⟨_, rfl⟩
  have hvl : v.length = n := by rw [hv, wordsU_len]
  have hvu : ∀ w ∈ v, U64 w := by rw [hv]; exact words_U64 hb
  have hvo : img = octs v := by
    rw [hv, octs_words hb n (by omega), List.take_of_length_le (by omega)]
  have huniq : ∀ v' : List Int, v'.length = n → (∀ w ∈ v', U64 w) → img = octs v' → v' = v := fun v' h1 h2 h3 => octs_inj (by omega) h2 hvu (by rw [← h3, hvo])
  subst hvo
  clear hv
  have hs0 : ∀ j, j < (fatesD d).length → goodJ d v j → fate_Choose.s0 fu (octs v) (fatesD d) (chs d v j, (j : Int), octs (Wj d v j)) = some (.inr (chs d v (j + 1), ((j + 1 : Nat) : Int), octs (Wj d v (j + 1)))) := by
    intro j hj hg
    unfold goodJ at hg
    rw [choose_step h hn (by omega) hvl hvu hj, if_neg (by omega)]
  have hs1 : ∀ j, j < (fatesD d).length → ¬ goodJ d v j → fate_Choose.s0 fu (octs v) (fatesD d) (chs d v j, (j : Int), octs (Wj d v j)) = some (.inl (.inl ([], false))) := by
    intro j hj hg
    unfold goodJ at hg
    rw [choose_step h hn (by omega) hvl hvu hj, if_pos (by omega)]
  have hr0 : ∀ j, j < (fatesD d).length → goodJ d v j → rickyardref06_Choose.s2 fu ((octs v).map toB) (fatesD d) (chs d v j, (j : Int), Wj d v j) = some (.inr (chs d v (j + 1), ((j + 1 : Nat) : Int), Wj d v (j + 1))) := by
    intro j hj hg
    unfold goodJ at hg
    rw [rchoose_step h hn (by omega) hvl hvu hj, if_neg (by omega)]
  have hr1 : ∀ j, j < (fatesD d).length → ¬ goodJ d v j → rickyardref06_Choose.s2 fu ((octs v).map toB) (fatesD d) (chs d v j, (j : Int), Wj d v j) = some (.inl (.inl ([], false))) := by
    intro j hj hg
    unfold goodJ at hg
    rw [rchoose_step h hn (by omega) hvl hvu hj, if_pos (by omega)]
  have hWu : ∀ w ∈ Wj d v (fatesD d).length, U64 w := by
    intro w hw
    obtain ⟨p, hp, rfl⟩ := List.getElem_of_mem hw
    have hp2 : p < d.cells.length := by rw [Wj_len] at hp; exact hp
    rw [← ix_nat hp, Wj_at d v _ hp2]
    split
    · rw [ix_nat (by omega)]
      exact hvu _ (List.getElem_mem _)
    · rw [ix_nat hp2]
      exact (h.val _ (List.getElem_mem _)).1
  have hWl : (Wj d v (fatesD d).length).length = n := by rw [Wj_len, hlen]
  have hlimN : List.length ([] : List Int) + (lastsD d).length ≤ LIM := by
    rw [hll, List.length_nil]
    exact Nat.le_trans (by omega : _ ≤ 10000) (by decide)
  have hc1 : fate_Choose.f fu d (octs v) = ((loopM (fate_Choose.s0 fu (octs v) (fatesD d)) fu ([], 0, octs (lastsD d))).bind fun e24 => match e24 with | Sum.inl p => some p | Sum.inr x27 => ((slices_Equal.f fu x27.2 (octs v) : Option Bool).bind fun t107 => (if (!t107) = true then some ([], false) else some (x27.1, true)))) := by
    unfold fate_Choose.f
    rw [image_eq h (by omega) (by omega), fates_eq h (by omega) (by omega)]
    simp only [Option.bind_some]
    rw [octs_len, octs_len, hll, hvl, decide_eq_true rfl, if_neg (by decide)]
    rfl
  have hc2 : rickyardref06_Choose.f fu (toM d s) ((octs v).map toB) = ((loopM (rickyardref06_Choose.s2 fu ((octs v).map toB) (fatesD d)) fu ([], 0, lastsD d)).bind fun e28 => match e28 with | Sum.inl p => some p | Sum.inr x31 => ((rickyardref05_Text.f fu x31.2 : Option (List UInt8)).bind fun t106 => some (x31.1, (decide (t106 = (octs v).map toB))))) := by
    unfold rickyardref06_Choose.f
    rw [hLL, w8, List.length_map, octs_len, hvl, decide_eq_true rfl, if_neg (by decide), if_pos hlimN, rfates_eq h (by omega) (by omega)]
    rfl
  by_cases hg : ∀ j, j < (fatesD d).length → goodJ d v j
  · have l1 : loopM (fate_Choose.s0 fu (octs v) (fatesD d)) fu ([], 0, octs (lastsD d)) = some (.inr (chs d v (fatesD d).length, octs (Wj d v (fatesD d).length))) := by
      refine loopM_run (S := fun j => (chs d v j, (j : Int), octs (Wj d v j))) (fatesD d).length (by rw [Wj_zero]; rfl) (fun j hj => hs0 j hj (hg j hj)) ?_ (by omega)
      unfold fate_Choose.s0
      simp only []
      rw [decide_eq_false (show ¬ (((fatesD d).length : Int) < ((fatesD d).length : Int)) by omega), if_neg (by decide)]
    have l2 : loopM (rickyardref06_Choose.s2 fu ((octs v).map toB) (fatesD d)) fu ([], 0, lastsD d) = some (.inr (chs d v (fatesD d).length, Wj d v (fatesD d).length)) := by
      refine loopM_run (S := fun j => (chs d v j, (j : Int), Wj d v j)) (fatesD d).length (by rw [Wj_zero]; rfl) (fun j hj => hr0 j hj (hg j hj)) ?_ (by omega)
      unfold rickyardref06_Choose.s2
      simp only []
      rw [decide_eq_false (show ¬ (((fatesD d).length : Int) < ((fatesD d).length : Int)) by omega), if_neg (by decide)]
    have heq := equal_eq (fu := fu) (a := octs (Wj d v (fatesD d).length)) (b := octs v) (by rw [octs_len, hWl]; omega) (by rw [octs_len, hWl]; omega)
    have htx := text_eq (fu := fu) hWu (by omega) (by omega)
    rw [hc1, hc2, l1, l2]
    simp only [Option.bind_some]
    rw [heq, htx]
    simp only [Option.bind_some]
    by_cases hw : Wj d v (fatesD d).length = v
    · left
      refine ⟨v, hvl, hvu, rfl, hg, hw, ?_, ?_⟩
      · rw [hw, decide_eq_true rfl, if_neg (by decide)]
      · rw [hw, decide_eq_true rfl]
    · right
      have e1 : ¬ octs (Wj d v (fatesD d).length) = octs v := fun q => hw (octs_inj (by omega) hWu hvu q)
      have e2 : ¬ (octs (Wj d v (fatesD d).length)).map toB = (octs v).map toB := fun q => e1 (mapB_inj (octsB _) (octsB _) q)
      refine ⟨?_, ⟨chs d v (fatesD d).length, ?_⟩, fun v' h1 h2 h3 h4 => hw (by rw [← huniq v' h1 h2 h3]; exact h4.2)⟩
      · rw [decide_eq_false e1, if_pos (by decide)]
      · rw [decide_eq_false e2]
  · have hex : ∃ j, j < (fatesD d).length ∧ ¬ goodJ d v j := by
      apply Classical.byContradiction
      intro hx
      exact hg fun j hj => Classical.byContradiction fun q => hx ⟨j, hj, q⟩
    have l1 : loopM (fate_Choose.s0 fu (octs v) (fatesD d)) fu ([], 0, octs (lastsD d)) = some (.inl ([], false)) :=
      loopM_bad (S := fun j => (chs d v j, (j : Int), octs (Wj d v j))) (fatesD d).length (goodJ d v) (by rw [Wj_zero]; rfl) hex (fun j hj _ h => hs0 j hj h) (fun j hj _ h => hs1 j hj h) (by omega)
    have l2 : loopM (rickyardref06_Choose.s2 fu ((octs v).map toB) (fatesD d)) fu ([], 0, lastsD d) = some (.inl ([], false)) :=
      loopM_bad (S := fun j => (chs d v j, (j : Int), Wj d v j)) (fatesD d).length (goodJ d v) (by rw [Wj_zero]; rfl) hex (fun j hj _ h => hr0 j hj h) (fun j hj _ h => hr1 j hj h) (by omega)
    right
    refine ⟨by rw [hc1, l1]; rfl, ⟨[], by rw [hc2, l2]; rfl⟩, fun v' h1 h2 h3 h4 => hg (by rw [← huniq v' h1 h2 h3]; exact h4.1)⟩
/-- A crash with these choices leaves just that image. -/
theorem chosen {n : Nat} {B : Int} {d : Dev} {v : List Int} (h : DevOk n B d) (hv : v.length = n) (hg : ∀ j, j < (fatesD d).length → goodJ d v j) (hw : Wj d v (fatesD d).length = v) : lastsD (crashD d (chs d v (fatesD d).length)) = v ∧ ∀ x ∈ chs d v (fatesD d).length, I64 x := by
  have hlen := h.len
  have hfl : (fatesD d).length = opens d.cells d.cells.length := fates_len d _ (Nat.le_refl _)
  refine ⟨?_, ?_⟩
  · apply List.ext_getElem (by simp [lastsD, crashD, crashL]; omega)
    intro p h1 h2
    have hp : p < d.cells.length := by omega
    rw [← ix_nat h1, ← ix_nat h2, crash_lasts hp]
    have hwp := Wj_at d v (fatesD d).length hp
    rw [hw] at hwp
    cases ho : openC (ix d.cells (p : Int))
    · rw [ho, if_neg (by simp)] at hwp
      rw [if_neg (by decide), hwp]
      exact ix_map' _ _ _ hp
    · rw [if_pos rfl]
      have hlt := opens_lt hp (Nat.le_refl _) ho
      have hj : opens d.cells p < (fatesD d).length := by omega
      obtain ⟨q, hq, hoq, hopq, hfa⟩ := fates_at d d.cells.length (Nat.le_refl _) (opens d.cells p) hj
      have hpq : q = p := opens_inj hq hp hoq ho hopq
      subst hpq
      have hfa' : ix (fatesD d) ((opens d.cells q : Nat) : Int) = fateD d q := hfa
      have hgo := hg _ hj
      unfold goodJ at hgo
      rw [hfa', choiceF_fate] at hgo
      have e : (chs d v (fatesD d).length).getD (opens d.cells q) 0 = choiceC (ix d.cells (q : Int)) (ix v (q : Int)) := by
        rw [getD_of _ _ _ (by rw [chs_len d v _ (Nat.le_refl _)]; exact hj)]
        unfold chs
        rw [List.getElem_map, List.getElem_take, ← ix_nat hj, hfa']
        rfl
      rw [e]
      exact (choice_fate hgo).1
  · intro x hx
    unfold chs at hx
    obtain ⟨f, hf, rfl⟩ := List.mem_map.1 hx
    unfold choiceF choiceC I64
    split
    · decide
    · split
      · decide
      · split <;> decide
end Go.Proofs.Ytklhbaghbmndeaa.Pure

/- The pure statement of FateChooses. -/
set_option linter.unusedVariables false
set_option linter.unusedSimpArgs false
namespace Go.Proofs.Ytklhbaghbmndeaa.Pure
open Go Go.Xw
theorem FateChooses : ∀ (a0 : Int) (a1 : List S_rickyardlaw05_Act) (a2 : List Int), (Lit.int .u8 a0).wf = true → ((∀ x ∈ a1, ok_rickyardlaw05_Act x) ∧ List.length a1 ≤ maxLen) → ((∀ x ∈ a2, (Lit.int .u8 x).wf = true) ∧ List.length a2 ≤ maxLen) → ∃ fu, rickyardlaw06_FateChooses.f fu a0 a1 a2 = some true := by
  intro n acts img hn hacts himg
  refine ⟨FU, ?_⟩
  unfold rickyardlaw06_FateChooses.f
  rw [awake06]
  simp only [Option.bind_some, Bool.not_true, Bool.false_eq_true, if_false]
  by_cases hL : (img.length : Int) > 300
  · rw [decide_eq_true hL]
    rfl
  rw [decide_eq_false hL, if_neg (by decide)]
  have hb : Bytes img := fun x hx => wf8.1 (himg.1 x hx)
  rcases made_eq (wf8.1 hn) hacts.1 with h | ⟨k, d, s, hk, hd, _, _, _, h⟩
  · rw [h]
    rfl
  · rw [h]
    simp only [Option.bind_some, Option.elim_some]
    have hf : k * 8 + 10 < FU := by show _ < 200000; omega
    unfold fate_May.f
    rcases choose_eq (s := s) hd (by omega) hf hb with ⟨v, hv, hvu, he, hg, hw, h1, h2⟩ | ⟨h1, ⟨l, h2⟩, _⟩
    · obtain ⟨hc1, hc2⟩ := chosen hd hv hg hw
      have hcl : (chs d v (fatesD d).length).length ≤ 24 := by
        rw [chs_len d v _ (Nat.le_refl _)]
        have := fatesU_le d d.cells.length
        have := hd.len
        unfold fatesD
        omega
      have hcr : pmem_Device_Crash.f FU d (chs d v (fatesD d).length) = some (crashD d (chs d v (fatesD d).length)) := crash_eq hd (by omega) hc2 (by omega)
      have him : pmem_Device_Image.f FU (crashD d (chs d v (fatesD d).length)) = some (octs v) := by
        rw [image_eq (crash_ok hd) (by omega) (by omega), hc1]
      rw [h1, h2]
      simp only [Option.bind_some, decide_true, Bool.not_true, Bool.false_eq_true, if_false]
      rw [ints2_eq (by omega) (by show _ < 200000; omega), hcr]
      simp only [Option.bind_some, decide_true, Bool.not_true, Bool.false_eq_true, if_false]
      rw [him, he]
      simp
    · rw [h1, h2]
      simp
end Go.Proofs.Ytklhbaghbmndeaa.Pure

/- The law FateChooses holds for every input: the row, out of the walk of the law's function and of its pure statement. Written by rows.py. -/
namespace Go.Proofs.Ytklhbaghbmndeaa.fateChooses
open Go.ChangeShapes Go.WideShapes Go.ChangeAt Go.RowKit
open Go.ChangeMaps (open_string shut_string)
open Go Go.Xw
set_option linter.unusedVariables false
theorem own : ownKnob Try.prog.godebug = none := Facts.own
theorem laidOut : laidOutB Try.prog = true := Facts.laid
theorem closed : joinedFacts Try.pinned.checked.prog 15 Try.f15 Rows.fateChoosesSpec Rows.fateChoosesRow = true := by
  unfold joinedFacts
  rw [Facts.enter, Facts.lifts, Facts.make, Facts.laid, Facts.rowed, Facts.plain, Facts.heard]
  kernel_rfl
theorem enc_seg {α : Type} (K : Kd α) (a : α) : K.enc a = cellsOf [Kd.seg K a] := by simp [cellsOf, Kd.seg]
def start : Input := ⟨#[], #[.int .u8 0, .slice none 0 0, .slice none 0 0], []⟩
set_option maxRecDepth 100000 in
set_option maxHeartbeats 1000000 in
theorem lifted (os : Os) (started : os.Started) (H : Type) (enc : TypeId × Value → H) :
    ReturnsInHanded {} Try.checked os 15 .any (Rows.fateChoosesSpec.pre6 enc Try.prog Try.f15 Rows.fateChoosesRow.domain false) (Rows.fateChoosesSpec.post enc Try.prog Try.f15 false true false false) := by
  refine returnsInHanded_of_change_sized (C := Try.checked) own started (by kernel_rfl) Try.func15
    (ChangeSpec.witness6 (enc := enc) (C := Try.checked) false start 8 (by kernel_rfl) (by kernel_rfl) (by kernel_rfl) (by kernel_rfl)) ?_
  intro W base args ds gs before hval0 hW hcnd hsz0 _
  have hval : ∀ (j : Nat) t v, Try.f15.params[j]? = some t → args[j]? = some v → Value.okWide Try.prog W .any base t v := hval0
  have hW' := hW
  obtain ⟨p, q, hA0, hV, rfl, hfz, hnd⟩ := hW
  have hA : DataW.TrodAll enc Try.prog W 0 (fun _ => true) true Try.f15.params.toList args.toList ds p := hA0
  rw [Try.params15] at hA hval
  obtain ⟨v0, vs0, d0, ds0, p0, q0, hargs, rfl, rfl, h0, r0⟩ := trodAll_cons hA
  obtain ⟨v1, vs1, d1, ds1, p1, q1, rfl, rfl, rfl, h1, r1⟩ := trodAll_cons r0
  obtain ⟨v2, vs2, d2, ds2, p2, q2, rfl, rfl, rfl, h2, r2⟩ := trodAll_cons r1
  obtain ⟨rfl, rfl, rfl⟩ := trodAll_nil r2
  obtain rfl : args = #[v0, v1, v2] := by cases args; simp_all
  obtain ⟨rfl, rfl⟩ := trodVars_none hV
  obtain ⟨a0, rfl, rfl, rfl, w0⟩ := open_int Try.underlying5 (hval 0 5 v0 rfl rfl) h0
  have k1 := h1
  have lt1 : ∀ x ∈ p1, x.block < W.heap.size := by obtain ⟨m, hm⟩ := k1; exact DataW.trod_lt m _ _ _ hm
  obtain ⟨fu1, hf1⟩ := h1
  obtain ⟨aa1, len1, cap1, rfl⟩ := okWide_slice Try.underlying24 (hval 1 24 v1 rfl rfl)
  obtain ⟨a1, V1_0, e1, R1_0, o1, l1, _⟩ := (opn_sliceN (n := 4) (D := D_rickyardlaw05_Act) (ok := ok_rickyardlaw05_Act) (w := W) Try.underlying24 (by kernel_rfl) (by decide) (fun enc base sp held fuel cs x h => by obtain ⟨a, V0, R0, e, o⟩ := opn_rickyardlaw05_Act enc base sp held fuel cs x h; exact ⟨a, ⟨V0, R0, e⟩, o, by rw [e, len_cellsOf]; rfl, by rw [e]; exact one_cellsOf _⟩)) enc _ _ _ _ _ _ hf1
  obtain rfl : Value.slice aa1 len1 cap1 = V1_0 := by simpa [Value.cells] using e1
  have k2 := h2
  have lt2 : ∀ x ∈ p2, x.block < W.heap.size := by obtain ⟨m, hm⟩ := k2; exact DataW.trod_lt m _ _ _ hm
  obtain ⟨fu2, hf2⟩ := h2
  obtain ⟨aa2, len2, cap2, rfl⟩ := okWide_slice Try.underlying43 (hval 2 43 v2 rfl rfl)
  obtain ⟨a2, V2_0, e2, R2_0, o2, l2, _⟩ := (opn_slice (K := (kI .u8)) Try.underlying43 (by kernel_rfl) (by decide) (opn_int Try.underlying5)) enc _ _ _ _ _ _ hf2
  obtain rfl : Value.slice aa2 len2 cap2 = V2_0 := by simpa [Value.cells] using e2
  obtain ⟨fu, hfu⟩ := Pure.FateChooses a0 a1 a2 w0 ⟨o1, l1⟩ ⟨o2, l2⟩
  refine Calls.mono (rickyardlaw06_FateChooses.ok fu W a0 a1 _ R1_0 a2 _ R2_0 true hfu) fun e W' hr => ?_
  obtain ⟨v, rfl, rfl, gr⟩ := hr
  have bel := Fr.below gr
  exact ⟨_, rfl, _, _, _, [], _, [], hW', trodAll_mk1 (shut_bool Try.underlying4 _), (trodAll_cons_mk (shut_int Try.underlying5 w0) (trodAll_cons_mk (Below.trod laidOut (by kernel_rfl) (of_decide_eq_true (by kernel_rfl)) k1 bel lt1) (trodAll_cons_mk (Below.trod laidOut (by kernel_rfl) (of_decide_eq_true (by kernel_rfl)) k2 bel lt2) trodAll_mk0))), rfl, bel.frame _, fun h => by cases h⟩
theorem over : Rows.fateChoosesRow.holds Try.pinned (OpenSpec.ofChange Rows.fateChoosesSpec) :=
  OpenClaim.holds_of_wide 15 Try.f15 rfl rfl rfl rfl rfl rfl rfl ⟨rfl, rfl, rfl, rfl, rfl⟩ rfl rfl rfl rfl rfl (by kernel_rfl) Try.func15 closed
    (of_decide_eq_true (by kernel_rfl)) (by unfold Func.isWrapper; first | (rw [if_pos (by decide +kernel)]; kernel_rfl) | (rw [if_neg (by decide +kernel)]; exact ⟨rfl, rfl⟩))
    (fun os started H enc _ => lifted os started H enc)
theorem proved : Rows.FateChoosesSaid := over
end Go.Proofs.Ytklhbaghbmndeaa.fateChooses
namespace Go.Proofs.Ytklhbaghbmndeaa
/-- The law holds. -/
theorem fateChooses_holds : Rows.FateChoosesSaid := fateChooses.proved
#print axioms fateChooses_holds
end Go.Proofs.Ytklhbaghbmndeaa
