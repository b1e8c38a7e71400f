/- RootOctet: texts merged, part 3 of 6. The last part proves that the law RootOctet holds for every input. -/
import Derived.Test.YtklhbaghbmndeaaPkRootOctet2
set_option maxRecDepth 100000
set_option maxHeartbeats 4000000
set_option linter.unusedVariables false
set_option linter.unusedSimpArgs false
namespace Go.Proofs.Ytklhbaghbmndeaa
open Go Go.Xw
def slices_Index_2.s0 (fu : Nat) (a0 : List Int) (a1 : Int) : Int → Option (Sum (Sum Int Unit) Int) := fun s1 => (if (decide (s1 < (List.length a0 : Int))) = true then (if 0 ≤ s1 ∧ s1 < (List.length a0 : Int) then (if (decide (a1 = (ix a0 s1))) = true then some (Sum.inl (Sum.inl (s1))) else some (Sum.inr ((IntKind.i64.wrap (s1 + 1))))) else none) else some (Sum.inl (Sum.inr ())))
def slices_Index_2.f (fu : Nat) (a0 : List Int) (a1 : Int) : Option Int := ((loopM (slices_Index_2.s0 fu a0 a1) fu (0)).bind fun e2 => match e2 with | Sum.inl p => some p | Sum.inr x5 => some ((-1)))
theorem slices_Index_2.ok (fu : Nat) (w : World) (a0 : List Int) (V0_0 : Value) (R0_0 : Rd (kI .i64) w V0_0 a0) (a1 : Int) (r : Int) (h : slices_Index_2.f fu a0 a1 = some r) :
  Calls Try.prog 152 (([V0_0, .int .i64 a1] : List Value).toArray) w (fun e w' => ∃ v, e = .returned v ∧ v = .int .i64 r ∧ Gr w w') := by
 unfold slices_Index_2.f at h
 have fB : Gr w w := Fr.refl _ _
 refine calls_cw Try.func152 rfl Try.ntmps152 rfl ?_
 refine cw_seq ?_
 refine cw_region ?_
 refine ol_val (v := .int .i64 0) (xr_assign rfl rfl) rfl rfl rfl ?_
 refine ol_nil ?_
 refine cw_seq ?_
 refine cw_seq ?_
 refine cw_region ?_
 refine ol_val (v := V0_0) (xr_move rfl rfl) rfl rfl rfl ?_
 refine ol_val (v := .int .i64 (List.length a0 : Int)) (xr_lenR rfl Try.underlying25 rfl (R0_0.gr fB)) rfl rfl rfl ?_
 refine ol_val (v := .int .i64 0) (xr_move rfl rfl) rfl rfl rfl ?_
 refine ol_nil ?_
 obtain ⟨e2, l3, h4⟩ := bs h
 refine cw_mid (fun ρ' w' => ∃ x5, e2 = Sum.inr x5 ∧ Gr w w') ?_ ?_
 ·refine cw_block ?_
  refine cw_round (fun (s1 : Int) ρ' w' => ρ' 0 = V0_0 ∧ ρ' 1 = .int .i64 a1 ∧ ρ' 7 = .int .i64 (List.length a0 : Int) ∧ ρ' 8 = .int .i64 s1 ∧ Gr w w') l3 ?_ ?_
  ·skip
   exact ⟨rfl, rfl, rfl, rfl, fB⟩
  rintro s1 x8 ρ6 w7 ⟨e0, e1, e7, e8, fB⟩ h
  unfold slices_Index_2.s0 at h
  refine cw_seq ?_
  refine cw_region ?_
  refine ol_val (v := .bool (decide (s1 < (List.length a0 : Int)))) (xr_lss rfl e8 e7) rfl rfl rfl ?_
  refine ol_nil ?_
  refine cw_seq ?_
  rcases is h with ⟨c9, h⟩ | ⟨c9, h⟩
  ·refine cw_condT rfl c9 ?_
   refine cw_skip ?_
   refine cw_seq ?_
   refine cw_block ?_
   refine cw_seq ?_
   refine cw_region ?_
   refine ol_val (v := .int .i64 s1) (xr_move rfl e8) rfl rfl rfl ?_
   refine ol_val (v := .int .i64 s1) (xr_assign rfl rfl) rfl rfl rfl ?_
   refine ol_nil ?_
   refine cw_seq ?_
   refine cw_region ?_
   refine ol_val (v := .int .i64 a1) (xr_move rfl e1) rfl rfl rfl ?_
   refine ol_val (v := V0_0) (xr_move rfl e0) rfl rfl rfl ?_
   refine ol_val (v := .int .i64 s1) (xr_move rfl rfl) rfl rfl rfl ?_
   obtain ⟨g10, h⟩ := gs h
   refine ol_val (v := (pt ((sb V0_0)) (so V0_0 + Int.toNat s1 * 1))) (xr_indexR (K := (kI .i64)) (v := V0_0) rfl Try.underlying25 sz3 rfl (R0_0.gr fB) rfl g10.1 g10.2) rfl rfl rfl ?_
   refine ol_val (v := .int .i64 (ix a0 s1)) (xr_load1 (v := .int .i64 (ix a0 s1)) rfl ag3 rfl ((R0_0.gr fB).elem g10.1 g10.2)) rfl rfl rfl ?_
   refine ol_val (v := .bool (decide (a1 = (ix a0 s1)))) (xr_eqI rfl Try.underlying3 rfl rfl rfl) rfl rfl rfl ?_
   refine ol_nil ?_
   rcases is h with ⟨c11, h⟩ | ⟨c11, h⟩
   ·refine cw_condT rfl c11 ?_
    refine cw_seq ?_
    refine cw_region ?_
    refine ol_val (v := .int .i64 s1) (xr_move rfl rfl) rfl rfl rfl ?_
    refine ol_val (v := .int .i64 s1) (xr_assign rfl rfl) rfl rfl rfl ?_
    refine ol_nil ?_
    refine cw_ret ?_
    repeat (first | with_reducible refine thn_r ?_ | with_reducible refine blk_r ?_)
    obtain rfl := Option.some.inj h
    refine lp_ret ?_
    rintro rfl
    repeat (first | with_reducible refine thn_r ?_ | with_reducible refine blk_r ?_)
    have h := h4
    obtain rfl := Option.some.inj h
    refine fin_ret1 Try.results152 rfl ?_
    exact ⟨_, rfl, rfl, fB⟩
   refine cw_condF rfl c11 ?_
   refine cw_skip ?_
   refine blk_i ?_
   refine cw_region ?_
   refine ol_val (v := .int .i64 (IntKind.i64.wrap (s1 + 1))) (xr_add rfl e8 rfl) rfl rfl rfl ?_
   refine ol_val (v := .int .i64 (IntKind.i64.wrap (s1 + 1))) (xr_move rfl rfl) rfl rfl rfl ?_
   refine ol_nil ?_
   obtain rfl := Option.some.inj h
   refine lp_in ?_
   exact ⟨e0, e1, e7, rfl, fB⟩
  refine cw_condF rfl c9 ?_
  refine cw_exit ?_
  repeat (first | with_reducible refine thn_e ?_ | with_reducible refine blk_e rfl ?_)
  obtain rfl := Option.some.inj h
  refine lp_exit ?_
  rintro rfl
  refine thn_x ?_
  exact ⟨_, rfl, fB⟩
 rintro ρ12 w13 ⟨x5, rfl, fB⟩
 have h := h4
 refine cw_seq ?_
 refine cw_region ?_
 refine ol_val (v := .int .i64 (-1)) (xr_assign rfl rfl) rfl rfl rfl ?_
 refine ol_nil ?_
 refine cw_ret ?_
 repeat (first | with_reducible refine thn_r ?_ | with_reducible refine blk_r ?_)
 obtain rfl := Option.some.inj h
 refine fin_ret1 Try.results152 rfl ?_
 exact ⟨_, rfl, rfl, fB⟩
def slices_Contains_2.f (fu : Nat) (a0 : List Int) (a1 : Int) : Option Bool := ((slices_Index_2.f fu a0 a1).bind fun t1 => some ((decide (t1 ≥ 0))))
theorem slices_Contains_2.ok (fu : Nat) (w : World) (a0 : List Int) (V0_0 : Value) (R0_0 : Rd (kI .i64) w V0_0 a0) (a1 : Int) (r : Bool) (h : slices_Contains_2.f fu a0 a1 = some r) :
  Calls Try.prog 146 (([V0_0, .int .i64 a1] : List Value).toArray) w (fun e w' => ∃ v, e = .returned v ∧ v = .bool r ∧ Gr w w') := by
 unfold slices_Contains_2.f at h
 have fB : Gr w w := Fr.refl _ _
 refine calls_cw Try.func146 rfl Try.ntmps146 rfl ?_
 refine cw_seq ?_
 refine cw_region ?_
 refine ol_val (v := .bool false) (xr_assign rfl rfl) rfl rfl rfl ?_
 refine ol_nil ?_
 refine cw_seq ?_
 refine cw_region ?_
 refine ol_val (v := V0_0) (xr_move rfl rfl) rfl rfl rfl ?_
 refine ol_val (v := .int .i64 a1) (xr_move rfl rfl) rfl rfl rfl ?_
 obtain ⟨t1, k2, h⟩ := bs h
 refine ol_op (opv_call rfl cal152 (ac rfl (ac rfl an)) (slices_Index_2.ok fu _ a0 V0_0 (R0_0.gr fB) a1 _ k2)) rfl rfl rfl ?_
 rintro _ w4 ⟨rfl, q3⟩
 have fB := fB.gr q3
 refine ol_val (v := .bool (decide (t1 ≥ 0))) (xr_geq rfl rfl rfl) rfl rfl rfl ?_
 refine ol_val (v := .bool (decide (t1 ≥ 0))) (xr_assign rfl rfl) rfl rfl rfl ?_
 refine ol_nil ?_
 refine cw_ret ?_
 repeat (first | with_reducible refine thn_r ?_ | with_reducible refine blk_r ?_)
 obtain rfl := Option.some.inj h
 refine fin_ret1 Try.results146 rfl ?_
 exact ⟨_, rfl, rfl, fB⟩
def super_Right.s0 (fu : Nat) (a0 : S_api_Super) : Int → Option (Sum (Sum Bool Unit) Int) := fun s186 => (if (decide (s186 < (List.length a0.Charts : Int))) = true then (if 0 ≤ s186 ∧ s186 < (List.length a0.Charts : Int) then ((((super_Right_1__c.f fu (ix a0.Charts s186) a0).bind fun t198 => (if (!t198) = true then some (true) else (if 0 ≤ s186 ∧ s186 ≤ (List.length a0.Charts : Int) then ((slices_Contains_2.f fu (cut a0.Charts 0 s186) (ix a0.Charts s186)).bind fun t205 => some (t205)) else none))) : Option Bool).bind fun x196 => (if x196 = true then some (Sum.inl (Sum.inl (false))) else some (Sum.inr ((IntKind.i64.wrap (s186 + 1)))))) else none) else some (Sum.inl (Sum.inr ())))
def super_Right.f (fu : Nat) (a0 : S_api_Super) : Option Bool := (((if (decide (a0.Epoch < 1)) = true then some (true) else (if (decide (a0.Epoch > 4611686018427387904)) = true then some (true) else ((geom_Right.f fu a0.Tickets.Geometry).bind fun t11 => (if (!t11) = true then some (true) else (if (decide (a0.Tickets.High < 0)) = true then some (true) else (if (decide (a0.Tickets.High > a0.Tickets.Geometry.Slots)) = true then some (true) else (if (decide (a0.Tickets.Free < 0)) = true then some (true) else some ((decide (a0.Tickets.Free > a0.Tickets.High)))))))))) : Option Bool).bind fun x7 => (if x7 = true then some (false) else (((if (decide (a0.Tickets.High = 0)) = true then (if (!decide (a0.Tickets.Top = 0)) = true then some (true) else (if (decide (a0.Tickets.High > 0)) = true then ((super_Right_1__c.f fu a0.Tickets.Top a0).bind fun t42 => (if (!t42) = true then some (true) else (if (!decide (a0.Dir = 0)) = true then ((super_Right_1__c.f fu a0.Dir a0).bind fun t57 => (if (!t57) = true then some (true) else ((geom_Charts.f fu a0.Tickets.Geometry).bind fun t65 => some ((!decide ((List.length a0.Charts : Int) = t65)))))) else ((geom_Charts.f fu a0.Tickets.Geometry).bind fun t74 => some ((!decide ((List.length a0.Charts : Int) = t74))))))) else (if (!decide (a0.Dir = 0)) = true then ((super_Right_1__c.f fu a0.Dir a0).bind fun t87 => (if (!t87) = true then some (true) else ((geom_Charts.f fu a0.Tickets.Geometry).bind fun t95 => some ((!decide ((List.length a0.Charts : Int) = t95)))))) else ((geom_Charts.f fu a0.Tickets.Geometry).bind fun t104 => some ((!decide ((List.length a0.Charts : Int) = t104))))))) else (if (decide (a0.Tickets.High > 0)) = true then ((super_Right_1__c.f fu a0.Tickets.Top a0).bind fun t114 => (if (!t114) = true then some (true) else (if (!decide (a0.Dir = 0)) = true then ((super_Right_1__c.f fu a0.Dir a0).bind fun t129 => (if (!t129) = true then some (true) else ((geom_Charts.f fu a0.Tickets.Geometry).bind fun t137 => some ((!decide ((List.length a0.Charts : Int) = t137)))))) else ((geom_Charts.f fu a0.Tickets.Geometry).bind fun t146 => some ((!decide ((List.length a0.Charts : Int) = t146))))))) else (if (!decide (a0.Dir = 0)) = true then ((super_Right_1__c.f fu a0.Dir a0).bind fun t159 => (if (!t159) = true then some (true) else ((geom_Charts.f fu a0.Tickets.Geometry).bind fun t167 => some ((!decide ((List.length a0.Charts : Int) = t167)))))) else ((geom_Charts.f fu a0.Tickets.Geometry).bind fun t176 => some ((!decide ((List.length a0.Charts : Int) = t176))))))) : Option Bool).bind fun x23 => (if x23 = true then some (false) else ((loopM (super_Right.s0 fu a0) fu (0)).bind fun e187 => match e187 with | Sum.inl p => some p | Sum.inr x190 => some (true))))))
theorem super_Right.ok (fu : Nat) (w : World) (a0 : S_api_Super) (V0_0 : Value) (R0_0 : Rd (kI .i64) w V0_0 a0.Charts) (r : Bool) (h : super_Right.f fu a0 = some r) :
  Calls Try.prog 132 (([aggV [(sI a0.Epoch), (sI a0.Tickets.Geometry.Blocks), (sI a0.Tickets.Geometry.Slots), (sI a0.Tickets.Geometry.Gens), (sI a0.Tickets.Top), (sI a0.Tickets.High), (sI a0.Tickets.Free), (sI a0.Dir), Seg.cell V0_0 R0_0.one]] : List Value).toArray) w (fun e w' => ∃ v, e = .returned v ∧ v = .bool r ∧ Gr w w') := by
 unfold super_Right.f at h
 have fB : Gr w w := Fr.refl _ _
 refine calls_cw Try.func132 rfl Try.ntmps132 rfl ?_
 refine cw_seq ?_
 refine cw_region ?_
 refine ol_op (opv_box (ss := [(sI a0.Epoch), (sI a0.Tickets.Geometry.Blocks), (sI a0.Tickets.Geometry.Slots), (sI a0.Tickets.Geometry.Gens), (sI a0.Tickets.Top), (sI a0.Tickets.High), (sI a0.Tickets.Free), (sI a0.Dir), Seg.cell V0_0 R0_0.one]) rfl rfl rfl) rfl rfl rfl ?_
 rintro _ w6 ⟨G1, rfl, b2, q3, z4⟩
 have z4 := Nat.le_trans fB.size z4
 have fB := fB.gr q3
 refine ol_val (v := .bool false) (xr_assign rfl rfl) rfl rfl rfl ?_
 refine ol_nil ?_
 refine cw_seq ?_
 refine cw_seq ?_
 obtain ⟨x7, j8, h⟩ := bs h
 refine cw_mid (fun ρ' w' => ρ' 1 = (pt G1 0) ∧ ρ' 51 = .bool x7 ∧ Gr w6 w') ?_ ?_
 ·skip
  refine cw_region ?_
  refine ol_val (v := (pt G1 0)) (xr_fieldAddr (p := 0) (q := 0) rfl fl110_0 rfl) rfl rfl rfl ?_
  refine ol_val (v := .int .i64 a0.Epoch) (xr_load1 (v := .int .i64 a0.Epoch) rfl ag3 rfl (b2.seg 0 rfl rfl)) rfl rfl rfl ?_
  refine ol_val (v := .bool (decide (a0.Epoch < 1))) (xr_lss rfl rfl rfl) rfl rfl rfl ?_
  refine ol_val (v := .bool (decide (a0.Epoch < 1))) (xr_move rfl rfl) rfl rfl rfl ?_
  rcases is j8 with ⟨c9, j8⟩ | ⟨c9, j8⟩
  ·skip
   refine ol_gskip rfl rfl rfl rfl rfl c9 ?_
   refine ol_gskip rfl rfl rfl rfl rfl c9 ?_
   refine ol_gskip rfl rfl rfl rfl rfl c9 ?_
   refine ol_val (v := .bool true) (xr_pickT rfl rfl c9 rfl) rfl rfl rfl ?_
   refine ol_val (v := .bool true) (xr_move rfl rfl) rfl rfl rfl ?_
   refine ol_gskip rfl rfl rfl rfl rfl rfl ?_
   refine ol_gskip rfl rfl rfl rfl rfl rfl ?_
   refine ol_gskip rfl rfl rfl rfl rfl rfl ?_
   refine ol_gskip rfl rfl rfl rfl rfl rfl ?_
   refine ol_gskip rfl rfl rfl rfl rfl rfl ?_
   refine ol_val (v := .bool true) (xr_pickT rfl rfl rfl rfl) rfl rfl rfl ?_
   refine ol_val (v := .bool true) (xr_move rfl rfl) rfl rfl rfl ?_
   refine ol_gskip rfl rfl rfl rfl rfl rfl ?_
   refine ol_gskip rfl rfl rfl rfl rfl rfl ?_
   refine ol_gskip rfl rfl rfl rfl rfl rfl ?_
   refine ol_gskip rfl rfl rfl rfl rfl rfl ?_
   refine ol_val (v := .bool true) (xr_pickT rfl rfl rfl rfl) rfl rfl rfl ?_
   refine ol_val (v := .bool true) (xr_move rfl rfl) rfl rfl rfl ?_
   refine ol_gskip rfl rfl rfl rfl rfl rfl ?_
   refine ol_gskip rfl rfl rfl rfl rfl rfl ?_
   refine ol_gskip rfl rfl rfl rfl rfl rfl ?_
   refine ol_gskip rfl rfl rfl rfl rfl rfl ?_
   refine ol_gskip rfl rfl rfl rfl rfl rfl ?_
   refine ol_gskip rfl rfl rfl rfl rfl rfl ?_
   refine ol_gskip rfl rfl rfl rfl rfl rfl ?_
   refine ol_gskip rfl rfl rfl rfl rfl rfl ?_
   refine ol_val (v := .bool true) (xr_pickT rfl rfl rfl rfl) rfl rfl rfl ?_
   refine ol_val (v := .bool true) (xr_move rfl rfl) rfl rfl rfl ?_
   refine ol_gskip rfl rfl rfl rfl rfl rfl ?_
   refine ol_gskip rfl rfl rfl rfl rfl rfl ?_
   refine ol_gskip rfl rfl rfl rfl rfl rfl ?_
   refine ol_gskip rfl rfl rfl rfl rfl rfl ?_
   refine ol_val (v := .bool true) (xr_pickT rfl rfl rfl rfl) rfl rfl rfl ?_
   refine ol_val (v := .bool true) (xr_move rfl rfl) rfl rfl rfl ?_
   refine ol_gskip rfl rfl rfl rfl rfl rfl ?_
   refine ol_gskip rfl rfl rfl rfl rfl rfl ?_
   refine ol_gskip rfl rfl rfl rfl rfl rfl ?_
   refine ol_gskip rfl rfl rfl rfl rfl rfl ?_
   refine ol_gskip rfl rfl rfl rfl rfl rfl ?_
   refine ol_gskip rfl rfl rfl rfl rfl rfl ?_
   refine ol_gskip rfl rfl rfl rfl rfl rfl ?_
   refine ol_val (v := .bool true) (xr_pickT rfl rfl rfl rfl) rfl rfl rfl ?_
   refine ol_nil ?_
   obtain rfl := Option.some.inj j8
   refine thn_i ?_
   exact ⟨rfl, rfl, Fr.refl _ _⟩
  refine ol_gval (v := (pt G1 0)) (xr_fieldAddr (p := 0) (q := 0) rfl fl110_0 rfl) rfl rfl rfl rfl rfl c9 ?_
  refine ol_gval (v := .int .i64 a0.Epoch) (xr_load1 (v := .int .i64 a0.Epoch) rfl ag3 rfl (b2.seg 0 rfl rfl)) rfl rfl rfl rfl rfl c9 ?_
  refine ol_gval (v := .bool (decide (a0.Epoch > 4611686018427387904))) (xr_gtr rfl rfl rfl) rfl rfl rfl rfl rfl c9 ?_
  refine ol_val (v := .bool (decide (a0.Epoch > 4611686018427387904))) (xr_pickF rfl rfl c9 rfl) rfl rfl rfl ?_
  refine ol_val (v := .bool (decide (a0.Epoch > 4611686018427387904))) (xr_move rfl rfl) rfl rfl rfl ?_
  rcases is j8 with ⟨c10, j8⟩ | ⟨c10, j8⟩
  ·skip
   refine ol_gskip rfl rfl rfl rfl rfl c10 ?_
   refine ol_gskip rfl rfl rfl rfl rfl c10 ?_
   refine ol_gskip rfl rfl rfl rfl rfl c10 ?_
   refine ol_gskip rfl rfl rfl rfl rfl c10 ?_
   refine ol_gskip rfl rfl rfl rfl rfl c10 ?_
   refine ol_val (v := .bool true) (xr_pickT rfl rfl c10 rfl) rfl rfl rfl ?_
   refine ol_val (v := .bool true) (xr_move rfl rfl) rfl rfl rfl ?_
   refine ol_gskip rfl rfl rfl rfl rfl rfl ?_
   refine ol_gskip rfl rfl rfl rfl rfl rfl ?_
   refine ol_gskip rfl rfl rfl rfl rfl rfl ?_
   refine ol_gskip rfl rfl rfl rfl rfl rfl ?_
   refine ol_val (v := .bool true) (xr_pickT rfl rfl rfl rfl) rfl rfl rfl ?_
   refine ol_val (v := .bool true) (xr_move rfl rfl) rfl rfl rfl ?_
   refine ol_gskip rfl rfl rfl rfl rfl rfl ?_
   refine ol_gskip rfl rfl rfl rfl rfl rfl ?_
   refine ol_gskip rfl rfl rfl rfl rfl rfl ?_
   refine ol_gskip rfl rfl rfl rfl rfl rfl ?_
   refine ol_gskip rfl rfl rfl rfl rfl rfl ?_
   refine ol_gskip rfl rfl rfl rfl rfl rfl ?_
   refine ol_gskip rfl rfl rfl rfl rfl rfl ?_
   refine ol_gskip rfl rfl rfl rfl rfl rfl ?_
   refine ol_val (v := .bool true) (xr_pickT rfl rfl rfl rfl) rfl rfl rfl ?_
   refine ol_val (v := .bool true) (xr_move rfl rfl) rfl rfl rfl ?_
   refine ol_gskip rfl rfl rfl rfl rfl rfl ?_
   refine ol_gskip rfl rfl rfl rfl rfl rfl ?_
   refine ol_gskip rfl rfl rfl rfl rfl rfl ?_
   refine ol_gskip rfl rfl rfl rfl rfl rfl ?_
   refine ol_val (v := .bool true) (xr_pickT rfl rfl rfl rfl) rfl rfl rfl ?_
   refine ol_val (v := .bool true) (xr_move rfl rfl) rfl rfl rfl ?_
   refine ol_gskip rfl rfl rfl rfl rfl rfl ?_
   refine ol_gskip rfl rfl rfl rfl rfl rfl ?_
   refine ol_gskip rfl rfl rfl rfl rfl rfl ?_
   refine ol_gskip rfl rfl rfl rfl rfl rfl ?_
   refine ol_gskip rfl rfl rfl rfl rfl rfl ?_
   refine ol_gskip rfl rfl rfl rfl rfl rfl ?_
   refine ol_gskip rfl rfl rfl rfl rfl rfl ?_
   refine ol_val (v := .bool true) (xr_pickT rfl rfl rfl rfl) rfl rfl rfl ?_
   refine ol_nil ?_
   obtain rfl := Option.some.inj j8
   refine thn_i ?_
   exact ⟨rfl, rfl, Fr.refl _ _⟩
  refine ol_gval (v := (pt G1 1)) (xr_fieldAddr (p := 0) (q := 1) rfl fl110_1 rfl) rfl rfl rfl rfl rfl c10 ?_
  refine ol_gval (v := (pt G1 1)) (xr_fieldAddr (p := 1) (q := 0) rfl fl108_0 rfl) rfl rfl rfl rfl rfl c10 ?_
  refine ol_gval (v := aggV [(sI a0.Tickets.Geometry.Blocks), (sI a0.Tickets.Geometry.Slots), (sI a0.Tickets.Geometry.Gens)]) (xr_loadS (ss := [(sI a0.Tickets.Geometry.Blocks), (sI a0.Tickets.Geometry.Slots), (sI a0.Tickets.Geometry.Gens)]) rfl ag106 sz106 rfl rfl (b2.segs 1 3 rfl)) rfl rfl rfl rfl rfl c10 ?_
  obtain ⟨t11, k12, j8⟩ := bs j8
  refine ol_gop (opv_call rfl cal143 (ac rfl an) (geom_Right.ok fu _ a0.Tickets.Geometry _ k12)) rfl rfl rfl rfl rfl c10 ?_
  rintro _ w14 ⟨rfl, q13⟩
  have b2 := b2.gr q13
  have fB := fB.gr q13
  refine ol_gval (v := .bool (!t11)) (xr_not rfl rfl) rfl rfl rfl rfl rfl c10 ?_
  refine ol_val (v := .bool (!t11)) (xr_pickF rfl rfl c10 rfl) rfl rfl rfl ?_
  refine ol_val (v := .bool (!t11)) (xr_move rfl rfl) rfl rfl rfl ?_
  rcases is j8 with ⟨c15, j8⟩ | ⟨c15, j8⟩
  ·skip
   refine ol_gskip rfl rfl rfl rfl rfl c15 ?_
   refine ol_gskip rfl rfl rfl rfl rfl c15 ?_
   refine ol_gskip rfl rfl rfl rfl rfl c15 ?_
   refine ol_gskip rfl rfl rfl rfl rfl c15 ?_
   refine ol_val (v := .bool true) (xr_pickT rfl rfl c15 rfl) rfl rfl rfl ?_
   refine ol_val (v := .bool true) (xr_move rfl rfl) rfl rfl rfl ?_
   refine ol_gskip rfl rfl rfl rfl rfl rfl ?_
   refine ol_gskip rfl rfl rfl rfl rfl rfl ?_
   refine ol_gskip rfl rfl rfl rfl rfl rfl ?_
   refine ol_gskip rfl rfl rfl rfl rfl rfl ?_
   refine ol_gskip rfl rfl rfl rfl rfl rfl ?_
   refine ol_gskip rfl rfl rfl rfl rfl rfl ?_
   refine ol_gskip rfl rfl rfl rfl rfl rfl ?_
   refine ol_gskip rfl rfl rfl rfl rfl rfl ?_
   refine ol_val (v := .bool true) (xr_pickT rfl rfl rfl rfl) rfl rfl rfl ?_
   refine ol_val (v := .bool true) (xr_move rfl rfl) rfl rfl rfl ?_
   refine ol_gskip rfl rfl rfl rfl rfl rfl ?_
   refine ol_gskip rfl rfl rfl rfl rfl rfl ?_
   refine ol_gskip rfl rfl rfl rfl rfl rfl ?_
   refine ol_gskip rfl rfl rfl rfl rfl rfl ?_
   refine ol_val (v := .bool true) (xr_pickT rfl rfl rfl rfl) rfl rfl rfl ?_
   refine ol_val (v := .bool true) (xr_move rfl rfl) rfl rfl rfl ?_
   refine ol_gskip rfl rfl rfl rfl rfl rfl ?_
   refine ol_gskip rfl rfl rfl rfl rfl rfl ?_
   refine ol_gskip rfl rfl rfl rfl rfl rfl ?_
   refine ol_gskip rfl rfl rfl rfl rfl rfl ?_
   refine ol_gskip rfl rfl rfl rfl rfl rfl ?_
   refine ol_gskip rfl rfl rfl rfl rfl rfl ?_
   refine ol_gskip rfl rfl rfl rfl rfl rfl ?_
   refine ol_val (v := .bool true) (xr_pickT rfl rfl rfl rfl) rfl rfl rfl ?_
   refine ol_nil ?_
   obtain rfl := Option.some.inj j8
   refine thn_i ?_
   exact ⟨rfl, rfl, q13⟩
  refine ol_gval (v := (pt G1 1)) (xr_fieldAddr (p := 0) (q := 1) rfl fl110_1 rfl) rfl rfl rfl rfl rfl c15 ?_
  refine ol_gval (v := (pt G1 5)) (xr_fieldAddr (p := 1) (q := 4) rfl fl108_2 rfl) rfl rfl rfl rfl rfl c15 ?_
  refine ol_gval (v := .int .i64 a0.Tickets.High) (xr_load1 (v := .int .i64 a0.Tickets.High) rfl ag3 rfl (b2.seg 5 rfl rfl)) rfl rfl rfl rfl rfl c15 ?_
  refine ol_gval (v := .bool (decide (a0.Tickets.High < 0))) (xr_lss rfl rfl rfl) rfl rfl rfl rfl rfl c15 ?_
  refine ol_val (v := .bool (decide (a0.Tickets.High < 0))) (xr_pickF rfl rfl c15 rfl) rfl rfl rfl ?_
  refine ol_val (v := .bool (decide (a0.Tickets.High < 0))) (xr_move rfl rfl) rfl rfl rfl ?_
  rcases is j8 with ⟨c16, j8⟩ | ⟨c16, j8⟩
  ·skip
   refine ol_gskip rfl rfl rfl rfl rfl c16 ?_
   refine ol_gskip rfl rfl rfl rfl rfl c16 ?_
   refine ol_gskip rfl rfl rfl rfl rfl c16 ?_
   refine ol_gskip rfl rfl rfl rfl rfl c16 ?_
   refine ol_gskip rfl rfl rfl rfl rfl c16 ?_
   refine ol_gskip rfl rfl rfl rfl rfl c16 ?_
   refine ol_gskip rfl rfl rfl rfl rfl c16 ?_
   refine ol_gskip rfl rfl rfl rfl rfl c16 ?_
   refine ol_val (v := .bool true) (xr_pickT rfl rfl c16 rfl) rfl rfl rfl ?_
   refine ol_val (v := .bool true) (xr_move rfl rfl) rfl rfl rfl ?_
   refine ol_gskip rfl rfl rfl rfl rfl rfl ?_
   refine ol_gskip rfl rfl rfl rfl rfl rfl ?_
   refine ol_gskip rfl rfl rfl rfl rfl rfl ?_
   refine ol_gskip rfl rfl rfl rfl rfl rfl ?_
   refine ol_val (v := .bool true) (xr_pickT rfl rfl rfl rfl) rfl rfl rfl ?_
   refine ol_val (v := .bool true) (xr_move rfl rfl) rfl rfl rfl ?_
   refine ol_gskip rfl rfl rfl rfl rfl rfl ?_
   refine ol_gskip rfl rfl rfl rfl rfl rfl ?_
   refine ol_gskip rfl rfl rfl rfl rfl rfl ?_
   refine ol_gskip rfl rfl rfl rfl rfl rfl ?_
   refine ol_gskip rfl rfl rfl rfl rfl rfl ?_
   refine ol_gskip rfl rfl rfl rfl rfl rfl ?_
   refine ol_gskip rfl rfl rfl rfl rfl rfl ?_
   refine ol_val (v := .bool true) (xr_pickT rfl rfl rfl rfl) rfl rfl rfl ?_
   refine ol_nil ?_
   obtain rfl := Option.some.inj j8
   refine thn_i ?_
   exact ⟨rfl, rfl, q13⟩
  refine ol_gval (v := (pt G1 1)) (xr_fieldAddr (p := 0) (q := 1) rfl fl110_1 rfl) rfl rfl rfl rfl rfl c16 ?_
  refine ol_gval (v := (pt G1 5)) (xr_fieldAddr (p := 1) (q := 4) rfl fl108_2 rfl) rfl rfl rfl rfl rfl c16 ?_
  refine ol_gval (v := .int .i64 a0.Tickets.High) (xr_load1 (v := .int .i64 a0.Tickets.High) rfl ag3 rfl (b2.seg 5 rfl rfl)) rfl rfl rfl rfl rfl c16 ?_
  refine ol_gval (v := (pt G1 1)) (xr_fieldAddr (p := 0) (q := 1) rfl fl110_1 rfl) rfl rfl rfl rfl rfl c16 ?_
  refine ol_gval (v := (pt G1 1)) (xr_fieldAddr (p := 1) (q := 0) rfl fl108_0 rfl) rfl rfl rfl rfl rfl c16 ?_
  refine ol_gval (v := (pt G1 2)) (xr_fieldAddr (p := 1) (q := 1) rfl fl106_1 rfl) rfl rfl rfl rfl rfl c16 ?_
  refine ol_gval (v := .int .i64 a0.Tickets.Geometry.Slots) (xr_load1 (v := .int .i64 a0.Tickets.Geometry.Slots) rfl ag3 rfl (b2.seg 2 rfl rfl)) rfl rfl rfl rfl rfl c16 ?_
  refine ol_gval (v := .bool (decide (a0.Tickets.High > a0.Tickets.Geometry.Slots))) (xr_gtr rfl rfl rfl) rfl rfl rfl rfl rfl c16 ?_
  refine ol_val (v := .bool (decide (a0.Tickets.High > a0.Tickets.Geometry.Slots))) (xr_pickF rfl rfl c16 rfl) rfl rfl rfl ?_
  refine ol_val (v := .bool (decide (a0.Tickets.High > a0.Tickets.Geometry.Slots))) (xr_move rfl rfl) rfl rfl rfl ?_
  rcases is j8 with ⟨c17, j8⟩ | ⟨c17, j8⟩
  ·skip
   refine ol_gskip rfl rfl rfl rfl rfl c17 ?_
   refine ol_gskip rfl rfl rfl rfl rfl c17 ?_
   refine ol_gskip rfl rfl rfl rfl rfl c17 ?_
   refine ol_gskip rfl rfl rfl rfl rfl c17 ?_
   refine ol_val (v := .bool true) (xr_pickT rfl rfl c17 rfl) rfl rfl rfl ?_
   refine ol_val (v := .bool true) (xr_move rfl rfl) rfl rfl rfl ?_
   refine ol_gskip rfl rfl rfl rfl rfl rfl ?_
   refine ol_gskip rfl rfl rfl rfl rfl rfl ?_
   refine ol_gskip rfl rfl rfl rfl rfl rfl ?_
   refine ol_gskip rfl rfl rfl rfl rfl rfl ?_
   refine ol_gskip rfl rfl rfl rfl rfl rfl ?_
   refine ol_gskip rfl rfl rfl rfl rfl rfl ?_
   refine ol_gskip rfl rfl rfl rfl rfl rfl ?_
   refine ol_val (v := .bool true) (xr_pickT rfl rfl rfl rfl) rfl rfl rfl ?_
   refine ol_nil ?_
   obtain rfl := Option.some.inj j8
   refine thn_i ?_
   exact ⟨rfl, rfl, q13⟩
  refine ol_gval (v := (pt G1 1)) (xr_fieldAddr (p := 0) (q := 1) rfl fl110_1 rfl) rfl rfl rfl rfl rfl c17 ?_
  refine ol_gval (v := (pt G1 6)) (xr_fieldAddr (p := 1) (q := 5) rfl fl108_3 rfl) rfl rfl rfl rfl rfl c17 ?_
  refine ol_gval (v := .int .i64 a0.Tickets.Free) (xr_load1 (v := .int .i64 a0.Tickets.Free) rfl ag3 rfl (b2.seg 6 rfl rfl)) rfl rfl rfl rfl rfl c17 ?_
  refine ol_gval (v := .bool (decide (a0.Tickets.Free < 0))) (xr_lss rfl rfl rfl) rfl rfl rfl rfl rfl c17 ?_
  refine ol_val (v := .bool (decide (a0.Tickets.Free < 0))) (xr_pickF rfl rfl c17 rfl) rfl rfl rfl ?_
  refine ol_val (v := .bool (decide (a0.Tickets.Free < 0))) (xr_move rfl rfl) rfl rfl rfl ?_
  rcases is j8 with ⟨c18, j8⟩ | ⟨c18, j8⟩
  ·skip
   refine ol_gskip rfl rfl rfl rfl rfl c18 ?_
   refine ol_gskip rfl rfl rfl rfl rfl c18 ?_
   refine ol_gskip rfl rfl rfl rfl rfl c18 ?_
   refine ol_gskip rfl rfl rfl rfl rfl c18 ?_
   refine ol_gskip rfl rfl rfl rfl rfl c18 ?_
   refine ol_gskip rfl rfl rfl rfl rfl c18 ?_
   refine ol_gskip rfl rfl rfl rfl rfl c18 ?_
   refine ol_val (v := .bool true) (xr_pickT rfl rfl c18 rfl) rfl rfl rfl ?_
   refine ol_nil ?_
   obtain rfl := Option.some.inj j8
   refine thn_i ?_
   exact ⟨rfl, rfl, q13⟩
  refine ol_gval (v := (pt G1 1)) (xr_fieldAddr (p := 0) (q := 1) rfl fl110_1 rfl) rfl rfl rfl rfl rfl c18 ?_
  refine ol_gval (v := (pt G1 6)) (xr_fieldAddr (p := 1) (q := 5) rfl fl108_3 rfl) rfl rfl rfl rfl rfl c18 ?_
  refine ol_gval (v := .int .i64 a0.Tickets.Free) (xr_load1 (v := .int .i64 a0.Tickets.Free) rfl ag3 rfl (b2.seg 6 rfl rfl)) rfl rfl rfl rfl rfl c18 ?_
  refine ol_gval (v := (pt G1 1)) (xr_fieldAddr (p := 0) (q := 1) rfl fl110_1 rfl) rfl rfl rfl rfl rfl c18 ?_
  refine ol_gval (v := (pt G1 5)) (xr_fieldAddr (p := 1) (q := 4) rfl fl108_2 rfl) rfl rfl rfl rfl rfl c18 ?_
  refine ol_gval (v := .int .i64 a0.Tickets.High) (xr_load1 (v := .int .i64 a0.Tickets.High) rfl ag3 rfl (b2.seg 5 rfl rfl)) rfl rfl rfl rfl rfl c18 ?_
  refine ol_gval (v := .bool (decide (a0.Tickets.Free > a0.Tickets.High))) (xr_gtr rfl rfl rfl) rfl rfl rfl rfl rfl c18 ?_
  refine ol_val (v := .bool (decide (a0.Tickets.Free > a0.Tickets.High))) (xr_pickF rfl rfl c18 rfl) rfl rfl rfl ?_
  refine ol_nil ?_
  obtain rfl := Option.some.inj j8
  refine thn_i ?_
  exact ⟨rfl, rfl, q13⟩
 rintro ρ19 w20 ⟨e1, e51, q21⟩
 have b2 := b2.gr q21
 have fB := fB.gr q21
 rcases is h with ⟨c22, h⟩ | ⟨c22, h⟩
 ·refine cw_condT e51 c22 ?_
  refine cw_seq ?_
  refine cw_region ?_
  refine ol_val (v := .bool false) (xr_assign rfl rfl) rfl rfl rfl ?_
  refine ol_nil ?_
  refine cw_ret ?_
  repeat (first | with_reducible refine thn_r ?_ | with_reducible refine blk_r ?_)
  obtain rfl := Option.some.inj h
  refine fin_ret1 Try.results132 rfl ?_
  exact ⟨_, rfl, rfl, fB⟩
 refine cw_condF e51 c22 ?_
 refine cw_skip ?_
 refine cw_seq ?_
 refine cw_region ?_
 refine ol_val (v := Value.func (.func 144) #[] #[(pt G1 0)]) (xr_makeFunc rfl (ac e1 an)) rfl rfl rfl ?_
 refine ol_val (v := Value.func (.func 144) #[] #[(pt G1 0)]) (xr_assign rfl rfl) rfl rfl rfl ?_
 refine ol_nil ?_
 refine cw_seq ?_
 refine cw_seq ?_
 obtain ⟨x23, j24, h⟩ := bs h
 refine cw_mid (fun ρ' w' => ρ' 1 = (pt G1 0) ∧ ρ' 3 = Value.func (.func 144) #[] #[(pt G1 0)] ∧ ρ' 98 = .bool x23 ∧ Gr w20 w') ?_ ?_
 ·skip
  refine rd_region mo ?_
  intro w25 q26
  have b2 := b2.gr q26
  have fB := fB.gr q26
  refine rd_seq (m := 0) (n := 16) rfl ?_
  refine ol_val (v := (pt G1 1)) (xr_fieldAddr (p := 0) (q := 1) rfl fl110_1 e1) rfl rfl rfl ?_
  refine ol_val (v := (pt G1 5)) (xr_fieldAddr (p := 1) (q := 4) rfl fl108_2 rfl) rfl rfl rfl ?_
  refine ol_val (v := .int .i64 a0.Tickets.High) (xr_load1 (v := .int .i64 a0.Tickets.High) rfl ag3 rfl (b2.seg 5 rfl rfl)) rfl rfl rfl ?_
  refine ol_val (v := .bool (decide (a0.Tickets.High = 0))) (xr_eqI rfl Try.underlying3 rfl rfl rfl) rfl rfl rfl ?_
  refine ol_val (v := .bool (decide (a0.Tickets.High = 0))) (xr_move rfl rfl) rfl rfl rfl ?_
  rcases is j24 with ⟨c27, j24⟩ | ⟨c27, j24⟩
  ·skip
   refine ol_gval (v := (pt G1 1)) (xr_fieldAddr (p := 0) (q := 1) rfl fl110_1 e1) rfl rfl rfl rfl rfl c27 ?_
   refine ol_gval (v := (pt G1 4)) (xr_fieldAddr (p := 1) (q := 3) rfl fl108_1 rfl) rfl rfl rfl rfl rfl c27 ?_
   refine ol_gval (v := .int .i64 a0.Tickets.Top) (xr_load1 (v := .int .i64 a0.Tickets.Top) rfl ag3 rfl (b2.seg 4 rfl rfl)) rfl rfl rfl rfl rfl c27 ?_
   refine ol_gval (v := .bool (!decide (a0.Tickets.Top = 0))) (xr_neI rfl Try.underlying3 rfl rfl rfl) rfl rfl rfl rfl rfl c27 ?_
   refine ol_val (v := .bool (!decide (a0.Tickets.Top = 0))) (xr_pickT rfl rfl c27 rfl) rfl rfl rfl ?_
   refine ol_val (v := .bool (!decide (a0.Tickets.Top = 0))) (xr_move rfl rfl) rfl rfl rfl ?_
   rcases is j24 with ⟨c28, j24⟩ | ⟨c28, j24⟩
   ·skip
    refine ol_gskip rfl rfl rfl rfl rfl c28 ?_
    refine ol_gskip rfl rfl rfl rfl rfl c28 ?_
    refine ol_gskip rfl rfl rfl rfl rfl c28 ?_
    refine ol_gskip rfl rfl rfl rfl rfl c28 ?_
    refine ol_gskip rfl rfl rfl rfl rfl c28 ?_
    refine ol_nilK ?_
    refine rd_drawL 16 20 [fun vz _ => vz = undef, fun vz _ => vz = undef, fun vz _ => vz = undef, fun vz _ => vz = undef] rfl ⟨fun _ _ _ h _ => h, fun _ _ _ h _ => h, fun _ _ _ h _ => h, fun _ _ _ h _ => h, trivial⟩ ?_ ?_
    ·refine ⟨?_, ?_, ?_, ?_, trivial⟩
     ·intro ρz wz hz hk hd
      exact sk_uskip rfl rfl ((hk 68 rfl).trans rfl) rfl
     ·intro ρz wz hz hk hd
      exact sk_uskip rfl rfl ((hk 68 rfl).trans rfl) rfl
     ·intro ρz wz hz hk hd
      exact sk_uskip rfl rfl ((hk 68 rfl).trans rfl) rfl
     intro ρz wz hz hk hd
     exact sk_uskip rfl rfl ((hk 68 rfl).trans rfl) rfl
    intro ρ29 w30 q31 hk hd
    have e1 := (hk 1 rfl).trans e1
    have e3 := (hk 3 rfl).trans rfl
    have e63 := (hk 63 rfl).trans rfl
    have e68 := (hk 68 rfl).trans rfl
    have e69 := hd 16 rfl rfl 69 rfl
    have e72 := hd 19 rfl rfl 72 rfl
    have b2 := b2.gr q31
    have fB := fB.gr q31
    refine rd_seq (m := 20) (n := 29) rfl ?_
    refine ol_uskip rfl rfl rfl rfl e68 ?_
    refine ol_uskip rfl rfl rfl rfl e68 ?_
    refine ol_gskip rfl rfl rfl rfl e63 c28 ?_
    refine ol_val (v := .bool true) (xr_pickT rfl e63 c28 rfl) rfl rfl rfl ?_
    refine ol_val (v := .bool true) (xr_move rfl rfl) rfl rfl rfl ?_
    refine ol_gskip rfl rfl rfl rfl rfl rfl ?_
    refine ol_gskip rfl rfl rfl rfl rfl rfl ?_
    refine ol_gskip rfl rfl rfl rfl rfl rfl ?_
    refine ol_gskip rfl rfl rfl rfl rfl rfl ?_
    refine ol_nilK ?_
    refine rd_drawL 29 32 [fun vz _ => vz = undef, fun vz _ => vz = undef, fun vz _ => vz = undef] rfl ⟨fun _ _ _ h _ => h, fun _ _ _ h _ => h, fun _ _ _ h _ => h, trivial⟩ ?_ ?_
    ·refine ⟨?_, ?_, ?_, trivial⟩
     ·intro ρz wz hz hk hd
      exact sk_uskip rfl rfl ((hk 81 rfl).trans rfl) rfl
     ·intro ρz wz hz hk hd
      exact sk_uskip rfl rfl ((hk 81 rfl).trans rfl) rfl
     intro ρz wz hz hk hd
     exact sk_uskip rfl rfl ((hk 81 rfl).trans rfl) rfl
    intro ρ32 w33 q34 hk hd
    have e1 := (hk 1 rfl).trans e1
    have e3 := (hk 3 rfl).trans e3
    have e77 := (hk 77 rfl).trans rfl
    have e81 := (hk 81 rfl).trans rfl
    have e82 := hd 29 rfl rfl 82 rfl
    have e84 := hd 31 rfl rfl 84 rfl
    have b2 := b2.gr q34
    have fB := fB.gr q34
    refine rd_seq (m := 32) (n := 37) rfl ?_
    refine ol_uskip rfl rfl rfl rfl e81 ?_
    refine ol_uskip rfl rfl rfl rfl e81 ?_
    refine ol_gskip rfl rfl rfl rfl e77 rfl ?_
    refine ol_val (v := .bool true) (xr_pickT rfl e77 rfl rfl) rfl rfl rfl ?_
    refine ol_val (v := .bool true) (xr_move rfl rfl) rfl rfl rfl ?_
    refine ol_nilK ?_
    refine rd_drawL 37 44 [fun vz _ => vz = undef, fun vz _ => vz = undef, fun vz _ => vz = undef, fun vz _ => vz = undef, fun vz _ => vz = undef, fun vz _ => vz = undef, fun vz _ => vz = undef] rfl ⟨fun _ _ _ h _ => h, fun _ _ _ h _ => h, fun _ _ _ h _ => h, fun _ _ _ h _ => h, fun _ _ _ h _ => h, fun _ _ _ h _ => h, fun _ _ _ h _ => h, trivial⟩ ?_ ?_
    ·refine ⟨?_, ?_, ?_, ?_, ?_, ?_, ?_, trivial⟩
     ·intro ρz wz hz hk hd
      exact sk_skip rfl rfl ((hk 89 rfl).trans rfl) rfl rfl
     ·intro ρz wz hz hk hd
      exact sk_skip rfl rfl ((hk 89 rfl).trans rfl) rfl rfl
     ·intro ρz wz hz hk hd
      exact sk_skip rfl rfl ((hk 89 rfl).trans rfl) rfl rfl
     ·intro ρz wz hz hk hd
      exact sk_skip rfl rfl ((hk 89 rfl).trans rfl) rfl rfl
     ·intro ρz wz hz hk hd
      exact sk_skip rfl rfl ((hk 89 rfl).trans rfl) rfl rfl
     ·intro ρz wz hz hk hd
      exact sk_skip rfl rfl ((hk 89 rfl).trans rfl) rfl rfl
     intro ρz wz hz hk hd
     exact sk_skip rfl rfl ((hk 89 rfl).trans rfl) rfl rfl
    intro ρ35 w36 q37 hk hd
    have e1 := (hk 1 rfl).trans e1
    have e3 := (hk 3 rfl).trans e3
    have e89 := (hk 89 rfl).trans rfl
    have e92 := hd 39 rfl rfl 92 rfl
    have e96 := hd 43 rfl rfl 96 rfl
    have b2 := b2.gr q37
    have fB := fB.gr q37
    refine rd_seq (m := 44) (n := 46) rfl ?_
    refine ol_gskip rfl rfl rfl rfl e89 rfl ?_
    refine ol_val (v := .bool true) (xr_pickT rfl e89 rfl rfl) rfl rfl rfl ?_
    refine ol_nilK ?_
    refine rd_end rfl ?_
    obtain rfl := Option.some.inj j24
    refine thn_i ?_
    exact ⟨e1, e3, rfl, (((q26.gr q31).gr q34).gr q37)⟩
   refine ol_gval (v := (pt G1 1)) (xr_fieldAddr (p := 0) (q := 1) rfl fl110_1 e1) rfl rfl rfl rfl rfl c28 ?_
   refine ol_gval (v := (pt G1 5)) (xr_fieldAddr (p := 1) (q := 4) rfl fl108_2 rfl) rfl rfl rfl rfl rfl c28 ?_
   refine ol_gval (v := .int .i64 a0.Tickets.High) (xr_load1 (v := .int .i64 a0.Tickets.High) rfl ag3 rfl (b2.seg 5 rfl rfl)) rfl rfl rfl rfl rfl c28 ?_
   refine ol_gval (v := .bool (decide (a0.Tickets.High > 0))) (xr_gtr rfl rfl rfl) rfl rfl rfl rfl rfl c28 ?_
   refine ol_gval (v := .bool (decide (a0.Tickets.High > 0))) (xr_move rfl rfl) rfl rfl rfl rfl rfl c28 ?_
   refine ol_nilK ?_
   rcases is j24 with ⟨c38, j24⟩ | ⟨c38, j24⟩
   ·skip
    refine rd_drawL 16 20 [fun vz wz => vz = (Value.func (.func 144) #[] #[(pt G1 0)] : Value), fun vz wz => vz = ((pt G1 1) : Value), fun vz wz => vz = ((pt G1 4) : Value), fun vz wz => vz = (.int .i64 a0.Tickets.Top : Value)] rfl ⟨fun _ _ _ h _ => h, fun _ _ _ h _ => h, fun _ _ _ h _ => h, fun _ _ _ h _ => h, trivial⟩ ?_ ?_
    ·refine ⟨?_, ?_, ?_, ?_, trivial⟩
     ·intro ρz wz hz hk hd
      exact sk_gval (v := Value.func (.func 144) #[] #[(pt G1 0)]) (xr_move rfl ((hk 3 rfl).trans rfl)) rfl rfl ((hk 68 rfl).trans rfl) c38 rfl
     ·intro ρz wz hz hk hd
      exact sk_gval (v := (pt G1 1)) (xr_fieldAddr (p := 0) (q := 1) rfl fl110_1 ((hk 1 rfl).trans e1)) rfl rfl ((hk 68 rfl).trans rfl) c38 rfl
     ·intro ρz wz hz hk hd
      exact sk_gval (v := (pt G1 4)) (xr_fieldAddr (p := 1) (q := 3) rfl fl108_1 (hd 17 rfl rfl 70 rfl)) rfl rfl ((hk 68 rfl).trans rfl) c38 rfl
     intro ρz wz hz hk hd
     exact sk_gval (v := .int .i64 a0.Tickets.Top) (xr_load1 (v := .int .i64 a0.Tickets.Top) rfl ag3 (hd 18 rfl rfl 71 rfl) ((b2.gr hz).seg 4 rfl rfl)) rfl rfl ((hk 68 rfl).trans rfl) c38 rfl
    intro ρ39 w40 q41 hk hd
    have e1 := (hk 1 rfl).trans e1
    have e3 := (hk 3 rfl).trans rfl
    have e63 := (hk 63 rfl).trans rfl
    have e68 := (hk 68 rfl).trans rfl
    have e69 := hd 16 rfl rfl 69 rfl
    have e72 := hd 19 rfl rfl 72 rfl
    have b2 := b2.gr q41
    have fB := fB.gr q41
    refine rd_seq (m := 20) (n := 29) rfl ?_
    obtain ⟨t42, k43, j24⟩ := bs j24
    refine ol_gop (opv_callV (C := [(pt G1 0)]) rfl e69 cal144 (ac e72 an) (super_Right_1__c.ok fu _ a0.Tickets.Top a0 G1 V0_0 (R0_0.gr fB) b2 _ k43)) rfl rfl rfl rfl e68 c38 ?_
    rintro _ w45 ⟨rfl, q44⟩
    have b2 := b2.gr q44
    have fB := fB.gr q44
    refine ol_gval (v := .bool (!t42)) (xr_not rfl rfl) rfl rfl rfl rfl e68 c38 ?_
    refine ol_gval (v := .bool (!t42)) (xr_pickT rfl e68 c38 rfl) rfl rfl rfl rfl e63 c28 ?_
    refine ol_val (v := .bool (!t42)) (xr_pickF rfl e63 c28 rfl) rfl rfl rfl ?_
    refine ol_val (v := .bool (!t42)) (xr_move rfl rfl) rfl rfl rfl ?_
    rcases is j24 with ⟨c46, j24⟩ | ⟨c46, j24⟩
    ·skip
     refine ol_gskip rfl rfl rfl rfl rfl c46 ?_
     refine ol_gskip rfl rfl rfl rfl rfl c46 ?_
     refine ol_gskip rfl rfl rfl rfl rfl c46 ?_
     refine ol_gskip rfl rfl rfl rfl rfl c46 ?_
     refine ol_nilK ?_
     refine rd_drawL 29 32 [fun vz _ => vz = undef, fun vz _ => vz = undef, fun vz _ => vz = undef] rfl ⟨fun _ _ _ h _ => h, fun _ _ _ h _ => h, fun _ _ _ h _ => h, trivial⟩ ?_ ?_
     ·refine ⟨?_, ?_, ?_, trivial⟩
      ·intro ρz wz hz hk hd
       exact sk_uskip rfl rfl ((hk 81 rfl).trans rfl) rfl
      ·intro ρz wz hz hk hd
       exact sk_uskip rfl rfl ((hk 81 rfl).trans rfl) rfl
      intro ρz wz hz hk hd
      exact sk_uskip rfl rfl ((hk 81 rfl).trans rfl) rfl
     intro ρ47 w48 q49 hk hd
     have e1 := (hk 1 rfl).trans e1
     have e3 := (hk 3 rfl).trans e3
     have e77 := (hk 77 rfl).trans rfl
     have e81 := (hk 81 rfl).trans rfl
     have e82 := hd 29 rfl rfl 82 rfl
     have e84 := hd 31 rfl rfl 84 rfl
     have b2 := b2.gr q49
     have fB := fB.gr q49
     refine rd_seq (m := 32) (n := 37) rfl ?_
     refine ol_uskip rfl rfl rfl rfl e81 ?_
     refine ol_uskip rfl rfl rfl rfl e81 ?_
     refine ol_gskip rfl rfl rfl rfl e77 c46 ?_
     refine ol_val (v := .bool true) (xr_pickT rfl e77 c46 rfl) rfl rfl rfl ?_
     refine ol_val (v := .bool true) (xr_move rfl rfl) rfl rfl rfl ?_
     refine ol_nilK ?_
     refine rd_drawL 37 44 [fun vz _ => vz = undef, fun vz _ => vz = undef, fun vz _ => vz = undef, fun vz _ => vz = undef, fun vz _ => vz = undef, fun vz _ => vz = undef, fun vz _ => vz = undef] rfl ⟨fun _ _ _ h _ => h, fun _ _ _ h _ => h, fun _ _ _ h _ => h, fun _ _ _ h _ => h, fun _ _ _ h _ => h, fun _ _ _ h _ => h, fun _ _ _ h _ => h, trivial⟩ ?_ ?_
     ·refine ⟨?_, ?_, ?_, ?_, ?_, ?_, ?_, trivial⟩
      ·intro ρz wz hz hk hd
       exact sk_skip rfl rfl ((hk 89 rfl).trans rfl) rfl rfl
      ·intro ρz wz hz hk hd
       exact sk_skip rfl rfl ((hk 89 rfl).trans rfl) rfl rfl
      ·intro ρz wz hz hk hd
       exact sk_skip rfl rfl ((hk 89 rfl).trans rfl) rfl rfl
      ·intro ρz wz hz hk hd
       exact sk_skip rfl rfl ((hk 89 rfl).trans rfl) rfl rfl
      ·intro ρz wz hz hk hd
       exact sk_skip rfl rfl ((hk 89 rfl).trans rfl) rfl rfl
      ·intro ρz wz hz hk hd
       exact sk_skip rfl rfl ((hk 89 rfl).trans rfl) rfl rfl
      intro ρz wz hz hk hd
      exact sk_skip rfl rfl ((hk 89 rfl).trans rfl) rfl rfl
     intro ρ50 w51 q52 hk hd
     have e1 := (hk 1 rfl).trans e1
     have e3 := (hk 3 rfl).trans e3
     have e89 := (hk 89 rfl).trans rfl
     have e92 := hd 39 rfl rfl 92 rfl
     have e96 := hd 43 rfl rfl 96 rfl
     have b2 := b2.gr q52
     have fB := fB.gr q52
     refine rd_seq (m := 44) (n := 46) rfl ?_
     refine ol_gskip rfl rfl rfl rfl e89 rfl ?_
     refine ol_val (v := .bool true) (xr_pickT rfl e89 rfl rfl) rfl rfl rfl ?_
     refine ol_nilK ?_
     refine rd_end rfl ?_
     obtain rfl := Option.some.inj j24
     refine thn_i ?_
     exact ⟨e1, e3, rfl, ((((q26.gr q41).gr q44).gr q49).gr q52)⟩
    refine ol_gval (v := (pt G1 7)) (xr_fieldAddr (p := 0) (q := 7) rfl fl110_2 e1) rfl rfl rfl rfl rfl c46 ?_
    refine ol_gval (v := .int .i64 a0.Dir) (xr_load1 (v := .int .i64 a0.Dir) rfl ag3 rfl (b2.seg 7 rfl rfl)) rfl rfl rfl rfl rfl c46 ?_
    refine ol_gval (v := .bool (!decide (a0.Dir = 0))) (xr_neI rfl Try.underlying3 rfl rfl rfl) rfl rfl rfl rfl rfl c46 ?_
    refine ol_gval (v := .bool (!decide (a0.Dir = 0))) (xr_move rfl rfl) rfl rfl rfl rfl rfl c46 ?_
    refine ol_nilK ?_
    rcases is j24 with ⟨c53, j24⟩ | ⟨c53, j24⟩
    ·skip
     refine rd_drawL 29 32 [fun vz wz => vz = (Value.func (.func 144) #[] #[(pt G1 0)] : Value), fun vz wz => vz = ((pt G1 7) : Value), fun vz wz => vz = (.int .i64 a0.Dir : Value)] rfl ⟨fun _ _ _ h _ => h, fun _ _ _ h _ => h, fun _ _ _ h _ => h, trivial⟩ ?_ ?_
     ·refine ⟨?_, ?_, ?_, trivial⟩
      ·intro ρz wz hz hk hd
       exact sk_gval (v := Value.func (.func 144) #[] #[(pt G1 0)]) (xr_move rfl ((hk 3 rfl).trans e3)) rfl rfl ((hk 81 rfl).trans rfl) c53 rfl
      ·intro ρz wz hz hk hd
       exact sk_gval (v := (pt G1 7)) (xr_fieldAddr (p := 0) (q := 7) rfl fl110_2 ((hk 1 rfl).trans e1)) rfl rfl ((hk 81 rfl).trans rfl) c53 rfl
      intro ρz wz hz hk hd
      exact sk_gval (v := .int .i64 a0.Dir) (xr_load1 (v := .int .i64 a0.Dir) rfl ag3 (hd 30 rfl rfl 83 rfl) ((b2.gr hz).seg 7 rfl rfl)) rfl rfl ((hk 81 rfl).trans rfl) c53 rfl
     intro ρ54 w55 q56 hk hd
     have e1 := (hk 1 rfl).trans e1
     have e3 := (hk 3 rfl).trans e3
     have e77 := (hk 77 rfl).trans rfl
     have e81 := (hk 81 rfl).trans rfl
     have e82 := hd 29 rfl rfl 82 rfl
     have e84 := hd 31 rfl rfl 84 rfl
     have b2 := b2.gr q56
     have fB := fB.gr q56
     refine rd_seq (m := 32) (n := 37) rfl ?_
     obtain ⟨t57, k58, j24⟩ := bs j24
     refine ol_gop (opv_callV (C := [(pt G1 0)]) rfl e82 cal144 (ac e84 an) (super_Right_1__c.ok fu _ a0.Dir a0 G1 V0_0 (R0_0.gr fB) b2 _ k58)) rfl rfl rfl rfl e81 c53 ?_
     rintro _ w60 ⟨rfl, q59⟩
     have b2 := b2.gr q59
     have fB := fB.gr q59
     refine ol_gval (v := .bool (!t57)) (xr_not rfl rfl) rfl rfl rfl rfl e81 c53 ?_
     refine ol_gval (v := .bool (!t57)) (xr_pickT rfl e81 c53 rfl) rfl rfl rfl rfl e77 c46 ?_
     refine ol_val (v := .bool (!t57)) (xr_pickF rfl e77 c46 rfl) rfl rfl rfl ?_
     refine ol_val (v := .bool (!t57)) (xr_move rfl rfl) rfl rfl rfl ?_
     refine ol_nilK ?_
     rcases is j24 with ⟨c61, j24⟩ | ⟨c61, j24⟩
     ·skip
      refine rd_drawL 37 44 [fun vz _ => vz = undef, fun vz _ => vz = undef, fun vz _ => vz = undef, fun vz _ => vz = undef, fun vz _ => vz = undef, fun vz _ => vz = undef, fun vz _ => vz = undef] rfl ⟨fun _ _ _ h _ => h, fun _ _ _ h _ => h, fun _ _ _ h _ => h, fun _ _ _ h _ => h, fun _ _ _ h _ => h, fun _ _ _ h _ => h, fun _ _ _ h _ => h, trivial⟩ ?_ ?_
      ·refine ⟨?_, ?_, ?_, ?_, ?_, ?_, ?_, trivial⟩
       ·intro ρz wz hz hk hd
        exact sk_skip rfl rfl ((hk 89 rfl).trans rfl) c61 rfl
       ·intro ρz wz hz hk hd
        exact sk_skip rfl rfl ((hk 89 rfl).trans rfl) c61 rfl
       ·intro ρz wz hz hk hd
        exact sk_skip rfl rfl ((hk 89 rfl).trans rfl) c61 rfl
       ·intro ρz wz hz hk hd
        exact sk_skip rfl rfl ((hk 89 rfl).trans rfl) c61 rfl
       ·intro ρz wz hz hk hd
        exact sk_skip rfl rfl ((hk 89 rfl).trans rfl) c61 rfl
       ·intro ρz wz hz hk hd
        exact sk_skip rfl rfl ((hk 89 rfl).trans rfl) c61 rfl
       intro ρz wz hz hk hd
       exact sk_skip rfl rfl ((hk 89 rfl).trans rfl) c61 rfl
      intro ρ62 w63 q64 hk hd
      have e1 := (hk 1 rfl).trans e1
      have e3 := (hk 3 rfl).trans e3
      have e89 := (hk 89 rfl).trans rfl
      have e92 := hd 39 rfl rfl 92 rfl
      have e96 := hd 43 rfl rfl 96 rfl
      have b2 := b2.gr q64
      have fB := fB.gr q64
      refine rd_seq (m := 44) (n := 46) rfl ?_
      refine ol_gskip rfl rfl rfl rfl e89 c61 ?_
      refine ol_val (v := .bool true) (xr_pickT rfl e89 c61 rfl) rfl rfl rfl ?_
      refine ol_nilK ?_
      refine rd_end rfl ?_
      obtain rfl := Option.some.inj j24
      refine thn_i ?_
      exact ⟨e1, e3, rfl, (((((q26.gr q41).gr q44).gr q56).gr q59).gr q64)⟩
     obtain ⟨t65, k66, j24⟩ := bs j24
     refine rd_drawL 37 44 [fun vz wz => vz = ((pt G1 8) : Value), fun vz wz => vz = (V0_0 : Value), fun vz wz => vz = (.int .i64 (List.length a0.Charts : Int) : Value), fun vz wz => vz = ((pt G1 1) : Value), fun vz wz => vz = ((pt G1 1) : Value), fun vz wz => vz = (aggV [(sI a0.Tickets.Geometry.Blocks), (sI a0.Tickets.Geometry.Slots), (sI a0.Tickets.Geometry.Gens)] : Value), fun vz wz => vz = (.int .i64 t65 : Value)] rfl ⟨fun _ _ _ h _ => h, fun _ _ _ h _ => h, fun _ _ _ h _ => h, fun _ _ _ h _ => h, fun _ _ _ h _ => h, fun _ _ _ h _ => h, fun _ _ _ h _ => h, trivial⟩ ?_ ?_
     ·refine ⟨?_, ?_, ?_, ?_, ?_, ?_, ?_, trivial⟩
      ·intro ρz wz hz hk hd
       exact sk_gval (v := (pt G1 8)) (xr_fieldAddr (p := 0) (q := 8) rfl fl110_3 ((hk 1 rfl).trans e1)) rfl rfl ((hk 89 rfl).trans rfl) c61 rfl
      ·intro ρz wz hz hk hd
       exact sk_gval (v := V0_0) (xr_load1 (v := V0_0) rfl ag25 (hd 37 rfl rfl 90 rfl) ((b2.gr hz).seg 8 rfl rfl)) rfl rfl ((hk 89 rfl).trans rfl) c61 rfl
      ·intro ρz wz hz hk hd
       exact sk_gval (v := .int .i64 (List.length a0.Charts : Int)) (xr_lenR rfl Try.underlying25 (hd 38 rfl rfl 91 rfl) (R0_0.gr (fB.gr hz))) rfl rfl ((hk 89 rfl).trans rfl) c61 rfl
      ·intro ρz wz hz hk hd
       exact sk_gval (v := (pt G1 1)) (xr_fieldAddr (p := 0) (q := 1) rfl fl110_1 ((hk 1 rfl).trans e1)) rfl rfl ((hk 89 rfl).trans rfl) c61 rfl
      ·intro ρz wz hz hk hd
       exact sk_gval (v := (pt G1 1)) (xr_fieldAddr (p := 1) (q := 0) rfl fl108_0 (hd 40 rfl rfl 93 rfl)) rfl rfl ((hk 89 rfl).trans rfl) c61 rfl
      ·intro ρz wz hz hk hd
       exact sk_gval (xr_loadS (ss := [(sI a0.Tickets.Geometry.Blocks), (sI a0.Tickets.Geometry.Slots), (sI a0.Tickets.Geometry.Gens)]) rfl ag106 sz106 rfl (hd 41 rfl rfl 94 rfl) ((b2.gr hz).segs 1 3 rfl)) rfl rfl ((hk 89 rfl).trans rfl) c61 rfl
      intro ρz wz hz hk hd
      refine sk_gop (opv_call rfl cal145 (ac (hd 42 rfl rfl 95 rfl) an) (geom_Charts.ok fu _ a0.Tickets.Geometry _ k66)) rfl rfl ((hk 89 rfl).trans rfl) c61 ?_
      rintro _ wy ⟨rfl, q67⟩
      exact ⟨rfl, q67⟩
     intro ρ68 w69 q70 hk hd
     have e1 := (hk 1 rfl).trans e1
     have e3 := (hk 3 rfl).trans e3
     have e89 := (hk 89 rfl).trans rfl
     have e92 := hd 39 rfl rfl 92 rfl
     have e96 := hd 43 rfl rfl 96 rfl
     have b2 := b2.gr q70
     have fB := fB.gr q70
     refine rd_seq (m := 44) (n := 46) rfl ?_
     refine ol_gval (v := .bool (!decide ((List.length a0.Charts : Int) = t65))) (xr_neI rfl Try.underlying3 rfl e92 e96) rfl rfl rfl rfl e89 c61 ?_
     refine ol_val (v := .bool (!decide ((List.length a0.Charts : Int) = t65))) (xr_pickF rfl e89 c61 rfl) rfl rfl rfl ?_
     refine ol_nilK ?_
     refine rd_end rfl ?_
     obtain rfl := Option.some.inj j24
     refine thn_i ?_
     exact ⟨e1, e3, rfl, (((((q26.gr q41).gr q44).gr q56).gr q59).gr q70)⟩
    refine rd_drawL 29 32 [fun vz _ => vz = undef, fun vz _ => vz = undef, fun vz _ => vz = undef] rfl ⟨fun _ _ _ h _ => h, fun _ _ _ h _ => h, fun _ _ _ h _ => h, trivial⟩ ?_ ?_
    ·refine ⟨?_, ?_, ?_, trivial⟩
     ·intro ρz wz hz hk hd
      exact sk_skip rfl rfl ((hk 81 rfl).trans rfl) c53 rfl
     ·intro ρz wz hz hk hd
      exact sk_skip rfl rfl ((hk 81 rfl).trans rfl) c53 rfl
     intro ρz wz hz hk hd
     exact sk_skip rfl rfl ((hk 81 rfl).trans rfl) c53 rfl
    intro ρ71 w72 q73 hk hd
    have e1 := (hk 1 rfl).trans e1
    have e3 := (hk 3 rfl).trans e3
    have e77 := (hk 77 rfl).trans rfl
    have e81 := (hk 81 rfl).trans rfl
    have e82 := hd 29 rfl rfl 82 rfl
    have e84 := hd 31 rfl rfl 84 rfl
    have b2 := b2.gr q73
    have fB := fB.gr q73
    refine rd_seq (m := 32) (n := 37) rfl ?_
    refine ol_gskip rfl rfl rfl rfl e81 c53 ?_
    refine ol_gskip rfl rfl rfl rfl e81 c53 ?_
    refine ol_gval (v := .bool false) (xr_pickF rfl e81 c53 rfl) rfl rfl rfl rfl e77 c46 ?_
    refine ol_val (v := .bool false) (xr_pickF rfl e77 c46 rfl) rfl rfl rfl ?_
    refine ol_val (v := .bool false) (xr_move rfl rfl) rfl rfl rfl ?_
    refine ol_nilK ?_
    obtain ⟨t74, k75, j24⟩ := bs j24
    refine rd_drawL 37 44 [fun vz wz => vz = ((pt G1 8) : Value), fun vz wz => vz = (V0_0 : Value), fun vz wz => vz = (.int .i64 (List.length a0.Charts : Int) : Value), fun vz wz => vz = ((pt G1 1) : Value), fun vz wz => vz = ((pt G1 1) : Value), fun vz wz => vz = (aggV [(sI a0.Tickets.Geometry.Blocks), (sI a0.Tickets.Geometry.Slots), (sI a0.Tickets.Geometry.Gens)] : Value), fun vz wz => vz = (.int .i64 t74 : Value)] rfl ⟨fun _ _ _ h _ => h, fun _ _ _ h _ => h, fun _ _ _ h _ => h, fun _ _ _ h _ => h, fun _ _ _ h _ => h, fun _ _ _ h _ => h, fun _ _ _ h _ => h, trivial⟩ ?_ ?_
    ·refine ⟨?_, ?_, ?_, ?_, ?_, ?_, ?_, trivial⟩
     ·intro ρz wz hz hk hd
      exact sk_gval (v := (pt G1 8)) (xr_fieldAddr (p := 0) (q := 8) rfl fl110_3 ((hk 1 rfl).trans e1)) rfl rfl ((hk 89 rfl).trans rfl) rfl rfl
     ·intro ρz wz hz hk hd
      exact sk_gval (v := V0_0) (xr_load1 (v := V0_0) rfl ag25 (hd 37 rfl rfl 90 rfl) ((b2.gr hz).seg 8 rfl rfl)) rfl rfl ((hk 89 rfl).trans rfl) rfl rfl
     ·intro ρz wz hz hk hd
      exact sk_gval (v := .int .i64 (List.length a0.Charts : Int)) (xr_lenR rfl Try.underlying25 (hd 38 rfl rfl 91 rfl) (R0_0.gr (fB.gr hz))) rfl rfl ((hk 89 rfl).trans rfl) rfl rfl
     ·intro ρz wz hz hk hd
      exact sk_gval (v := (pt G1 1)) (xr_fieldAddr (p := 0) (q := 1) rfl fl110_1 ((hk 1 rfl).trans e1)) rfl rfl ((hk 89 rfl).trans rfl) rfl rfl
     ·intro ρz wz hz hk hd
      exact sk_gval (v := (pt G1 1)) (xr_fieldAddr (p := 1) (q := 0) rfl fl108_0 (hd 40 rfl rfl 93 rfl)) rfl rfl ((hk 89 rfl).trans rfl) rfl rfl
     ·intro ρz wz hz hk hd
      exact sk_gval (xr_loadS (ss := [(sI a0.Tickets.Geometry.Blocks), (sI a0.Tickets.Geometry.Slots), (sI a0.Tickets.Geometry.Gens)]) rfl ag106 sz106 rfl (hd 41 rfl rfl 94 rfl) ((b2.gr hz).segs 1 3 rfl)) rfl rfl ((hk 89 rfl).trans rfl) rfl rfl
     intro ρz wz hz hk hd
     refine sk_gop (opv_call rfl cal145 (ac (hd 42 rfl rfl 95 rfl) an) (geom_Charts.ok fu _ a0.Tickets.Geometry _ k75)) rfl rfl ((hk 89 rfl).trans rfl) rfl ?_
     rintro _ wy ⟨rfl, q76⟩
     exact ⟨rfl, q76⟩
    intro ρ77 w78 q79 hk hd
    have e1 := (hk 1 rfl).trans e1
    have e3 := (hk 3 rfl).trans e3
    have e89 := (hk 89 rfl).trans rfl
    have e92 := hd 39 rfl rfl 92 rfl
    have e96 := hd 43 rfl rfl 96 rfl
    have b2 := b2.gr q79
    have fB := fB.gr q79
    refine rd_seq (m := 44) (n := 46) rfl ?_
    refine ol_gval (v := .bool (!decide ((List.length a0.Charts : Int) = t74))) (xr_neI rfl Try.underlying3 rfl e92 e96) rfl rfl rfl rfl e89 rfl ?_
    refine ol_val (v := .bool (!decide ((List.length a0.Charts : Int) = t74))) (xr_pickF rfl e89 rfl rfl) rfl rfl rfl ?_
    refine ol_nilK ?_
    refine rd_end rfl ?_
    obtain rfl := Option.some.inj j24
    refine thn_i ?_
    exact ⟨e1, e3, rfl, ((((q26.gr q41).gr q44).gr q73).gr q79)⟩
   refine rd_drawL 16 20 [fun vz _ => vz = undef, fun vz _ => vz = undef, fun vz _ => vz = undef, fun vz _ => vz = undef] rfl ⟨fun _ _ _ h _ => h, fun _ _ _ h _ => h, fun _ _ _ h _ => h, fun _ _ _ h _ => h, trivial⟩ ?_ ?_
   ·refine ⟨?_, ?_, ?_, ?_, trivial⟩
    ·intro ρz wz hz hk hd
     exact sk_skip rfl rfl ((hk 68 rfl).trans rfl) c38 rfl
    ·intro ρz wz hz hk hd
     exact sk_skip rfl rfl ((hk 68 rfl).trans rfl) c38 rfl
    ·intro ρz wz hz hk hd
     exact sk_skip rfl rfl ((hk 68 rfl).trans rfl) c38 rfl
    intro ρz wz hz hk hd
    exact sk_skip rfl rfl ((hk 68 rfl).trans rfl) c38 rfl
   intro ρ80 w81 q82 hk hd
   have e1 := (hk 1 rfl).trans e1
   have e3 := (hk 3 rfl).trans rfl
   have e63 := (hk 63 rfl).trans rfl
   have e68 := (hk 68 rfl).trans rfl
   have e69 := hd 16 rfl rfl 69 rfl
   have e72 := hd 19 rfl rfl 72 rfl
   have b2 := b2.gr q82
   have fB := fB.gr q82
   refine rd_seq (m := 20) (n := 29) rfl ?_
   refine ol_gskip rfl rfl rfl rfl e68 c38 ?_
   refine ol_gskip rfl rfl rfl rfl e68 c38 ?_
   refine ol_gval (v := .bool false) (xr_pickF rfl e68 c38 rfl) rfl rfl rfl rfl e63 c28 ?_
   refine ol_val (v := .bool false) (xr_pickF rfl e63 c28 rfl) rfl rfl rfl ?_
   refine ol_val (v := .bool false) (xr_move rfl rfl) rfl rfl rfl ?_
   refine ol_gval (v := (pt G1 7)) (xr_fieldAddr (p := 0) (q := 7) rfl fl110_2 e1) rfl rfl rfl rfl rfl rfl ?_
   refine ol_gval (v := .int .i64 a0.Dir) (xr_load1 (v := .int .i64 a0.Dir) rfl ag3 rfl (b2.seg 7 rfl rfl)) rfl rfl rfl rfl rfl rfl ?_
   refine ol_gval (v := .bool (!decide (a0.Dir = 0))) (xr_neI rfl Try.underlying3 rfl rfl rfl) rfl rfl rfl rfl rfl rfl ?_
   refine ol_gval (v := .bool (!decide (a0.Dir = 0))) (xr_move rfl rfl) rfl rfl rfl rfl rfl rfl ?_
   refine ol_nilK ?_
   rcases is j24 with ⟨c83, j24⟩ | ⟨c83, j24⟩
   ·skip
    refine rd_drawL 29 32 [fun vz wz => vz = (Value.func (.func 144) #[] #[(pt G1 0)] : Value), fun vz wz => vz = ((pt G1 7) : Value), fun vz wz => vz = (.int .i64 a0.Dir : Value)] rfl ⟨fun _ _ _ h _ => h, fun _ _ _ h _ => h, fun _ _ _ h _ => h, trivial⟩ ?_ ?_
    ·refine ⟨?_, ?_, ?_, trivial⟩
     ·intro ρz wz hz hk hd
      exact sk_gval (v := Value.func (.func 144) #[] #[(pt G1 0)]) (xr_move rfl ((hk 3 rfl).trans e3)) rfl rfl ((hk 81 rfl).trans rfl) c83 rfl
     ·intro ρz wz hz hk hd
      exact sk_gval (v := (pt G1 7)) (xr_fieldAddr (p := 0) (q := 7) rfl fl110_2 ((hk 1 rfl).trans e1)) rfl rfl ((hk 81 rfl).trans rfl) c83 rfl
     intro ρz wz hz hk hd
     exact sk_gval (v := .int .i64 a0.Dir) (xr_load1 (v := .int .i64 a0.Dir) rfl ag3 (hd 30 rfl rfl 83 rfl) ((b2.gr hz).seg 7 rfl rfl)) rfl rfl ((hk 81 rfl).trans rfl) c83 rfl
    intro ρ84 w85 q86 hk hd
    have e1 := (hk 1 rfl).trans e1
    have e3 := (hk 3 rfl).trans e3
    have e77 := (hk 77 rfl).trans rfl
    have e81 := (hk 81 rfl).trans rfl
    have e82 := hd 29 rfl rfl 82 rfl
    have e84 := hd 31 rfl rfl 84 rfl
    have b2 := b2.gr q86
    have fB := fB.gr q86
    refine rd_seq (m := 32) (n := 37) rfl ?_
    obtain ⟨t87, k88, j24⟩ := bs j24
    refine ol_gop (opv_callV (C := [(pt G1 0)]) rfl e82 cal144 (ac e84 an) (super_Right_1__c.ok fu _ a0.Dir a0 G1 V0_0 (R0_0.gr fB) b2 _ k88)) rfl rfl rfl rfl e81 c83 ?_
    rintro _ w90 ⟨rfl, q89⟩
    have b2 := b2.gr q89
    have fB := fB.gr q89
    refine ol_gval (v := .bool (!t87)) (xr_not rfl rfl) rfl rfl rfl rfl e81 c83 ?_
    refine ol_gval (v := .bool (!t87)) (xr_pickT rfl e81 c83 rfl) rfl rfl rfl rfl e77 rfl ?_
    refine ol_val (v := .bool (!t87)) (xr_pickF rfl e77 rfl rfl) rfl rfl rfl ?_
    refine ol_val (v := .bool (!t87)) (xr_move rfl rfl) rfl rfl rfl ?_
    refine ol_nilK ?_
    rcases is j24 with ⟨c91, j24⟩ | ⟨c91, j24⟩
    ·skip
     refine rd_drawL 37 44 [fun vz _ => vz = undef, fun vz _ => vz = undef, fun vz _ => vz = undef, fun vz _ => vz = undef, fun vz _ => vz = undef, fun vz _ => vz = undef, fun vz _ => vz = undef] rfl ⟨fun _ _ _ h _ => h, fun _ _ _ h _ => h, fun _ _ _ h _ => h, fun _ _ _ h _ => h, fun _ _ _ h _ => h, fun _ _ _ h _ => h, fun _ _ _ h _ => h, trivial⟩ ?_ ?_
     ·refine ⟨?_, ?_, ?_, ?_, ?_, ?_, ?_, trivial⟩
      ·intro ρz wz hz hk hd
       exact sk_skip rfl rfl ((hk 89 rfl).trans rfl) c91 rfl
      ·intro ρz wz hz hk hd
       exact sk_skip rfl rfl ((hk 89 rfl).trans rfl) c91 rfl
      ·intro ρz wz hz hk hd
       exact sk_skip rfl rfl ((hk 89 rfl).trans rfl) c91 rfl
      ·intro ρz wz hz hk hd
       exact sk_skip rfl rfl ((hk 89 rfl).trans rfl) c91 rfl
      ·intro ρz wz hz hk hd
       exact sk_skip rfl rfl ((hk 89 rfl).trans rfl) c91 rfl
      ·intro ρz wz hz hk hd
       exact sk_skip rfl rfl ((hk 89 rfl).trans rfl) c91 rfl
      intro ρz wz hz hk hd
      exact sk_skip rfl rfl ((hk 89 rfl).trans rfl) c91 rfl
     intro ρ92 w93 q94 hk hd
     have e1 := (hk 1 rfl).trans e1
     have e3 := (hk 3 rfl).trans e3
     have e89 := (hk 89 rfl).trans rfl
     have e92 := hd 39 rfl rfl 92 rfl
     have e96 := hd 43 rfl rfl 96 rfl
     have b2 := b2.gr q94
     have fB := fB.gr q94
     refine rd_seq (m := 44) (n := 46) rfl ?_
     refine ol_gskip rfl rfl rfl rfl e89 c91 ?_
     refine ol_val (v := .bool true) (xr_pickT rfl e89 c91 rfl) rfl rfl rfl ?_
     refine ol_nilK ?_
     refine rd_end rfl ?_
     obtain rfl := Option.some.inj j24
     refine thn_i ?_
     exact ⟨e1, e3, rfl, ((((q26.gr q82).gr q86).gr q89).gr q94)⟩
    obtain ⟨t95, k96, j24⟩ := bs j24
    refine rd_drawL 37 44 [fun vz wz => vz = ((pt G1 8) : Value), fun vz wz => vz = (V0_0 : Value), fun vz wz => vz = (.int .i64 (List.length a0.Charts : Int) : Value), fun vz wz => vz = ((pt G1 1) : Value), fun vz wz => vz = ((pt G1 1) : Value), fun vz wz => vz = (aggV [(sI a0.Tickets.Geometry.Blocks), (sI a0.Tickets.Geometry.Slots), (sI a0.Tickets.Geometry.Gens)] : Value), fun vz wz => vz = (.int .i64 t95 : Value)] rfl ⟨fun _ _ _ h _ => h, fun _ _ _ h _ => h, fun _ _ _ h _ => h, fun _ _ _ h _ => h, fun _ _ _ h _ => h, fun _ _ _ h _ => h, fun _ _ _ h _ => h, trivial⟩ ?_ ?_
    ·refine ⟨?_, ?_, ?_, ?_, ?_, ?_, ?_, trivial⟩
     ·intro ρz wz hz hk hd
      exact sk_gval (v := (pt G1 8)) (xr_fieldAddr (p := 0) (q := 8) rfl fl110_3 ((hk 1 rfl).trans e1)) rfl rfl ((hk 89 rfl).trans rfl) c91 rfl
     ·intro ρz wz hz hk hd
      exact sk_gval (v := V0_0) (xr_load1 (v := V0_0) rfl ag25 (hd 37 rfl rfl 90 rfl) ((b2.gr hz).seg 8 rfl rfl)) rfl rfl ((hk 89 rfl).trans rfl) c91 rfl
     ·intro ρz wz hz hk hd
      exact sk_gval (v := .int .i64 (List.length a0.Charts : Int)) (xr_lenR rfl Try.underlying25 (hd 38 rfl rfl 91 rfl) (R0_0.gr (fB.gr hz))) rfl rfl ((hk 89 rfl).trans rfl) c91 rfl
     ·intro ρz wz hz hk hd
      exact sk_gval (v := (pt G1 1)) (xr_fieldAddr (p := 0) (q := 1) rfl fl110_1 ((hk 1 rfl).trans e1)) rfl rfl ((hk 89 rfl).trans rfl) c91 rfl
     ·intro ρz wz hz hk hd
      exact sk_gval (v := (pt G1 1)) (xr_fieldAddr (p := 1) (q := 0) rfl fl108_0 (hd 40 rfl rfl 93 rfl)) rfl rfl ((hk 89 rfl).trans rfl) c91 rfl
     ·intro ρz wz hz hk hd
      exact sk_gval (xr_loadS (ss := [(sI a0.Tickets.Geometry.Blocks), (sI a0.Tickets.Geometry.Slots), (sI a0.Tickets.Geometry.Gens)]) rfl ag106 sz106 rfl (hd 41 rfl rfl 94 rfl) ((b2.gr hz).segs 1 3 rfl)) rfl rfl ((hk 89 rfl).trans rfl) c91 rfl
     intro ρz wz hz hk hd
     refine sk_gop (opv_call rfl cal145 (ac (hd 42 rfl rfl 95 rfl) an) (geom_Charts.ok fu _ a0.Tickets.Geometry _ k96)) rfl rfl ((hk 89 rfl).trans rfl) c91 ?_
     rintro _ wy ⟨rfl, q97⟩
     exact ⟨rfl, q97⟩
    intro ρ98 w99 q100 hk hd
    have e1 := (hk 1 rfl).trans e1
    have e3 := (hk 3 rfl).trans e3
    have e89 := (hk 89 rfl).trans rfl
    have e92 := hd 39 rfl rfl 92 rfl
    have e96 := hd 43 rfl rfl 96 rfl
    have b2 := b2.gr q100
    have fB := fB.gr q100
    refine rd_seq (m := 44) (n := 46) rfl ?_
    refine ol_gval (v := .bool (!decide ((List.length a0.Charts : Int) = t95))) (xr_neI rfl Try.underlying3 rfl e92 e96) rfl rfl rfl rfl e89 c91 ?_
    refine ol_val (v := .bool (!decide ((List.length a0.Charts : Int) = t95))) (xr_pickF rfl e89 c91 rfl) rfl rfl rfl ?_
    refine ol_nilK ?_
    refine rd_end rfl ?_
    obtain rfl := Option.some.inj j24
    refine thn_i ?_
    exact ⟨e1, e3, rfl, ((((q26.gr q82).gr q86).gr q89).gr q100)⟩
   refine rd_drawL 29 32 [fun vz _ => vz = undef, fun vz _ => vz = undef, fun vz _ => vz = undef] rfl ⟨fun _ _ _ h _ => h, fun _ _ _ h _ => h, fun _ _ _ h _ => h, trivial⟩ ?_ ?_
   ·refine ⟨?_, ?_, ?_, trivial⟩
    ·intro ρz wz hz hk hd
     exact sk_skip rfl rfl ((hk 81 rfl).trans rfl) c83 rfl
    ·intro ρz wz hz hk hd
     exact sk_skip rfl rfl ((hk 81 rfl).trans rfl) c83 rfl
    intro ρz wz hz hk hd
    exact sk_skip rfl rfl ((hk 81 rfl).trans rfl) c83 rfl
   intro ρ101 w102 q103 hk hd
   have e1 := (hk 1 rfl).trans e1
   have e3 := (hk 3 rfl).trans e3
   have e77 := (hk 77 rfl).trans rfl
   have e81 := (hk 81 rfl).trans rfl
   have e82 := hd 29 rfl rfl 82 rfl
   have e84 := hd 31 rfl rfl 84 rfl
   have b2 := b2.gr q103
   have fB := fB.gr q103
   refine rd_seq (m := 32) (n := 37) rfl ?_
   refine ol_gskip rfl rfl rfl rfl e81 c83 ?_
   refine ol_gskip rfl rfl rfl rfl e81 c83 ?_
   refine ol_gval (v := .bool false) (xr_pickF rfl e81 c83 rfl) rfl rfl rfl rfl e77 rfl ?_
   refine ol_val (v := .bool false) (xr_pickF rfl e77 rfl rfl) rfl rfl rfl ?_
   refine ol_val (v := .bool false) (xr_move rfl rfl) rfl rfl rfl ?_
   refine ol_nilK ?_
   obtain ⟨t104, k105, j24⟩ := bs j24
   refine rd_drawL 37 44 [fun vz wz => vz = ((pt G1 8) : Value), fun vz wz => vz = (V0_0 : Value), fun vz wz => vz = (.int .i64 (List.length a0.Charts : Int) : Value), fun vz wz => vz = ((pt G1 1) : Value), fun vz wz => vz = ((pt G1 1) : Value), fun vz wz => vz = (aggV [(sI a0.Tickets.Geometry.Blocks), (sI a0.Tickets.Geometry.Slots), (sI a0.Tickets.Geometry.Gens)] : Value), fun vz wz => vz = (.int .i64 t104 : Value)] rfl ⟨fun _ _ _ h _ => h, fun _ _ _ h _ => h, fun _ _ _ h _ => h, fun _ _ _ h _ => h, fun _ _ _ h _ => h, fun _ _ _ h _ => h, fun _ _ _ h _ => h, trivial⟩ ?_ ?_
   ·refine ⟨?_, ?_, ?_, ?_, ?_, ?_, ?_, trivial⟩
    ·intro ρz wz hz hk hd
     exact sk_gval (v := (pt G1 8)) (xr_fieldAddr (p := 0) (q := 8) rfl fl110_3 ((hk 1 rfl).trans e1)) rfl rfl ((hk 89 rfl).trans rfl) rfl rfl
    ·intro ρz wz hz hk hd
     exact sk_gval (v := V0_0) (xr_load1 (v := V0_0) rfl ag25 (hd 37 rfl rfl 90 rfl) ((b2.gr hz).seg 8 rfl rfl)) rfl rfl ((hk 89 rfl).trans rfl) rfl rfl
    ·intro ρz wz hz hk hd
     exact sk_gval (v := .int .i64 (List.length a0.Charts : Int)) (xr_lenR rfl Try.underlying25 (hd 38 rfl rfl 91 rfl) (R0_0.gr (fB.gr hz))) rfl rfl ((hk 89 rfl).trans rfl) rfl rfl
    ·intro ρz wz hz hk hd
     exact sk_gval (v := (pt G1 1)) (xr_fieldAddr (p := 0) (q := 1) rfl fl110_1 ((hk 1 rfl).trans e1)) rfl rfl ((hk 89 rfl).trans rfl) rfl rfl
    ·intro ρz wz hz hk hd
     exact sk_gval (v := (pt G1 1)) (xr_fieldAddr (p := 1) (q := 0) rfl fl108_0 (hd 40 rfl rfl 93 rfl)) rfl rfl ((hk 89 rfl).trans rfl) rfl rfl
    ·intro ρz wz hz hk hd
     exact sk_gval (xr_loadS (ss := [(sI a0.Tickets.Geometry.Blocks), (sI a0.Tickets.Geometry.Slots), (sI a0.Tickets.Geometry.Gens)]) rfl ag106 sz106 rfl (hd 41 rfl rfl 94 rfl) ((b2.gr hz).segs 1 3 rfl)) rfl rfl ((hk 89 rfl).trans rfl) rfl rfl
    intro ρz wz hz hk hd
    refine sk_gop (opv_call rfl cal145 (ac (hd 42 rfl rfl 95 rfl) an) (geom_Charts.ok fu _ a0.Tickets.Geometry _ k105)) rfl rfl ((hk 89 rfl).trans rfl) rfl ?_
    rintro _ wy ⟨rfl, q106⟩
    exact ⟨rfl, q106⟩
   intro ρ107 w108 q109 hk hd
   have e1 := (hk 1 rfl).trans e1
   have e3 := (hk 3 rfl).trans e3
   have e89 := (hk 89 rfl).trans rfl
   have e92 := hd 39 rfl rfl 92 rfl
   have e96 := hd 43 rfl rfl 96 rfl
   have b2 := b2.gr q109
   have fB := fB.gr q109
   refine rd_seq (m := 44) (n := 46) rfl ?_
   refine ol_gval (v := .bool (!decide ((List.length a0.Charts : Int) = t104))) (xr_neI rfl Try.underlying3 rfl e92 e96) rfl rfl rfl rfl e89 rfl ?_
   refine ol_val (v := .bool (!decide ((List.length a0.Charts : Int) = t104))) (xr_pickF rfl e89 rfl rfl) rfl rfl rfl ?_
   refine ol_nilK ?_
   refine rd_end rfl ?_
   obtain rfl := Option.some.inj j24
   refine thn_i ?_
   exact ⟨e1, e3, rfl, (((q26.gr q82).gr q103).gr q109)⟩
  refine ol_gskip rfl rfl rfl rfl rfl c27 ?_
  refine ol_gskip rfl rfl rfl rfl rfl c27 ?_
  refine ol_gskip rfl rfl rfl rfl rfl c27 ?_
  refine ol_gskip rfl rfl rfl rfl rfl c27 ?_
  refine ol_val (v := .bool false) (xr_pickF rfl rfl c27 rfl) rfl rfl rfl ?_
  refine ol_val (v := .bool false) (xr_move rfl rfl) rfl rfl rfl ?_
  refine ol_gval (v := (pt G1 1)) (xr_fieldAddr (p := 0) (q := 1) rfl fl110_1 e1) rfl rfl rfl rfl rfl rfl ?_
  refine ol_gval (v := (pt G1 5)) (xr_fieldAddr (p := 1) (q := 4) rfl fl108_2 rfl) rfl rfl rfl rfl rfl rfl ?_
  refine ol_gval (v := .int .i64 a0.Tickets.High) (xr_load1 (v := .int .i64 a0.Tickets.High) rfl ag3 rfl (b2.seg 5 rfl rfl)) rfl rfl rfl rfl rfl rfl ?_
  refine ol_gval (v := .bool (decide (a0.Tickets.High > 0))) (xr_gtr rfl rfl rfl) rfl rfl rfl rfl rfl rfl ?_
  refine ol_gval (v := .bool (decide (a0.Tickets.High > 0))) (xr_move rfl rfl) rfl rfl rfl rfl rfl rfl ?_
  refine ol_nilK ?_
  rcases is j24 with ⟨c110, j24⟩ | ⟨c110, j24⟩
  ·skip
   refine rd_drawL 16 20 [fun vz wz => vz = (Value.func (.func 144) #[] #[(pt G1 0)] : Value), fun vz wz => vz = ((pt G1 1) : Value), fun vz wz => vz = ((pt G1 4) : Value), fun vz wz => vz = (.int .i64 a0.Tickets.Top : Value)] rfl ⟨fun _ _ _ h _ => h, fun _ _ _ h _ => h, fun _ _ _ h _ => h, fun _ _ _ h _ => h, trivial⟩ ?_ ?_
   ·refine ⟨?_, ?_, ?_, ?_, trivial⟩
    ·intro ρz wz hz hk hd
     exact sk_gval (v := Value.func (.func 144) #[] #[(pt G1 0)]) (xr_move rfl ((hk 3 rfl).trans rfl)) rfl rfl ((hk 68 rfl).trans rfl) c110 rfl
    ·intro ρz wz hz hk hd
     exact sk_gval (v := (pt G1 1)) (xr_fieldAddr (p := 0) (q := 1) rfl fl110_1 ((hk 1 rfl).trans e1)) rfl rfl ((hk 68 rfl).trans rfl) c110 rfl
    ·intro ρz wz hz hk hd
     exact sk_gval (v := (pt G1 4)) (xr_fieldAddr (p := 1) (q := 3) rfl fl108_1 (hd 17 rfl rfl 70 rfl)) rfl rfl ((hk 68 rfl).trans rfl) c110 rfl
    intro ρz wz hz hk hd
    exact sk_gval (v := .int .i64 a0.Tickets.Top) (xr_load1 (v := .int .i64 a0.Tickets.Top) rfl ag3 (hd 18 rfl rfl 71 rfl) ((b2.gr hz).seg 4 rfl rfl)) rfl rfl ((hk 68 rfl).trans rfl) c110 rfl
   intro ρ111 w112 q113 hk hd
   have e1 := (hk 1 rfl).trans e1
   have e3 := (hk 3 rfl).trans rfl
   have e63 := (hk 63 rfl).trans rfl
   have e68 := (hk 68 rfl).trans rfl
   have e69 := hd 16 rfl rfl 69 rfl
   have e72 := hd 19 rfl rfl 72 rfl
   have b2 := b2.gr q113
   have fB := fB.gr q113
   refine rd_seq (m := 20) (n := 29) rfl ?_
   obtain ⟨t114, k115, j24⟩ := bs j24
   refine ol_gop (opv_callV (C := [(pt G1 0)]) rfl e69 cal144 (ac e72 an) (super_Right_1__c.ok fu _ a0.Tickets.Top a0 G1 V0_0 (R0_0.gr fB) b2 _ k115)) rfl rfl rfl rfl e68 c110 ?_
   rintro _ w117 ⟨rfl, q116⟩
   have b2 := b2.gr q116
   have fB := fB.gr q116
   refine ol_gval (v := .bool (!t114)) (xr_not rfl rfl) rfl rfl rfl rfl e68 c110 ?_
   refine ol_gval (v := .bool (!t114)) (xr_pickT rfl e68 c110 rfl) rfl rfl rfl rfl e63 rfl ?_
   refine ol_val (v := .bool (!t114)) (xr_pickF rfl e63 rfl rfl) rfl rfl rfl ?_
   refine ol_val (v := .bool (!t114)) (xr_move rfl rfl) rfl rfl rfl ?_
   rcases is j24 with ⟨c118, j24⟩ | ⟨c118, j24⟩
   ·skip
    refine ol_gskip rfl rfl rfl rfl rfl c118 ?_
    refine ol_gskip rfl rfl rfl rfl rfl c118 ?_
    refine ol_gskip rfl rfl rfl rfl rfl c118 ?_
    refine ol_gskip rfl rfl rfl rfl rfl c118 ?_
    refine ol_nilK ?_
    refine rd_drawL 29 32 [fun vz _ => vz = undef, fun vz _ => vz = undef, fun vz _ => vz = undef] rfl ⟨fun _ _ _ h _ => h, fun _ _ _ h _ => h, fun _ _ _ h _ => h, trivial⟩ ?_ ?_
    ·refine ⟨?_, ?_, ?_, trivial⟩
     ·intro ρz wz hz hk hd
      exact sk_uskip rfl rfl ((hk 81 rfl).trans rfl) rfl
     ·intro ρz wz hz hk hd
      exact sk_uskip rfl rfl ((hk 81 rfl).trans rfl) rfl
     intro ρz wz hz hk hd
     exact sk_uskip rfl rfl ((hk 81 rfl).trans rfl) rfl
    intro ρ119 w120 q121 hk hd
    have e1 := (hk 1 rfl).trans e1
    have e3 := (hk 3 rfl).trans e3
    have e77 := (hk 77 rfl).trans rfl
    have e81 := (hk 81 rfl).trans rfl
    have e82 := hd 29 rfl rfl 82 rfl
    have e84 := hd 31 rfl rfl 84 rfl
    have b2 := b2.gr q121
    have fB := fB.gr q121
    refine rd_seq (m := 32) (n := 37) rfl ?_
    refine ol_uskip rfl rfl rfl rfl e81 ?_
    refine ol_uskip rfl rfl rfl rfl e81 ?_
    refine ol_gskip rfl rfl rfl rfl e77 c118 ?_
    refine ol_val (v := .bool true) (xr_pickT rfl e77 c118 rfl) rfl rfl rfl ?_
    refine ol_val (v := .bool true) (xr_move rfl rfl) rfl rfl rfl ?_
    refine ol_nilK ?_
    refine rd_drawL 37 44 [fun vz _ => vz = undef, fun vz _ => vz = undef, fun vz _ => vz = undef, fun vz _ => vz = undef, fun vz _ => vz = undef, fun vz _ => vz = undef, fun vz _ => vz = undef] rfl ⟨fun _ _ _ h _ => h, fun _ _ _ h _ => h, fun _ _ _ h _ => h, fun _ _ _ h _ => h, fun _ _ _ h _ => h, fun _ _ _ h _ => h, fun _ _ _ h _ => h, trivial⟩ ?_ ?_
    ·refine ⟨?_, ?_, ?_, ?_, ?_, ?_, ?_, trivial⟩
     ·intro ρz wz hz hk hd
      exact sk_skip rfl rfl ((hk 89 rfl).trans rfl) rfl rfl
     ·intro ρz wz hz hk hd
      exact sk_skip rfl rfl ((hk 89 rfl).trans rfl) rfl rfl
     ·intro ρz wz hz hk hd
      exact sk_skip rfl rfl ((hk 89 rfl).trans rfl) rfl rfl
     ·intro ρz wz hz hk hd
      exact sk_skip rfl rfl ((hk 89 rfl).trans rfl) rfl rfl
     ·intro ρz wz hz hk hd
      exact sk_skip rfl rfl ((hk 89 rfl).trans rfl) rfl rfl
     ·intro ρz wz hz hk hd
      exact sk_skip rfl rfl ((hk 89 rfl).trans rfl) rfl rfl
     intro ρz wz hz hk hd
     exact sk_skip rfl rfl ((hk 89 rfl).trans rfl) rfl rfl
    intro ρ122 w123 q124 hk hd
    have e1 := (hk 1 rfl).trans e1
    have e3 := (hk 3 rfl).trans e3
    have e89 := (hk 89 rfl).trans rfl
    have e92 := hd 39 rfl rfl 92 rfl
    have e96 := hd 43 rfl rfl 96 rfl
    have b2 := b2.gr q124
    have fB := fB.gr q124
    refine rd_seq (m := 44) (n := 46) rfl ?_
    refine ol_gskip rfl rfl rfl rfl e89 rfl ?_
    refine ol_val (v := .bool true) (xr_pickT rfl e89 rfl rfl) rfl rfl rfl ?_
    refine ol_nilK ?_
    refine rd_end rfl ?_
    obtain rfl := Option.some.inj j24
    refine thn_i ?_
    exact ⟨e1, e3, rfl, ((((q26.gr q113).gr q116).gr q121).gr q124)⟩
   refine ol_gval (v := (pt G1 7)) (xr_fieldAddr (p := 0) (q := 7) rfl fl110_2 e1) rfl rfl rfl rfl rfl c118 ?_
   refine ol_gval (v := .int .i64 a0.Dir) (xr_load1 (v := .int .i64 a0.Dir) rfl ag3 rfl (b2.seg 7 rfl rfl)) rfl rfl rfl rfl rfl c118 ?_
   refine ol_gval (v := .bool (!decide (a0.Dir = 0))) (xr_neI rfl Try.underlying3 rfl rfl rfl) rfl rfl rfl rfl rfl c118 ?_
   refine ol_gval (v := .bool (!decide (a0.Dir = 0))) (xr_move rfl rfl) rfl rfl rfl rfl rfl c118 ?_
   refine ol_nilK ?_
   rcases is j24 with ⟨c125, j24⟩ | ⟨c125, j24⟩
   ·skip
    refine rd_drawL 29 32 [fun vz wz => vz = (Value.func (.func 144) #[] #[(pt G1 0)] : Value), fun vz wz => vz = ((pt G1 7) : Value), fun vz wz => vz = (.int .i64 a0.Dir : Value)] rfl ⟨fun _ _ _ h _ => h, fun _ _ _ h _ => h, fun _ _ _ h _ => h, trivial⟩ ?_ ?_
    ·refine ⟨?_, ?_, ?_, trivial⟩
     ·intro ρz wz hz hk hd
      exact sk_gval (v := Value.func (.func 144) #[] #[(pt G1 0)]) (xr_move rfl ((hk 3 rfl).trans e3)) rfl rfl ((hk 81 rfl).trans rfl) c125 rfl
     ·intro ρz wz hz hk hd
      exact sk_gval (v := (pt G1 7)) (xr_fieldAddr (p := 0) (q := 7) rfl fl110_2 ((hk 1 rfl).trans e1)) rfl rfl ((hk 81 rfl).trans rfl) c125 rfl
     intro ρz wz hz hk hd
     exact sk_gval (v := .int .i64 a0.Dir) (xr_load1 (v := .int .i64 a0.Dir) rfl ag3 (hd 30 rfl rfl 83 rfl) ((b2.gr hz).seg 7 rfl rfl)) rfl rfl ((hk 81 rfl).trans rfl) c125 rfl
    intro ρ126 w127 q128 hk hd
    have e1 := (hk 1 rfl).trans e1
    have e3 := (hk 3 rfl).trans e3
    have e77 := (hk 77 rfl).trans rfl
    have e81 := (hk 81 rfl).trans rfl
    have e82 := hd 29 rfl rfl 82 rfl
    have e84 := hd 31 rfl rfl 84 rfl
    have b2 := b2.gr q128
    have fB := fB.gr q128
    refine rd_seq (m := 32) (n := 37) rfl ?_
    obtain ⟨t129, k130, j24⟩ := bs j24
    refine ol_gop (opv_callV (C := [(pt G1 0)]) rfl e82 cal144 (ac e84 an) (super_Right_1__c.ok fu _ a0.Dir a0 G1 V0_0 (R0_0.gr fB) b2 _ k130)) rfl rfl rfl rfl e81 c125 ?_
    rintro _ w132 ⟨rfl, q131⟩
    have b2 := b2.gr q131
    have fB := fB.gr q131
    refine ol_gval (v := .bool (!t129)) (xr_not rfl rfl) rfl rfl rfl rfl e81 c125 ?_
    refine ol_gval (v := .bool (!t129)) (xr_pickT rfl e81 c125 rfl) rfl rfl rfl rfl e77 c118 ?_
    refine ol_val (v := .bool (!t129)) (xr_pickF rfl e77 c118 rfl) rfl rfl rfl ?_
    refine ol_val (v := .bool (!t129)) (xr_move rfl rfl) rfl rfl rfl ?_
    refine ol_nilK ?_
    rcases is j24 with ⟨c133, j24⟩ | ⟨c133, j24⟩
    ·skip
     refine rd_drawL 37 44 [fun vz _ => vz = undef, fun vz _ => vz = undef, fun vz _ => vz = undef, fun vz _ => vz = undef, fun vz _ => vz = undef, fun vz _ => vz = undef, fun vz _ => vz = undef] rfl ⟨fun _ _ _ h _ => h, fun _ _ _ h _ => h, fun _ _ _ h _ => h, fun _ _ _ h _ => h, fun _ _ _ h _ => h, fun _ _ _ h _ => h, fun _ _ _ h _ => h, trivial⟩ ?_ ?_
     ·refine ⟨?_, ?_, ?_, ?_, ?_, ?_, ?_, trivial⟩
      ·intro ρz wz hz hk hd
       exact sk_skip rfl rfl ((hk 89 rfl).trans rfl) c133 rfl
      ·intro ρz wz hz hk hd
       exact sk_skip rfl rfl ((hk 89 rfl).trans rfl) c133 rfl
      ·intro ρz wz hz hk hd
       exact sk_skip rfl rfl ((hk 89 rfl).trans rfl) c133 rfl
      ·intro ρz wz hz hk hd
       exact sk_skip rfl rfl ((hk 89 rfl).trans rfl) c133 rfl
      ·intro ρz wz hz hk hd
       exact sk_skip rfl rfl ((hk 89 rfl).trans rfl) c133 rfl
      ·intro ρz wz hz hk hd
       exact sk_skip rfl rfl ((hk 89 rfl).trans rfl) c133 rfl
      intro ρz wz hz hk hd
      exact sk_skip rfl rfl ((hk 89 rfl).trans rfl) c133 rfl
     intro ρ134 w135 q136 hk hd
     have e1 := (hk 1 rfl).trans e1
     have e3 := (hk 3 rfl).trans e3
     have e89 := (hk 89 rfl).trans rfl
     have e92 := hd 39 rfl rfl 92 rfl
     have e96 := hd 43 rfl rfl 96 rfl
     have b2 := b2.gr q136
     have fB := fB.gr q136
     refine rd_seq (m := 44) (n := 46) rfl ?_
     refine ol_gskip rfl rfl rfl rfl e89 c133 ?_
     refine ol_val (v := .bool true) (xr_pickT rfl e89 c133 rfl) rfl rfl rfl ?_
     refine ol_nilK ?_
     refine rd_end rfl ?_
     obtain rfl := Option.some.inj j24
     refine thn_i ?_
     exact ⟨e1, e3, rfl, (((((q26.gr q113).gr q116).gr q128).gr q131).gr q136)⟩
    obtain ⟨t137, k138, j24⟩ := bs j24
    refine rd_drawL 37 44 [fun vz wz => vz = ((pt G1 8) : Value), fun vz wz => vz = (V0_0 : Value), fun vz wz => vz = (.int .i64 (List.length a0.Charts : Int) : Value), fun vz wz => vz = ((pt G1 1) : Value), fun vz wz => vz = ((pt G1 1) : Value), fun vz wz => vz = (aggV [(sI a0.Tickets.Geometry.Blocks), (sI a0.Tickets.Geometry.Slots), (sI a0.Tickets.Geometry.Gens)] : Value), fun vz wz => vz = (.int .i64 t137 : Value)] rfl ⟨fun _ _ _ h _ => h, fun _ _ _ h _ => h, fun _ _ _ h _ => h, fun _ _ _ h _ => h, fun _ _ _ h _ => h, fun _ _ _ h _ => h, fun _ _ _ h _ => h, trivial⟩ ?_ ?_
    ·refine ⟨?_, ?_, ?_, ?_, ?_, ?_, ?_, trivial⟩
     ·intro ρz wz hz hk hd
      exact sk_gval (v := (pt G1 8)) (xr_fieldAddr (p := 0) (q := 8) rfl fl110_3 ((hk 1 rfl).trans e1)) rfl rfl ((hk 89 rfl).trans rfl) c133 rfl
     ·intro ρz wz hz hk hd
      exact sk_gval (v := V0_0) (xr_load1 (v := V0_0) rfl ag25 (hd 37 rfl rfl 90 rfl) ((b2.gr hz).seg 8 rfl rfl)) rfl rfl ((hk 89 rfl).trans rfl) c133 rfl
     ·intro ρz wz hz hk hd
      exact sk_gval (v := .int .i64 (List.length a0.Charts : Int)) (xr_lenR rfl Try.underlying25 (hd 38 rfl rfl 91 rfl) (R0_0.gr (fB.gr hz))) rfl rfl ((hk 89 rfl).trans rfl) c133 rfl
     ·intro ρz wz hz hk hd
      exact sk_gval (v := (pt G1 1)) (xr_fieldAddr (p := 0) (q := 1) rfl fl110_1 ((hk 1 rfl).trans e1)) rfl rfl ((hk 89 rfl).trans rfl) c133 rfl
     ·intro ρz wz hz hk hd
      exact sk_gval (v := (pt G1 1)) (xr_fieldAddr (p := 1) (q := 0) rfl fl108_0 (hd 40 rfl rfl 93 rfl)) rfl rfl ((hk 89 rfl).trans rfl) c133 rfl
     ·intro ρz wz hz hk hd
      exact sk_gval (xr_loadS (ss := [(sI a0.Tickets.Geometry.Blocks), (sI a0.Tickets.Geometry.Slots), (sI a0.Tickets.Geometry.Gens)]) rfl ag106 sz106 rfl (hd 41 rfl rfl 94 rfl) ((b2.gr hz).segs 1 3 rfl)) rfl rfl ((hk 89 rfl).trans rfl) c133 rfl
     intro ρz wz hz hk hd
     refine sk_gop (opv_call rfl cal145 (ac (hd 42 rfl rfl 95 rfl) an) (geom_Charts.ok fu _ a0.Tickets.Geometry _ k138)) rfl rfl ((hk 89 rfl).trans rfl) c133 ?_
     rintro _ wy ⟨rfl, q139⟩
     exact ⟨rfl, q139⟩
    intro ρ140 w141 q142 hk hd
    have e1 := (hk 1 rfl).trans e1
    have e3 := (hk 3 rfl).trans e3
    have e89 := (hk 89 rfl).trans rfl
    have e92 := hd 39 rfl rfl 92 rfl
    have e96 := hd 43 rfl rfl 96 rfl
    have b2 := b2.gr q142
    have fB := fB.gr q142
    refine rd_seq (m := 44) (n := 46) rfl ?_
    refine ol_gval (v := .bool (!decide ((List.length a0.Charts : Int) = t137))) (xr_neI rfl Try.underlying3 rfl e92 e96) rfl rfl rfl rfl e89 c133 ?_
    refine ol_val (v := .bool (!decide ((List.length a0.Charts : Int) = t137))) (xr_pickF rfl e89 c133 rfl) rfl rfl rfl ?_
    refine ol_nilK ?_
    refine rd_end rfl ?_
    obtain rfl := Option.some.inj j24
    refine thn_i ?_
    exact ⟨e1, e3, rfl, (((((q26.gr q113).gr q116).gr q128).gr q131).gr q142)⟩
   refine rd_drawL 29 32 [fun vz _ => vz = undef, fun vz _ => vz = undef, fun vz _ => vz = undef] rfl ⟨fun _ _ _ h _ => h, fun _ _ _ h _ => h, fun _ _ _ h _ => h, trivial⟩ ?_ ?_
   ·refine ⟨?_, ?_, ?_, trivial⟩
    ·intro ρz wz hz hk hd
     exact sk_skip rfl rfl ((hk 81 rfl).trans rfl) c125 rfl
    ·intro ρz wz hz hk hd
     exact sk_skip rfl rfl ((hk 81 rfl).trans rfl) c125 rfl
    intro ρz wz hz hk hd
    exact sk_skip rfl rfl ((hk 81 rfl).trans rfl) c125 rfl
   intro ρ143 w144 q145 hk hd
   have e1 := (hk 1 rfl).trans e1
   have e3 := (hk 3 rfl).trans e3
   have e77 := (hk 77 rfl).trans rfl
   have e81 := (hk 81 rfl).trans rfl
   have e82 := hd 29 rfl rfl 82 rfl
   have e84 := hd 31 rfl rfl 84 rfl
   have b2 := b2.gr q145
   have fB := fB.gr q145
   refine rd_seq (m := 32) (n := 37) rfl ?_
   refine ol_gskip rfl rfl rfl rfl e81 c125 ?_
   refine ol_gskip rfl rfl rfl rfl e81 c125 ?_
   refine ol_gval (v := .bool false) (xr_pickF rfl e81 c125 rfl) rfl rfl rfl rfl e77 c118 ?_
   refine ol_val (v := .bool false) (xr_pickF rfl e77 c118 rfl) rfl rfl rfl ?_
   refine ol_val (v := .bool false) (xr_move rfl rfl) rfl rfl rfl ?_
   refine ol_nilK ?_
   obtain ⟨t146, k147, j24⟩ := bs j24
   refine rd_drawL 37 44 [fun vz wz => vz = ((pt G1 8) : Value), fun vz wz => vz = (V0_0 : Value), fun vz wz => vz = (.int .i64 (List.length a0.Charts : Int) : Value), fun vz wz => vz = ((pt G1 1) : Value), fun vz wz => vz = ((pt G1 1) : Value), fun vz wz => vz = (aggV [(sI a0.Tickets.Geometry.Blocks), (sI a0.Tickets.Geometry.Slots), (sI a0.Tickets.Geometry.Gens)] : Value), fun vz wz => vz = (.int .i64 t146 : Value)] rfl ⟨fun _ _ _ h _ => h, fun _ _ _ h _ => h, fun _ _ _ h _ => h, fun _ _ _ h _ => h, fun _ _ _ h _ => h, fun _ _ _ h _ => h, fun _ _ _ h _ => h, trivial⟩ ?_ ?_
   ·refine ⟨?_, ?_, ?_, ?_, ?_, ?_, ?_, trivial⟩
    ·intro ρz wz hz hk hd
     exact sk_gval (v := (pt G1 8)) (xr_fieldAddr (p := 0) (q := 8) rfl fl110_3 ((hk 1 rfl).trans e1)) rfl rfl ((hk 89 rfl).trans rfl) rfl rfl
    ·intro ρz wz hz hk hd
     exact sk_gval (v := V0_0) (xr_load1 (v := V0_0) rfl ag25 (hd 37 rfl rfl 90 rfl) ((b2.gr hz).seg 8 rfl rfl)) rfl rfl ((hk 89 rfl).trans rfl) rfl rfl
    ·intro ρz wz hz hk hd
     exact sk_gval (v := .int .i64 (List.length a0.Charts : Int)) (xr_lenR rfl Try.underlying25 (hd 38 rfl rfl 91 rfl) (R0_0.gr (fB.gr hz))) rfl rfl ((hk 89 rfl).trans rfl) rfl rfl
    ·intro ρz wz hz hk hd
     exact sk_gval (v := (pt G1 1)) (xr_fieldAddr (p := 0) (q := 1) rfl fl110_1 ((hk 1 rfl).trans e1)) rfl rfl ((hk 89 rfl).trans rfl) rfl rfl
    ·intro ρz wz hz hk hd
     exact sk_gval (v := (pt G1 1)) (xr_fieldAddr (p := 1) (q := 0) rfl fl108_0 (hd 40 rfl rfl 93 rfl)) rfl rfl ((hk 89 rfl).trans rfl) rfl rfl
    ·intro ρz wz hz hk hd
     exact sk_gval (xr_loadS (ss := [(sI a0.Tickets.Geometry.Blocks), (sI a0.Tickets.Geometry.Slots), (sI a0.Tickets.Geometry.Gens)]) rfl ag106 sz106 rfl (hd 41 rfl rfl 94 rfl) ((b2.gr hz).segs 1 3 rfl)) rfl rfl ((hk 89 rfl).trans rfl) rfl rfl
    intro ρz wz hz hk hd
    refine sk_gop (opv_call rfl cal145 (ac (hd 42 rfl rfl 95 rfl) an) (geom_Charts.ok fu _ a0.Tickets.Geometry _ k147)) rfl rfl ((hk 89 rfl).trans rfl) rfl ?_
    rintro _ wy ⟨rfl, q148⟩
    exact ⟨rfl, q148⟩
   intro ρ149 w150 q151 hk hd
   have e1 := (hk 1 rfl).trans e1
   have e3 := (hk 3 rfl).trans e3
   have e89 := (hk 89 rfl).trans rfl
   have e92 := hd 39 rfl rfl 92 rfl
   have e96 := hd 43 rfl rfl 96 rfl
   have b2 := b2.gr q151
   have fB := fB.gr q151
   refine rd_seq (m := 44) (n := 46) rfl ?_
   refine ol_gval (v := .bool (!decide ((List.length a0.Charts : Int) = t146))) (xr_neI rfl Try.underlying3 rfl e92 e96) rfl rfl rfl rfl e89 rfl ?_
   refine ol_val (v := .bool (!decide ((List.length a0.Charts : Int) = t146))) (xr_pickF rfl e89 rfl rfl) rfl rfl rfl ?_
   refine ol_nilK ?_
   refine rd_end rfl ?_
   obtain rfl := Option.some.inj j24
   refine thn_i ?_
   exact ⟨e1, e3, rfl, ((((q26.gr q113).gr q116).gr q145).gr q151)⟩
  refine rd_drawL 16 20 [fun vz _ => vz = undef, fun vz _ => vz = undef, fun vz _ => vz = undef, fun vz _ => vz = undef] rfl ⟨fun _ _ _ h _ => h, fun _ _ _ h _ => h, fun _ _ _ h _ => h, fun _ _ _ h _ => h, trivial⟩ ?_ ?_
  ·refine ⟨?_, ?_, ?_, ?_, trivial⟩
   ·intro ρz wz hz hk hd
    exact sk_skip rfl rfl ((hk 68 rfl).trans rfl) c110 rfl
   ·intro ρz wz hz hk hd
    exact sk_skip rfl rfl ((hk 68 rfl).trans rfl) c110 rfl
   ·intro ρz wz hz hk hd
    exact sk_skip rfl rfl ((hk 68 rfl).trans rfl) c110 rfl
   intro ρz wz hz hk hd
   exact sk_skip rfl rfl ((hk 68 rfl).trans rfl) c110 rfl
  intro ρ152 w153 q154 hk hd
  have e1 := (hk 1 rfl).trans e1
  have e3 := (hk 3 rfl).trans rfl
  have e63 := (hk 63 rfl).trans rfl
  have e68 := (hk 68 rfl).trans rfl
  have e69 := hd 16 rfl rfl 69 rfl
  have e72 := hd 19 rfl rfl 72 rfl
  have b2 := b2.gr q154
  have fB := fB.gr q154
  refine rd_seq (m := 20) (n := 29) rfl ?_
  refine ol_gskip rfl rfl rfl rfl e68 c110 ?_
  refine ol_gskip rfl rfl rfl rfl e68 c110 ?_
  refine ol_gval (v := .bool false) (xr_pickF rfl e68 c110 rfl) rfl rfl rfl rfl e63 rfl ?_
  refine ol_val (v := .bool false) (xr_pickF rfl e63 rfl rfl) rfl rfl rfl ?_
  refine ol_val (v := .bool false) (xr_move rfl rfl) rfl rfl rfl ?_
  refine ol_gval (v := (pt G1 7)) (xr_fieldAddr (p := 0) (q := 7) rfl fl110_2 e1) rfl rfl rfl rfl rfl rfl ?_
  refine ol_gval (v := .int .i64 a0.Dir) (xr_load1 (v := .int .i64 a0.Dir) rfl ag3 rfl (b2.seg 7 rfl rfl)) rfl rfl rfl rfl rfl rfl ?_
  refine ol_gval (v := .bool (!decide (a0.Dir = 0))) (xr_neI rfl Try.underlying3 rfl rfl rfl) rfl rfl rfl rfl rfl rfl ?_
  refine ol_gval (v := .bool (!decide (a0.Dir = 0))) (xr_move rfl rfl) rfl rfl rfl rfl rfl rfl ?_
  refine ol_nilK ?_
  rcases is j24 with ⟨c155, j24⟩ | ⟨c155, j24⟩
  ·skip
   refine rd_drawL 29 32 [fun vz wz => vz = (Value.func (.func 144) #[] #[(pt G1 0)] : Value), fun vz wz => vz = ((pt G1 7) : Value), fun vz wz => vz = (.int .i64 a0.Dir : Value)] rfl ⟨fun _ _ _ h _ => h, fun _ _ _ h _ => h, fun _ _ _ h _ => h, trivial⟩ ?_ ?_
   ·refine ⟨?_, ?_, ?_, trivial⟩
    ·intro ρz wz hz hk hd
     exact sk_gval (v := Value.func (.func 144) #[] #[(pt G1 0)]) (xr_move rfl ((hk 3 rfl).trans e3)) rfl rfl ((hk 81 rfl).trans rfl) c155 rfl
    ·intro ρz wz hz hk hd
     exact sk_gval (v := (pt G1 7)) (xr_fieldAddr (p := 0) (q := 7) rfl fl110_2 ((hk 1 rfl).trans e1)) rfl rfl ((hk 81 rfl).trans rfl) c155 rfl
    intro ρz wz hz hk hd
    exact sk_gval (v := .int .i64 a0.Dir) (xr_load1 (v := .int .i64 a0.Dir) rfl ag3 (hd 30 rfl rfl 83 rfl) ((b2.gr hz).seg 7 rfl rfl)) rfl rfl ((hk 81 rfl).trans rfl) c155 rfl
   intro ρ156 w157 q158 hk hd
   have e1 := (hk 1 rfl).trans e1
   have e3 := (hk 3 rfl).trans e3
   have e77 := (hk 77 rfl).trans rfl
   have e81 := (hk 81 rfl).trans rfl
   have e82 := hd 29 rfl rfl 82 rfl
   have e84 := hd 31 rfl rfl 84 rfl
   have b2 := b2.gr q158
   have fB := fB.gr q158
   refine rd_seq (m := 32) (n := 37) rfl ?_
   obtain ⟨t159, k160, j24⟩ := bs j24
   refine ol_gop (opv_callV (C := [(pt G1 0)]) rfl e82 cal144 (ac e84 an) (super_Right_1__c.ok fu _ a0.Dir a0 G1 V0_0 (R0_0.gr fB) b2 _ k160)) rfl rfl rfl rfl e81 c155 ?_
   rintro _ w162 ⟨rfl, q161⟩
   have b2 := b2.gr q161
   have fB := fB.gr q161
   refine ol_gval (v := .bool (!t159)) (xr_not rfl rfl) rfl rfl rfl rfl e81 c155 ?_
   refine ol_gval (v := .bool (!t159)) (xr_pickT rfl e81 c155 rfl) rfl rfl rfl rfl e77 rfl ?_
   refine ol_val (v := .bool (!t159)) (xr_pickF rfl e77 rfl rfl) rfl rfl rfl ?_
   refine ol_val (v := .bool (!t159)) (xr_move rfl rfl) rfl rfl rfl ?_
   refine ol_nilK ?_
   rcases is j24 with ⟨c163, j24⟩ | ⟨c163, j24⟩
   ·skip
    refine rd_drawL 37 44 [fun vz _ => vz = undef, fun vz _ => vz = undef, fun vz _ => vz = undef, fun vz _ => vz = undef, fun vz _ => vz = undef, fun vz _ => vz = undef, fun vz _ => vz = undef] rfl ⟨fun _ _ _ h _ => h, fun _ _ _ h _ => h, fun _ _ _ h _ => h, fun _ _ _ h _ => h, fun _ _ _ h _ => h, fun _ _ _ h _ => h, fun _ _ _ h _ => h, trivial⟩ ?_ ?_
    ·refine ⟨?_, ?_, ?_, ?_, ?_, ?_, ?_, trivial⟩
     ·intro ρz wz hz hk hd
      exact sk_skip rfl rfl ((hk 89 rfl).trans rfl) c163 rfl
     ·intro ρz wz hz hk hd
      exact sk_skip rfl rfl ((hk 89 rfl).trans rfl) c163 rfl
     ·intro ρz wz hz hk hd
      exact sk_skip rfl rfl ((hk 89 rfl).trans rfl) c163 rfl
     ·intro ρz wz hz hk hd
      exact sk_skip rfl rfl ((hk 89 rfl).trans rfl) c163 rfl
     ·intro ρz wz hz hk hd
      exact sk_skip rfl rfl ((hk 89 rfl).trans rfl) c163 rfl
     ·intro ρz wz hz hk hd
      exact sk_skip rfl rfl ((hk 89 rfl).trans rfl) c163 rfl
     intro ρz wz hz hk hd
     exact sk_skip rfl rfl ((hk 89 rfl).trans rfl) c163 rfl
    intro ρ164 w165 q166 hk hd
    have e1 := (hk 1 rfl).trans e1
    have e3 := (hk 3 rfl).trans e3
    have e89 := (hk 89 rfl).trans rfl
    have e92 := hd 39 rfl rfl 92 rfl
    have e96 := hd 43 rfl rfl 96 rfl
    have b2 := b2.gr q166
    have fB := fB.gr q166
    refine rd_seq (m := 44) (n := 46) rfl ?_
    refine ol_gskip rfl rfl rfl rfl e89 c163 ?_
    refine ol_val (v := .bool true) (xr_pickT rfl e89 c163 rfl) rfl rfl rfl ?_
    refine ol_nilK ?_
    refine rd_end rfl ?_
    obtain rfl := Option.some.inj j24
    refine thn_i ?_
    exact ⟨e1, e3, rfl, ((((q26.gr q154).gr q158).gr q161).gr q166)⟩
   obtain ⟨t167, k168, j24⟩ := bs j24
   refine rd_drawL 37 44 [fun vz wz => vz = ((pt G1 8) : Value), fun vz wz => vz = (V0_0 : Value), fun vz wz => vz = (.int .i64 (List.length a0.Charts : Int) : Value), fun vz wz => vz = ((pt G1 1) : Value), fun vz wz => vz = ((pt G1 1) : Value), fun vz wz => vz = (aggV [(sI a0.Tickets.Geometry.Blocks), (sI a0.Tickets.Geometry.Slots), (sI a0.Tickets.Geometry.Gens)] : Value), fun vz wz => vz = (.int .i64 t167 : Value)] rfl ⟨fun _ _ _ h _ => h, fun _ _ _ h _ => h, fun _ _ _ h _ => h, fun _ _ _ h _ => h, fun _ _ _ h _ => h, fun _ _ _ h _ => h, fun _ _ _ h _ => h, trivial⟩ ?_ ?_
   ·refine ⟨?_, ?_, ?_, ?_, ?_, ?_, ?_, trivial⟩
    ·intro ρz wz hz hk hd
     exact sk_gval (v := (pt G1 8)) (xr_fieldAddr (p := 0) (q := 8) rfl fl110_3 ((hk 1 rfl).trans e1)) rfl rfl ((hk 89 rfl).trans rfl) c163 rfl
    ·intro ρz wz hz hk hd
     exact sk_gval (v := V0_0) (xr_load1 (v := V0_0) rfl ag25 (hd 37 rfl rfl 90 rfl) ((b2.gr hz).seg 8 rfl rfl)) rfl rfl ((hk 89 rfl).trans rfl) c163 rfl
    ·intro ρz wz hz hk hd
     exact sk_gval (v := .int .i64 (List.length a0.Charts : Int)) (xr_lenR rfl Try.underlying25 (hd 38 rfl rfl 91 rfl) (R0_0.gr (fB.gr hz))) rfl rfl ((hk 89 rfl).trans rfl) c163 rfl
    ·intro ρz wz hz hk hd
     exact sk_gval (v := (pt G1 1)) (xr_fieldAddr (p := 0) (q := 1) rfl fl110_1 ((hk 1 rfl).trans e1)) rfl rfl ((hk 89 rfl).trans rfl) c163 rfl
    ·intro ρz wz hz hk hd
     exact sk_gval (v := (pt G1 1)) (xr_fieldAddr (p := 1) (q := 0) rfl fl108_0 (hd 40 rfl rfl 93 rfl)) rfl rfl ((hk 89 rfl).trans rfl) c163 rfl
    ·intro ρz wz hz hk hd
     exact sk_gval (xr_loadS (ss := [(sI a0.Tickets.Geometry.Blocks), (sI a0.Tickets.Geometry.Slots), (sI a0.Tickets.Geometry.Gens)]) rfl ag106 sz106 rfl (hd 41 rfl rfl 94 rfl) ((b2.gr hz).segs 1 3 rfl)) rfl rfl ((hk 89 rfl).trans rfl) c163 rfl
    intro ρz wz hz hk hd
    refine sk_gop (opv_call rfl cal145 (ac (hd 42 rfl rfl 95 rfl) an) (geom_Charts.ok fu _ a0.Tickets.Geometry _ k168)) rfl rfl ((hk 89 rfl).trans rfl) c163 ?_
    rintro _ wy ⟨rfl, q169⟩
    exact ⟨rfl, q169⟩
   intro ρ170 w171 q172 hk hd
   have e1 := (hk 1 rfl).trans e1
   have e3 := (hk 3 rfl).trans e3
   have e89 := (hk 89 rfl).trans rfl
   have e92 := hd 39 rfl rfl 92 rfl
   have e96 := hd 43 rfl rfl 96 rfl
   have b2 := b2.gr q172
   have fB := fB.gr q172
   refine rd_seq (m := 44) (n := 46) rfl ?_
   refine ol_gval (v := .bool (!decide ((List.length a0.Charts : Int) = t167))) (xr_neI rfl Try.underlying3 rfl e92 e96) rfl rfl rfl rfl e89 c163 ?_
   refine ol_val (v := .bool (!decide ((List.length a0.Charts : Int) = t167))) (xr_pickF rfl e89 c163 rfl) rfl rfl rfl ?_
   refine ol_nilK ?_
   refine rd_end rfl ?_
   obtain rfl := Option.some.inj j24
   refine thn_i ?_
   exact ⟨e1, e3, rfl, ((((q26.gr q154).gr q158).gr q161).gr q172)⟩
  refine rd_drawL 29 32 [fun vz _ => vz = undef, fun vz _ => vz = undef, fun vz _ => vz = undef] rfl ⟨fun _ _ _ h _ => h, fun _ _ _ h _ => h, fun _ _ _ h _ => h, trivial⟩ ?_ ?_
  ·refine ⟨?_, ?_, ?_, trivial⟩
   ·intro ρz wz hz hk hd
    exact sk_skip rfl rfl ((hk 81 rfl).trans rfl) c155 rfl
   ·intro ρz wz hz hk hd
    exact sk_skip rfl rfl ((hk 81 rfl).trans rfl) c155 rfl
   intro ρz wz hz hk hd
   exact sk_skip rfl rfl ((hk 81 rfl).trans rfl) c155 rfl
  intro ρ173 w174 q175 hk hd
  have e1 := (hk 1 rfl).trans e1
  have e3 := (hk 3 rfl).trans e3
  have e77 := (hk 77 rfl).trans rfl
  have e81 := (hk 81 rfl).trans rfl
  have e82 := hd 29 rfl rfl 82 rfl
  have e84 := hd 31 rfl rfl 84 rfl
  have b2 := b2.gr q175
  have fB := fB.gr q175
  refine rd_seq (m := 32) (n := 37) rfl ?_
  refine ol_gskip rfl rfl rfl rfl e81 c155 ?_
  refine ol_gskip rfl rfl rfl rfl e81 c155 ?_
  refine ol_gval (v := .bool false) (xr_pickF rfl e81 c155 rfl) rfl rfl rfl rfl e77 rfl ?_
  refine ol_val (v := .bool false) (xr_pickF rfl e77 rfl rfl) rfl rfl rfl ?_
  refine ol_val (v := .bool false) (xr_move rfl rfl) rfl rfl rfl ?_
  refine ol_nilK ?_
  obtain ⟨t176, k177, j24⟩ := bs j24
  refine rd_drawL 37 44 [fun vz wz => vz = ((pt G1 8) : Value), fun vz wz => vz = (V0_0 : Value), fun vz wz => vz = (.int .i64 (List.length a0.Charts : Int) : Value), fun vz wz => vz = ((pt G1 1) : Value), fun vz wz => vz = ((pt G1 1) : Value), fun vz wz => vz = (aggV [(sI a0.Tickets.Geometry.Blocks), (sI a0.Tickets.Geometry.Slots), (sI a0.Tickets.Geometry.Gens)] : Value), fun vz wz => vz = (.int .i64 t176 : Value)] rfl ⟨fun _ _ _ h _ => h, fun _ _ _ h _ => h, fun _ _ _ h _ => h, fun _ _ _ h _ => h, fun _ _ _ h _ => h, fun _ _ _ h _ => h, fun _ _ _ h _ => h, trivial⟩ ?_ ?_
  ·refine ⟨?_, ?_, ?_, ?_, ?_, ?_, ?_, trivial⟩
   ·intro ρz wz hz hk hd
    exact sk_gval (v := (pt G1 8)) (xr_fieldAddr (p := 0) (q := 8) rfl fl110_3 ((hk 1 rfl).trans e1)) rfl rfl ((hk 89 rfl).trans rfl) rfl rfl
   ·intro ρz wz hz hk hd
    exact sk_gval (v := V0_0) (xr_load1 (v := V0_0) rfl ag25 (hd 37 rfl rfl 90 rfl) ((b2.gr hz).seg 8 rfl rfl)) rfl rfl ((hk 89 rfl).trans rfl) rfl rfl
   ·intro ρz wz hz hk hd
    exact sk_gval (v := .int .i64 (List.length a0.Charts : Int)) (xr_lenR rfl Try.underlying25 (hd 38 rfl rfl 91 rfl) (R0_0.gr (fB.gr hz))) rfl rfl ((hk 89 rfl).trans rfl) rfl rfl
   ·intro ρz wz hz hk hd
    exact sk_gval (v := (pt G1 1)) (xr_fieldAddr (p := 0) (q := 1) rfl fl110_1 ((hk 1 rfl).trans e1)) rfl rfl ((hk 89 rfl).trans rfl) rfl rfl
   ·intro ρz wz hz hk hd
    exact sk_gval (v := (pt G1 1)) (xr_fieldAddr (p := 1) (q := 0) rfl fl108_0 (hd 40 rfl rfl 93 rfl)) rfl rfl ((hk 89 rfl).trans rfl) rfl rfl
   ·intro ρz wz hz hk hd
    exact sk_gval (xr_loadS (ss := [(sI a0.Tickets.Geometry.Blocks), (sI a0.Tickets.Geometry.Slots), (sI a0.Tickets.Geometry.Gens)]) rfl ag106 sz106 rfl (hd 41 rfl rfl 94 rfl) ((b2.gr hz).segs 1 3 rfl)) rfl rfl ((hk 89 rfl).trans rfl) rfl rfl
   intro ρz wz hz hk hd
   refine sk_gop (opv_call rfl cal145 (ac (hd 42 rfl rfl 95 rfl) an) (geom_Charts.ok fu _ a0.Tickets.Geometry _ k177)) rfl rfl ((hk 89 rfl).trans rfl) rfl ?_
   rintro _ wy ⟨rfl, q178⟩
   exact ⟨rfl, q178⟩
  intro ρ179 w180 q181 hk hd
  have e1 := (hk 1 rfl).trans e1
  have e3 := (hk 3 rfl).trans e3
  have e89 := (hk 89 rfl).trans rfl
  have e92 := hd 39 rfl rfl 92 rfl
  have e96 := hd 43 rfl rfl 96 rfl
  have b2 := b2.gr q181
  have fB := fB.gr q181
  refine rd_seq (m := 44) (n := 46) rfl ?_
  refine ol_gval (v := .bool (!decide ((List.length a0.Charts : Int) = t176))) (xr_neI rfl Try.underlying3 rfl e92 e96) rfl rfl rfl rfl e89 rfl ?_
  refine ol_val (v := .bool (!decide ((List.length a0.Charts : Int) = t176))) (xr_pickF rfl e89 rfl rfl) rfl rfl rfl ?_
  refine ol_nilK ?_
  refine rd_end rfl ?_
  obtain rfl := Option.some.inj j24
  refine thn_i ?_
  exact ⟨e1, e3, rfl, (((q26.gr q154).gr q175).gr q181)⟩
 rintro ρ182 w183 ⟨e1, e3, e98, q184⟩
 have b2 := b2.gr q184
 have fB := fB.gr q184
 rcases is h with ⟨c185, h⟩ | ⟨c185, h⟩
 ·refine cw_condT e98 c185 ?_
  refine cw_seq ?_
  refine cw_region ?_
  refine ol_val (v := .bool false) (xr_assign rfl rfl) rfl rfl rfl ?_
  refine ol_nil ?_
  refine cw_ret ?_
  repeat (first | with_reducible refine thn_r ?_ | with_reducible refine blk_r ?_)
  obtain rfl := Option.some.inj h
  refine fin_ret1 Try.results132 rfl ?_
  exact ⟨_, rfl, rfl, fB⟩
 refine cw_condF e98 c185 ?_
 refine cw_skip ?_
 refine cw_seq ?_
 refine cw_seq ?_
 refine cw_region ?_
 refine ol_val (v := (pt G1 8)) (xr_fieldAddr (p := 0) (q := 8) rfl fl110_3 e1) rfl rfl rfl ?_
 refine ol_val (v := V0_0) (xr_load1 (v := V0_0) rfl ag25 rfl (b2.seg 8 rfl rfl)) rfl rfl rfl ?_
 refine ol_val (v := .int .i64 (List.length a0.Charts : Int)) (xr_lenR rfl Try.underlying25 rfl (R0_0.gr fB)) rfl rfl rfl ?_
 refine ol_val (v := .int .i64 0) (xr_move rfl rfl) rfl rfl rfl ?_
 refine ol_nil ?_
 obtain ⟨e187, l188, h189⟩ := bs h
 refine cw_mid (fun ρ' w' => ∃ x190, e187 = Sum.inr x190 ∧ Gr w w') ?_ ?_
 ·refine cw_block ?_
  refine cw_round (fun (s186 : Int) ρ' w' => ρ' 1 = (pt G1 0) ∧ ρ' 3 = Value.func (.func 144) #[] #[(pt G1 0)] ∧ ρ' 100 = V0_0 ∧ ρ' 101 = .int .i64 (List.length a0.Charts : Int) ∧ ρ' 102 = .int .i64 s186 ∧ Blk w' G1 110 [(sI a0.Epoch), (sI a0.Tickets.Geometry.Blocks), (sI a0.Tickets.Geometry.Slots), (sI a0.Tickets.Geometry.Gens), (sI a0.Tickets.Top), (sI a0.Tickets.High), (sI a0.Tickets.Free), (sI a0.Dir), Seg.cell V0_0 R0_0.one] ∧ Gr w w') l188 ?_ ?_
  ·skip
   exact ⟨e1, e3, rfl, rfl, rfl, b2, fB⟩
  rintro s186 x193 ρ191 w192 ⟨e1, e3, e100, e101, e102, b2, fB⟩ h
  unfold super_Right.s0 at h
  refine cw_seq ?_
  refine cw_region ?_
  refine ol_val (v := .bool (decide (s186 < (List.length a0.Charts : Int)))) (xr_lss rfl e102 e101) rfl rfl rfl ?_
  refine ol_nil ?_
  refine cw_seq ?_
  rcases is h with ⟨c194, h⟩ | ⟨c194, h⟩
  ·refine cw_condT rfl c194 ?_
   refine cw_skip ?_
   refine cw_seq ?_
   refine cw_block ?_
   refine cw_seq ?_
   refine cw_region ?_
   refine ol_val (v := .int .i64 s186) (xr_move rfl e102) rfl rfl rfl ?_
   obtain ⟨g195, h⟩ := gs h
   refine ol_val (v := (pt ((sb V0_0)) (so V0_0 + Int.toNat s186 * 1))) (xr_indexR (K := (kI .i64)) (v := V0_0) rfl Try.underlying25 sz3 e100 (R0_0.gr fB) e102 g195.1 g195.2) rfl rfl rfl ?_
   refine ol_val (v := .int .i64 (ix a0.Charts s186)) (xr_load1 (v := .int .i64 (ix a0.Charts s186)) rfl ag3 rfl ((R0_0.gr fB).elem g195.1 g195.2)) rfl rfl rfl ?_
   refine ol_val (v := .int .i64 s186) (xr_assign rfl rfl) rfl rfl rfl ?_
   refine ol_val (v := .int .i64 (ix a0.Charts s186)) (xr_assign rfl rfl) rfl rfl rfl ?_
   refine ol_nil ?_
   refine cw_seq ?_
   obtain ⟨x196, j197, h⟩ := bs h
   refine cw_mid (fun ρ' w' => ρ' 1 = (pt G1 0) ∧ ρ' 3 = Value.func (.func 144) #[] #[(pt G1 0)] ∧ ρ' 100 = V0_0 ∧ ρ' 101 = .int .i64 (List.length a0.Charts : Int) ∧ ρ' 102 = .int .i64 s186 ∧ ρ' 118 = .bool x196 ∧ Gr w192 w') ?_ ?_
   ·skip
    refine cw_region ?_
    refine ol_val (v := Value.func (.func 144) #[] #[(pt G1 0)]) (xr_move rfl e3) rfl rfl rfl ?_
    refine ol_val (v := .int .i64 (ix a0.Charts s186)) (xr_move rfl rfl) rfl rfl rfl ?_
    obtain ⟨t198, k199, j197⟩ := bs j197
    refine ol_op (opv_callV (C := [(pt G1 0)]) rfl rfl cal144 (ac rfl an) (super_Right_1__c.ok fu _ (ix a0.Charts s186) a0 G1 V0_0 (R0_0.gr fB) b2 _ k199)) rfl rfl rfl ?_
    rintro _ w201 ⟨rfl, q200⟩
    have b2 := b2.gr q200
    have fB := fB.gr q200
    refine ol_val (v := .bool (!t198)) (xr_not rfl rfl) rfl rfl rfl ?_
    refine ol_val (v := .bool (!t198)) (xr_move rfl rfl) rfl rfl rfl ?_
    rcases is j197 with ⟨c202, j197⟩ | ⟨c202, j197⟩
    ·skip
     refine ol_gskip rfl rfl rfl rfl rfl c202 ?_
     refine ol_gskip rfl rfl rfl rfl rfl c202 ?_
     refine ol_gskip rfl rfl rfl rfl rfl c202 ?_
     refine ol_gskip rfl rfl rfl rfl rfl c202 ?_
     refine ol_gskip rfl rfl rfl rfl rfl c202 ?_
     refine ol_gskip rfl rfl rfl rfl rfl c202 ?_
     refine ol_val (v := .bool true) (xr_pickT rfl rfl c202 rfl) rfl rfl rfl ?_
     refine ol_nil ?_
     obtain rfl := Option.some.inj j197
     refine thn_i ?_
     exact ⟨e1, e3, e100, e101, e102, rfl, q200⟩
    refine ol_gval (v := (pt G1 8)) (xr_fieldAddr (p := 0) (q := 8) rfl fl110_3 e1) rfl rfl rfl rfl rfl c202 ?_
    refine ol_gval (v := V0_0) (xr_load1 (v := V0_0) rfl ag25 rfl (b2.seg 8 rfl rfl)) rfl rfl rfl rfl rfl c202 ?_
    refine ol_gval (v := .int .i64 s186) (xr_move rfl rfl) rfl rfl rfl rfl rfl c202 ?_
    obtain ⟨g204, j197⟩ := gs j197
    refine ol_gval (v := subv 1 V0_0 0 (Int.toNat s186)) (xr_slice_h (K := (kI .i64)) (v := V0_0) rfl Try.underlying25 sz3 rfl (R0_0.gr fB) rfl g204.1 g204.2) rfl rfl rfl rfl rfl c202 ?_
    have r203 : Rd (kI .i64) w201 (subv 1 V0_0 0 (Int.toNat s186)) (cut a0.Charts 0 s186) := (R0_0.gr fB).cut (lo := 0) (hi := s186) (by decide) g204.1 g204.2
    refine ol_gval (v := .int .i64 (ix a0.Charts s186)) (xr_move rfl rfl) rfl rfl rfl rfl rfl c202 ?_
    obtain ⟨t205, k206, j197⟩ := bs j197
    refine ol_gop (opv_call rfl cal146 (ac rfl (ac rfl an)) (slices_Contains_2.ok fu _ (cut a0.Charts 0 s186) (subv 1 V0_0 0 (Int.toNat s186)) (r203) (ix a0.Charts s186) _ k206)) rfl rfl rfl rfl rfl c202 ?_
    rintro _ w208 ⟨rfl, q207⟩
    have b2 := b2.gr q207
    have r203 := r203.gr q207
    have fB := fB.gr q207
    refine ol_val (v := .bool t205) (xr_pickF rfl rfl c202 rfl) rfl rfl rfl ?_
    refine ol_nil ?_
    obtain rfl := Option.some.inj j197
    refine thn_i ?_
    exact ⟨e1, e3, e100, e101, e102, rfl, (q200.gr q207)⟩
   rintro ρ209 w210 ⟨e1, e3, e100, e101, e102, e118, q211⟩
   have b2 := b2.gr q211
   have fB := fB.gr q211
   rcases is h with ⟨c212, h⟩ | ⟨c212, h⟩
   ·refine cw_condT e118 c212 ?_
    refine cw_seq ?_
    refine cw_region ?_
    refine ol_val (v := .bool false) (xr_assign rfl rfl) rfl rfl rfl ?_
    refine ol_nil ?_
    refine cw_ret ?_
    repeat (first | with_reducible refine thn_r ?_ | with_reducible refine blk_r ?_)
    obtain rfl := Option.some.inj h
    refine lp_ret ?_
    rintro rfl
    repeat (first | with_reducible refine thn_r ?_ | with_reducible refine blk_r ?_)
    have h := h189
    obtain rfl := Option.some.inj h
    refine fin_ret1 Try.results132 rfl ?_
    exact ⟨_, rfl, rfl, fB⟩
   refine cw_condF e118 c212 ?_
   refine cw_skip ?_
   refine blk_i ?_
   refine cw_region ?_
   refine ol_val (v := .int .i64 (IntKind.i64.wrap (s186 + 1))) (xr_add rfl e102 rfl) rfl rfl rfl ?_
   refine ol_val (v := .int .i64 (IntKind.i64.wrap (s186 + 1))) (xr_move rfl rfl) rfl rfl rfl ?_
   refine ol_nil ?_
   obtain rfl := Option.some.inj h
   refine lp_in ?_
   exact ⟨e1, e3, e100, e101, rfl, b2, fB⟩
  refine cw_condF rfl c194 ?_
  refine cw_exit ?_
  repeat (first | with_reducible refine thn_e ?_ | with_reducible refine blk_e rfl ?_)
  obtain rfl := Option.some.inj h
  refine lp_exit ?_
  rintro rfl
  refine thn_x ?_
  exact ⟨_, rfl, fB⟩
 rintro ρ213 w214 ⟨x190, rfl, fB⟩
 have h := h189
 refine cw_seq ?_
 refine cw_region ?_
 refine ol_val (v := .bool true) (xr_assign rfl rfl) rfl rfl rfl ?_
 refine ol_nil ?_
 refine cw_ret ?_
 repeat (first | with_reducible refine thn_r ?_ | with_reducible refine blk_r ?_)
 obtain rfl := Option.some.inj h
 refine fin_ret1 Try.results132 rfl ?_
 exact ⟨_, rfl, rfl, fB⟩
def super_Get.s0 (fu : Nat) (t10 : Int × Int × (List Int) × Bool) : (Int × (List Int) × (List Int)) → Option (Sum ((List Int) × (List Int)) (Int × (List Int) × (List Int))) := fun s145 => (if (decide (s145.1 < t10.2.1)) = true then ((super_reader_next.f fu (⟨s145.2.2⟩ : S_super_reader) 2).bind fun t171 => (if List.length s145.2.1 + List.length [t171.1] ≤ LIM then some (Sum.inr ((IntKind.i64.wrap (s145.1 + 1)), (s145.2.1 ++ [t171.1]), t171.2.rest)) else none)) else some (Sum.inl (s145.2.1, s145.2.2)))
def super_Get.f (fu : Nat) (a0 : List Int) : Option (S_api_Super × Bool) := ((block_Open.f fu a0).bind fun t10 => (if (if (!t10.2.2.2) = true then true else (if (!decide (t10.1 = 7)) = true then true else (decide (t10.2.1 > 8)))) = true then some ((⟨(0 : Int), (⟨(⟨(0 : Int), (0 : Int), (0 : Int)⟩ : S_api_Geometry), (0 : Int), (0 : Int), (0 : Int)⟩ : S_api_Tickets), (0 : Int), []⟩ : S_api_Super), false) else ((super_reader_next.f fu (⟨t10.2.2.1⟩ : S_super_reader) 8).bind fun t41 => ((super_reader_next.f fu t41.2 4).bind fun t54 => ((super_reader_next.f fu t54.2 4).bind fun t67 => ((super_reader_next.f fu t67.2 4).bind fun t80 => ((super_reader_next.f fu t80.2 4).bind fun t93 => ((super_reader_next.f fu t93.2 4).bind fun t106 => ((super_reader_next.f fu t106.2 2).bind fun t119 => ((super_reader_next.f fu t119.2 2).bind fun t130 => ((loopM (super_Get.s0 fu t10) fu (0, [], t130.2.rest)).bind fun e146 => ((((super_Right.f fu (⟨t41.1, (⟨(⟨t54.1, t67.1, t80.1⟩ : S_api_Geometry), t119.1, t93.1, t106.1⟩ : S_api_Tickets), t130.1, e146.1⟩ : S_api_Super)).bind fun t215 => (if (!t215) = true then some (true) else ((octet_Noughts.f fu e146.2 0 (List.length e146.2 : Int)).bind fun t220 => some ((!t220))))) : Option Bool).bind fun x213 => (if x213 = true then some ((⟨(0 : Int), (⟨(⟨(0 : Int), (0 : Int), (0 : Int)⟩ : S_api_Geometry), (0 : Int), (0 : Int), (0 : Int)⟩ : S_api_Tickets), (0 : Int), []⟩ : S_api_Super), false) else some ((⟨t41.1, (⟨(⟨t54.1, t67.1, t80.1⟩ : S_api_Geometry), t119.1, t93.1, t106.1⟩ : S_api_Tickets), t130.1, e146.1⟩ : S_api_Super), true))))))))))))))
theorem super_Get.ok (fu : Nat) (w : World) (a0 : List Int) (V0_0 : Value) (R0_0 : Rd (kI .u8) w V0_0 a0) (r : S_api_Super × Bool) (h : super_Get.f fu a0 = some r) :
  Calls Try.prog 113 (([V0_0] : List Value).toArray) w (fun e w' => ∃ v, e = .returned v ∧ ∃ u1 : Value, ∃ o2 : Own (kI .i64) 3 w' w.heap.size u1 r.1.Charts, v = .tuple #[aggV [(sI r.1.Epoch), (sI r.1.Tickets.Geometry.Blocks), (sI r.1.Tickets.Geometry.Slots), (sI r.1.Tickets.Geometry.Gens), (sI r.1.Tickets.Top), (sI r.1.Tickets.High), (sI r.1.Tickets.Free), (sI r.1.Dir), Seg.cell u1 o2.one], .bool r.2] ∧ Gr w w') := by
 unfold super_Get.f at h
 have fB : Gr w w := Fr.refl _ _
 refine calls_cw Try.func113 rfl Try.ntmps113 rfl ?_
 refine cw_seq ?_
 refine cw_region ?_
 refine ol_op (opv_alloc (ss := [(sI (0 : Int)), (sI (0 : Int)), (sI (0 : Int)), (sI (0 : Int)), (sI (0 : Int)), (sI (0 : Int)), (sI (0 : Int)), (sI (0 : Int)), Seg.cell (.slice none 0 0) (by rfl)]) rfl ze110 rfl) rfl rfl rfl ?_
 rintro _ w9 ⟨G4, rfl, b5, q6, z7⟩
 have z7 := Nat.le_trans fB.size z7
 have fB := fB.gr q6
 refine ol_val (v := .bool false) (xr_assign rfl rfl) rfl rfl rfl ?_
 refine ol_nil ?_
 refine cw_seq ?_
 refine cw_region ?_
 refine ol_val (v := V0_0) (xr_move rfl rfl) rfl rfl rfl ?_
 obtain ⟨t10, k11, h⟩ := bs h
 refine ol_op (opv_call rfl cal130 (ac rfl an) (block_Open.ok fu _ a0 V0_0 (R0_0.gr fB) _ k11)) rfl rfl rfl ?_
 rintro _ w16 ⟨u12, o13, rfl, q15⟩
 have o13 := Own.base o13 fB.size
 have b5 := b5.gr q15
 have fB := fB.gr q15
 refine ol_val (v := .tuple #[.int .i64 t10.1, .int .i64 t10.2.1, u12, .bool t10.2.2.2]) (xr_move rfl rfl) rfl rfl rfl ?_
 refine ol_val (v := .int .i64 t10.1) (xr_extract rfl rfl rfl) rfl rfl rfl ?_
 refine ol_val (v := .int .i64 t10.2.1) (xr_extract rfl rfl rfl) rfl rfl rfl ?_
 refine ol_val (v := u12) (xr_extract rfl rfl rfl) rfl rfl rfl ?_
 refine ol_val (v := .bool t10.2.2.2) (xr_extract rfl rfl rfl) rfl rfl rfl ?_
 refine ol_val (v := .int .i64 t10.1) (xr_assign rfl rfl) rfl rfl rfl ?_
 refine ol_val (v := .int .i64 t10.2.1) (xr_assign rfl rfl) rfl rfl rfl ?_
 refine ol_val (v := u12) (xr_assign rfl rfl) rfl rfl rfl ?_
 refine ol_val (v := .bool t10.2.2.2) (xr_assign rfl rfl) rfl rfl rfl ?_
 refine ol_nil ?_
 refine cw_seq ?_
 refine cw_seq ?_
 refine cw_mid (fun ρ' w' => ρ' 2 = (pt G4 0) ∧ ρ' 5 = .int .i64 t10.2.1 ∧ ρ' 6 = u12 ∧ ρ' 28 = .bool (if (!t10.2.2.2) = true then true else (if (!decide (t10.1 = 7)) = true then true else (decide (t10.2.1 > 8)))) ∧ w16 = w') ?_ ?_
 ·skip
  refine cw_region ?_
  refine ol_val (v := .bool t10.2.2.2) (xr_move rfl rfl) rfl rfl rfl ?_
  refine ol_val (v := .bool (!t10.2.2.2)) (xr_not rfl rfl) rfl rfl rfl ?_
  refine ol_val (v := .bool (!t10.2.2.2)) (xr_move rfl rfl) rfl rfl rfl ?_
  rcases bt (!t10.2.2.2) with c17 | c17
  ·skip
   refine ol_gskip rfl rfl rfl rfl rfl c17 ?_
   refine ol_gskip rfl rfl rfl rfl rfl c17 ?_
   refine ol_val (v := .bool true) (xr_pickT rfl rfl c17 rfl) rfl rfl rfl ?_
   refine ol_val (v := .bool true) (xr_move rfl rfl) rfl rfl rfl ?_
   refine ol_gskip rfl rfl rfl rfl rfl rfl ?_
   refine ol_gskip rfl rfl rfl rfl rfl rfl ?_
   refine ol_val (v := .bool true) (xr_pickT rfl rfl rfl rfl) rfl rfl rfl ?_
   refine ol_nil ?_
   refine thn_i ?_
   exact ⟨rfl, rfl, rfl, (rfl).trans (congrArg (fun z => (.bool z : Value)) (show true = (if (!t10.2.2.2) = true then true else (if (!decide (t10.1 = 7)) = true then true else (decide (t10.2.1 > 8)))) from by rw [ite_t c17])), rfl⟩
  refine ol_gval (v := .int .i64 t10.1) (xr_move rfl rfl) rfl rfl rfl rfl rfl c17 ?_
  refine ol_gval (v := .bool (!decide (t10.1 = 7))) (xr_neI rfl Try.underlying3 rfl rfl rfl) rfl rfl rfl rfl rfl c17 ?_
  refine ol_val (v := .bool (!decide (t10.1 = 7))) (xr_pickF rfl rfl c17 rfl) rfl rfl rfl ?_
  refine ol_val (v := .bool (!decide (t10.1 = 7))) (xr_move rfl rfl) rfl rfl rfl ?_
  rcases bt (!decide (t10.1 = 7)) with c18 | c18
  ·skip
   refine ol_gskip rfl rfl rfl rfl rfl c18 ?_
   refine ol_gskip rfl rfl rfl rfl rfl c18 ?_
   refine ol_val (v := .bool true) (xr_pickT rfl rfl c18 rfl) rfl rfl rfl ?_
   refine ol_nil ?_
   refine thn_i ?_
   exact ⟨rfl, rfl, rfl, (rfl).trans (congrArg (fun z => (.bool z : Value)) (show true = (if (!t10.2.2.2) = true then true else (if (!decide (t10.1 = 7)) = true then true else (decide (t10.2.1 > 8)))) from by rw [ite_f c17, ite_t c18])), rfl⟩
  refine ol_gval (v := .int .i64 t10.2.1) (xr_move rfl rfl) rfl rfl rfl rfl rfl c18 ?_
  refine ol_gval (v := .bool (decide (t10.2.1 > 8))) (xr_gtr rfl rfl rfl) rfl rfl rfl rfl rfl c18 ?_
  refine ol_val (v := .bool (decide (t10.2.1 > 8))) (xr_pickF rfl rfl c18 rfl) rfl rfl rfl ?_
  refine ol_nil ?_
  refine thn_i ?_
  exact ⟨rfl, rfl, rfl, (rfl).trans (congrArg (fun z => (.bool z : Value)) (show (decide (t10.2.1 > 8)) = (if (!t10.2.2.2) = true then true else (if (!decide (t10.1 = 7)) = true then true else (decide (t10.2.1 > 8)))) from by rw [ite_f c17, ite_f c18])), rfl⟩
 rintro ρ19 _ ⟨e2, e5, e6, e28, rfl⟩
 rcases is h with ⟨c20, h⟩ | ⟨c20, h⟩
 ·refine cw_condT e28 c20 ?_
  refine cw_seq ?_
  refine cw_region ?_
  refine ol_val (v := aggV [(sI (0 : Int)), (sI (0 : Int)), (sI (0 : Int)), (sI (0 : Int)), (sI (0 : Int)), (sI (0 : Int)), (sI (0 : Int)), (sI (0 : Int)), Seg.cell (.slice none 0 0) (by rfl)]) (xr_build (vals := []) rfl trivial (bl110_ _)) rfl rfl rfl ?_
  refine ol_op0 (opv_store (ss' := [(sI (0 : Int)), (sI (0 : Int)), (sI (0 : Int)), (sI (0 : Int)), (sI (0 : Int)), (sI (0 : Int)), (sI (0 : Int)), (sI (0 : Int)), Seg.cell (.slice none 0 0) (by rfl)]) (xs := cellsOf [(sI (0 : Int)), (sI (0 : Int)), (sI (0 : Int)), (sI (0 : Int)), (sI (0 : Int)), (sI (0 : Int)), (sI (0 : Int)), (sI (0 : Int)), Seg.cell (.slice none 0 0) (by rfl)]) rfl sz110 e2 rfl rfl (len_cellsOf _) (one_cellsOf _) b5 (Spl.segs _ 0 9 [(sI (0 : Int)), (sI (0 : Int)), (sI (0 : Int)), (sI (0 : Int)), (sI (0 : Int)), (sI (0 : Int)), (sI (0 : Int)), (sI (0 : Int)), Seg.cell (.slice none 0 0) (by rfl)] rfl rfl)) rfl rfl ?_
  rintro _ w22 ⟨b5, q21⟩
  have fB := fB.wr q21 z7
  refine ol_val (v := .bool false) (xr_assign rfl rfl) rfl rfl rfl ?_
  refine ol_nil ?_
  refine cw_ret ?_
  repeat (first | with_reducible refine thn_r ?_ | with_reducible refine blk_r ?_)
  obtain rfl := Option.some.inj h
  refine fin_cell_tmp Try.results113 e2 ag110 sz110 b5 (by rfl) rfl ?_
  exact ⟨_, rfl, (.slice none 0 0), Own.nil _ _ _ _, rfl, fB⟩
 refine cw_condF e28 c20 ?_
 refine cw_skip ?_
 refine cw_seq ?_
 refine cw_region ?_
 refine ol_op (opv_alloc (ss := [(sI (0 : Int)), (sI (0 : Int)), (sI (0 : Int)), (sI (0 : Int)), (sI (0 : Int)), (sI (0 : Int)), (sI (0 : Int)), (sI (0 : Int)), Seg.cell (.slice none 0 0) (by rfl)]) rfl ze110 rfl) rfl rfl rfl ?_
 rintro _ w28 ⟨G23, rfl, b24, q25, z26⟩
 have n29 := b5.ne z26
 have z26 := Nat.le_trans fB.size z26
 have b5 := b5.gr q25
 have o13 := o13.gr q25
 have fB := fB.gr q25
 refine ol_nil ?_
 refine cw_seq ?_
 refine cw_region ?_
 refine ol_val (v := u12) (xr_move rfl e6) rfl rfl rfl ?_
 refine ol_val (v := aggV [Seg.cell u12 o13.one]) (xr_buildS (vals := [(0, u12)]) (res := [Seg.cell u12 o13.one]) rfl ⟨rfl, rfl, trivial⟩ Try.underlying182 ze182 pl182 (fl_cons (xs := cellsOf [Seg.cell u12 o13.one]) (cs' := cellsOf [Seg.cell u12 o13.one]) rfl (cells_one o13.one) (len_cellsOf _) (Spl.segs [Seg.cell (.slice none 0 0) (by rfl)] 0 1 [Seg.cell u12 o13.one] rfl rfl) fl_nil)) rfl rfl rfl ?_
 refine ol_op (opv_alloc (ss := [Seg.cell (.slice none 0 0) (by rfl)]) rfl ze182 rfl) rfl rfl rfl ?_
 rintro _ w35 ⟨G30, rfl, b31, q32, z33⟩
 have n36 := b5.ne z33
 have n37 := b24.ne z33
 have z33 := Nat.le_trans fB.size z33
 have b5 := b5.gr q32
 have b24 := b24.gr q32
 have o13 := o13.gr q32
 have fB := fB.gr q32
 have f39 := off_ty b31 o13 (by decide)
 refine ol_op0 (opv_store (ss' := [Seg.cell u12 o13.one]) (xs := cellsOf [Seg.cell u12 o13.one]) rfl sz182 rfl rfl rfl (len_cellsOf _) (one_cellsOf _) b31 (Spl.segs _ 0 1 [Seg.cell u12 o13.one] rfl rfl)) rfl rfl ?_
 rintro _ w40 ⟨b31, q38⟩
 have b5 := b5.wr q38 n36
 have b24 := b24.wr q38 n37
 have o13 := o13.wr q38 f39
 have fB := fB.wr q38 z33
 refine ol_nil ?_
 refine cw_seq ?_
 refine cw_region ?_
 obtain ⟨t41, k42, h⟩ := bs h
 have a48 := (OffR.own o13 (off_ty b5 o13 (by decide)))
 have a49 := (OffR.own o13 (off_ty b24 o13 (by decide)))
 have a50 := (OffR.own o13 (off_ty b31 o13 (by decide)))
 refine ol_op (opv_call rfl cal131 (ac rfl (ac rfl an)) (super_reader_next.ok fu _ (⟨t10.2.2.1⟩ : S_super_reader) G30 u12 o13.rd (OffR.own o13 (off_ty b31 o13 (by decide))) b31 8 _ k42)) rfl rfl rfl ?_
 rintro _ w51 ⟨u44, r45, n46, n47, rfl, b31, q43⟩
 have b5 := b5.wr q43 n36
 have b24 := b24.wr q43 n37
 have fB := fB.wr q43 z33
 refine ol_val (v := (pt G23 0)) (xr_fieldAddr (p := 0) (q := 0) rfl fl110_0 rfl) rfl rfl rfl ?_
 refine ol_op0 (opv_store (ss' := [(sI t41.1), (sI (0 : Int)), (sI (0 : Int)), (sI (0 : Int)), (sI (0 : Int)), (sI (0 : Int)), (sI (0 : Int)), (sI (0 : Int)), Seg.cell (.slice none 0 0) (by rfl)]) (xs := cellsOf [(sI t41.1)]) rfl sz3 rfl rfl rfl (len_cellsOf _) (one_cellsOf _) b24 (Spl.segs _ 0 1 [(sI t41.1)] rfl rfl)) rfl rfl ?_
 rintro _ w53 ⟨b24, q52⟩
 have b5 := b5.wr q52 n29
 have b31 := b31.wr q52 n37.symm
 have r45 := r45.wr q52 (n46 _ a49)
 have fB := fB.wr q52 z26
 refine ol_nil ?_
 refine cw_seq ?_
 refine cw_seq ?_
 refine cw_region ?_
 refine ol_val (v := (pt G23 1)) (xr_fieldAddr (p := 0) (q := 1) rfl fl110_1 rfl) rfl rfl rfl ?_
 refine ol_val (v := (pt G23 1)) (xr_fieldAddr (p := 1) (q := 0) rfl fl108_0 rfl) rfl rfl rfl ?_
 refine ol_val (v := (pt G23 1)) (xr_fieldAddr (p := 1) (q := 0) rfl fl106_0 rfl) rfl rfl rfl ?_
 refine ol_val (v := (pt G23 1)) (xr_fieldAddr (p := 0) (q := 1) rfl fl110_1 rfl) rfl rfl rfl ?_
 refine ol_val (v := (pt G23 1)) (xr_fieldAddr (p := 1) (q := 0) rfl fl108_0 rfl) rfl rfl rfl ?_
 refine ol_val (v := (pt G23 2)) (xr_fieldAddr (p := 1) (q := 1) rfl fl106_1 rfl) rfl rfl rfl ?_
 refine ol_val (v := (pt G23 1)) (xr_fieldAddr (p := 0) (q := 1) rfl fl110_1 rfl) rfl rfl rfl ?_
 refine ol_val (v := (pt G23 1)) (xr_fieldAddr (p := 1) (q := 0) rfl fl108_0 rfl) rfl rfl rfl ?_
 refine ol_val (v := (pt G23 3)) (xr_fieldAddr (p := 1) (q := 2) rfl fl106_2 rfl) rfl rfl rfl ?_
 refine ol_val (v := (pt G23 1)) (xr_fieldAddr (p := 0) (q := 1) rfl fl110_1 rfl) rfl rfl rfl ?_
 refine ol_val (v := (pt G23 5)) (xr_fieldAddr (p := 1) (q := 4) rfl fl108_2 rfl) rfl rfl rfl ?_
 refine ol_val (v := (pt G23 1)) (xr_fieldAddr (p := 0) (q := 1) rfl fl110_1 rfl) rfl rfl rfl ?_
 refine ol_val (v := (pt G23 6)) (xr_fieldAddr (p := 1) (q := 5) rfl fl108_3 rfl) rfl rfl rfl ?_
 refine ol_val (v := aggV [Seg.cell ((pt G23 1)), Seg.cell ((pt G23 2)), Seg.cell ((pt G23 3)), Seg.cell ((pt G23 5)), Seg.cell ((pt G23 6))]) (xr_buildA (vals := [(0, (pt G23 1)), (1, (pt G23 2)), (2, (pt G23 3)), (3, (pt G23 5)), (4, (pt G23 6))]) (res := [Seg.cell ((pt G23 1)), Seg.cell ((pt G23 2)), Seg.cell ((pt G23 3)), Seg.cell ((pt G23 5)), Seg.cell ((pt G23 6))]) rfl ⟨rfl, rfl, ⟨rfl, rfl, ⟨rfl, rfl, ⟨rfl, rfl, ⟨rfl, rfl, trivial⟩⟩⟩⟩⟩ Try.underlying184 ze184 sz183 (fl_cons (xs := cellsOf [Seg.cell ((pt G23 1))]) (cs' := cellsOf [Seg.cell ((pt G23 1)), Seg.cell (.pointer none), Seg.cell (.pointer none), Seg.cell (.pointer none), Seg.cell (.pointer none)]) rfl rfl (len_cellsOf _) (Spl.segs [Seg.cell (.pointer none), Seg.cell (.pointer none), Seg.cell (.pointer none), Seg.cell (.pointer none), Seg.cell (.pointer none)] 0 1 [Seg.cell ((pt G23 1))] rfl rfl) (fl_cons (xs := cellsOf [Seg.cell ((pt G23 2))]) (cs' := cellsOf [Seg.cell ((pt G23 1)), Seg.cell ((pt G23 2)), Seg.cell (.pointer none), Seg.cell (.pointer none), Seg.cell (.pointer none)]) rfl rfl (len_cellsOf _) (Spl.segs [Seg.cell ((pt G23 1)), Seg.cell (.pointer none), Seg.cell (.pointer none), Seg.cell (.pointer none), Seg.cell (.pointer none)] 1 1 [Seg.cell ((pt G23 2))] rfl rfl) (fl_cons (xs := cellsOf [Seg.cell ((pt G23 3))]) (cs' := cellsOf [Seg.cell ((pt G23 1)), Seg.cell ((pt G23 2)), Seg.cell ((pt G23 3)), Seg.cell (.pointer none), Seg.cell (.pointer none)]) rfl rfl (len_cellsOf _) (Spl.segs [Seg.cell ((pt G23 1)), Seg.cell ((pt G23 2)), Seg.cell (.pointer none), Seg.cell (.pointer none), Seg.cell (.pointer none)] 2 1 [Seg.cell ((pt G23 3))] rfl rfl) (fl_cons (xs := cellsOf [Seg.cell ((pt G23 5))]) (cs' := cellsOf [Seg.cell ((pt G23 1)), Seg.cell ((pt G23 2)), Seg.cell ((pt G23 3)), Seg.cell ((pt G23 5)), Seg.cell (.pointer none)]) rfl rfl (len_cellsOf _) (Spl.segs [Seg.cell ((pt G23 1)), Seg.cell ((pt G23 2)), Seg.cell ((pt G23 3)), Seg.cell (.pointer none), Seg.cell (.pointer none)] 3 1 [Seg.cell ((pt G23 5))] rfl rfl) (fl_cons (xs := cellsOf [Seg.cell ((pt G23 6))]) (cs' := cellsOf [Seg.cell ((pt G23 1)), Seg.cell ((pt G23 2)), Seg.cell ((pt G23 3)), Seg.cell ((pt G23 5)), Seg.cell ((pt G23 6))]) rfl rfl (len_cellsOf _) (Spl.segs [Seg.cell ((pt G23 1)), Seg.cell ((pt G23 2)), Seg.cell ((pt G23 3)), Seg.cell ((pt G23 5)), Seg.cell (.pointer none)] 4 1 [Seg.cell ((pt G23 6))] rfl rfl) fl_nil)))))) rfl rfl rfl ?_
 refine ol_val (v := .int .i64 0) (xr_move rfl rfl) rfl rfl rfl ?_
 refine ol_nil ?_
 refine cw_block ?_
 refine cw_rounds ?_
 refine lp_round ?_
 refine cw_seq ?_
 refine cw_region ?_
 refine ol_val (v := .bool true) (xr_lss (k := .i64) (a := 0) (b := 5) rfl rfl rfl) rfl rfl rfl ?_
 refine ol_nil ?_
 refine cw_seq ?_
 refine cw_condT rfl rfl ?_
 refine cw_skip ?_
 refine cw_seq ?_
 refine cw_block ?_
 refine cw_seq ?_
 refine cw_region ?_
 refine ol_val (v := (pt G23 1)) (xr_indexSeg (i := 0) (ss := [Seg.cell ((pt G23 1)), Seg.cell ((pt G23 2)), Seg.cell ((pt G23 3)), Seg.cell ((pt G23 5)), Seg.cell ((pt G23 6))]) (v := (pt G23 1)) rfl Try.underlying184 ag183 sz183 rfl rfl rfl rfl) rfl rfl rfl ?_
 refine ol_val (v := (pt G23 1)) (xr_assign rfl rfl) rfl rfl rfl ?_
 refine ol_nil ?_
 refine cw_region ?_
 refine ol_val (v := (pt G23 1)) (xr_move rfl rfl) rfl rfl rfl ?_
 obtain ⟨t54, k55, h⟩ := bs h
 have a61 := (n46 _ a48)
 have a62 := (n46 _ a49)
 have a63 := (n46 _ a50)
 refine ol_op (opv_call rfl cal131 (ac rfl (ac rfl an)) (super_reader_next.ok fu _ t41.2 G30 u44 r45 (n46 _ a50) b31 4 _ k55)) rfl rfl rfl ?_
 rintro _ w64 ⟨u57, r58, n59, n60, rfl, b31, q56⟩
 have b5 := b5.wr q56 n36
 have b24 := b24.wr q56 n37
 have fB := fB.wr q56 z33
 refine ol_val (v := (pt G23 1)) (xr_nilCheck rfl rfl) rfl rfl rfl ?_
 refine ol_op0 (opv_store (ss' := [(sI t41.1), (sI t54.1), (sI (0 : Int)), (sI (0 : Int)), (sI (0 : Int)), (sI (0 : Int)), (sI (0 : Int)), (sI (0 : Int)), Seg.cell (.slice none 0 0) (by rfl)]) (xs := cellsOf [(sI t54.1)]) rfl sz3 rfl rfl rfl (len_cellsOf _) (one_cellsOf _) b24 (Spl.segs _ 1 1 [(sI t54.1)] rfl rfl)) rfl rfl ?_
 rintro _ w66 ⟨b24, q65⟩
 have b5 := b5.wr q65 n29
 have b31 := b31.wr q65 n37.symm
 have r58 := r58.wr q65 (n59 _ a62)
 have fB := fB.wr q65 z26
 refine ol_nil ?_
 refine blk_i ?_
 refine cw_region ?_
 refine ol_val (v := .int .i64 1) (xr_add (k := .i64) (a := 0) (b := 1) rfl rfl rfl) rfl rfl rfl ?_
 refine ol_val (v := .int .i64 1) (xr_move rfl rfl) rfl rfl rfl ?_
 refine ol_nil ?_
 refine thn_i ?_
 refine lp_round ?_
 refine cw_seq ?_
 refine cw_region ?_
 refine ol_val (v := .bool true) (xr_lss (k := .i64) (a := 1) (b := 5) rfl rfl rfl) rfl rfl rfl ?_
 refine ol_nil ?_
 refine cw_seq ?_
 refine cw_condT rfl rfl ?_
 refine cw_skip ?_
 refine cw_seq ?_
 refine cw_block ?_
 refine cw_seq ?_
 refine cw_region ?_
 refine ol_val (v := (pt G23 2)) (xr_indexSeg (i := 1) (ss := [Seg.cell ((pt G23 1)), Seg.cell ((pt G23 2)), Seg.cell ((pt G23 3)), Seg.cell ((pt G23 5)), Seg.cell ((pt G23 6))]) (v := (pt G23 2)) rfl Try.underlying184 ag183 sz183 rfl rfl rfl rfl) rfl rfl rfl ?_
 refine ol_val (v := (pt G23 2)) (xr_assign rfl rfl) rfl rfl rfl ?_
 refine ol_nil ?_
 refine cw_region ?_
 refine ol_val (v := (pt G23 2)) (xr_move rfl rfl) rfl rfl rfl ?_
 obtain ⟨t67, k68, h⟩ := bs h
 have a74 := (n59 _ a61)
 have a75 := (n59 _ a62)
 have a76 := (n59 _ a63)
 refine ol_op (opv_call rfl cal131 (ac rfl (ac rfl an)) (super_reader_next.ok fu _ t54.2 G30 u57 r58 (n59 _ a63) b31 4 _ k68)) rfl rfl rfl ?_
 rintro _ w77 ⟨u70, r71, n72, n73, rfl, b31, q69⟩
 have b5 := b5.wr q69 n36
 have b24 := b24.wr q69 n37
 have fB := fB.wr q69 z33
 refine ol_val (v := (pt G23 2)) (xr_nilCheck rfl rfl) rfl rfl rfl ?_
 refine ol_op0 (opv_store (ss' := [(sI t41.1), (sI t54.1), (sI t67.1), (sI (0 : Int)), (sI (0 : Int)), (sI (0 : Int)), (sI (0 : Int)), (sI (0 : Int)), Seg.cell (.slice none 0 0) (by rfl)]) (xs := cellsOf [(sI t67.1)]) rfl sz3 rfl rfl rfl (len_cellsOf _) (one_cellsOf _) b24 (Spl.segs _ 2 1 [(sI t67.1)] rfl rfl)) rfl rfl ?_
 rintro _ w79 ⟨b24, q78⟩
 have b5 := b5.wr q78 n29
 have b31 := b31.wr q78 n37.symm
 have r71 := r71.wr q78 (n72 _ a75)
 have fB := fB.wr q78 z26
 refine ol_nil ?_
 refine blk_i ?_
 refine cw_region ?_
 refine ol_val (v := .int .i64 2) (xr_add (k := .i64) (a := 1) (b := 1) rfl rfl rfl) rfl rfl rfl ?_
 refine ol_val (v := .int .i64 2) (xr_move rfl rfl) rfl rfl rfl ?_
 refine ol_nil ?_
 refine thn_i ?_
 refine lp_round ?_
 refine cw_seq ?_
 refine cw_region ?_
 refine ol_val (v := .bool true) (xr_lss (k := .i64) (a := 2) (b := 5) rfl rfl rfl) rfl rfl rfl ?_
 refine ol_nil ?_
 refine cw_seq ?_
 refine cw_condT rfl rfl ?_
 refine cw_skip ?_
 refine cw_seq ?_
 refine cw_block ?_
 refine cw_seq ?_
 refine cw_region ?_
 refine ol_val (v := (pt G23 3)) (xr_indexSeg (i := 2) (ss := [Seg.cell ((pt G23 1)), Seg.cell ((pt G23 2)), Seg.cell ((pt G23 3)), Seg.cell ((pt G23 5)), Seg.cell ((pt G23 6))]) (v := (pt G23 3)) rfl Try.underlying184 ag183 sz183 rfl rfl rfl rfl) rfl rfl rfl ?_
 refine ol_val (v := (pt G23 3)) (xr_assign rfl rfl) rfl rfl rfl ?_
 refine ol_nil ?_
 refine cw_region ?_
 refine ol_val (v := (pt G23 3)) (xr_move rfl rfl) rfl rfl rfl ?_
 obtain ⟨t80, k81, h⟩ := bs h
 have a87 := (n72 _ a74)
 have a88 := (n72 _ a75)
 have a89 := (n72 _ a76)
 refine ol_op (opv_call rfl cal131 (ac rfl (ac rfl an)) (super_reader_next.ok fu _ t67.2 G30 u70 r71 (n72 _ a76) b31 4 _ k81)) rfl rfl rfl ?_
 rintro _ w90 ⟨u83, r84, n85, n86, rfl, b31, q82⟩
 have b5 := b5.wr q82 n36
 have b24 := b24.wr q82 n37
 have fB := fB.wr q82 z33
 refine ol_val (v := (pt G23 3)) (xr_nilCheck rfl rfl) rfl rfl rfl ?_
 refine ol_op0 (opv_store (ss' := [(sI t41.1), (sI t54.1), (sI t67.1), (sI t80.1), (sI (0 : Int)), (sI (0 : Int)), (sI (0 : Int)), (sI (0 : Int)), Seg.cell (.slice none 0 0) (by rfl)]) (xs := cellsOf [(sI t80.1)]) rfl sz3 rfl rfl rfl (len_cellsOf _) (one_cellsOf _) b24 (Spl.segs _ 3 1 [(sI t80.1)] rfl rfl)) rfl rfl ?_
 rintro _ w92 ⟨b24, q91⟩
 have b5 := b5.wr q91 n29
 have b31 := b31.wr q91 n37.symm
 have r84 := r84.wr q91 (n85 _ a88)
 have fB := fB.wr q91 z26
 refine ol_nil ?_
 refine blk_i ?_
 refine cw_region ?_
 refine ol_val (v := .int .i64 3) (xr_add (k := .i64) (a := 2) (b := 1) rfl rfl rfl) rfl rfl rfl ?_
 refine ol_val (v := .int .i64 3) (xr_move rfl rfl) rfl rfl rfl ?_
 refine ol_nil ?_
 refine thn_i ?_
 refine lp_round ?_
 refine cw_seq ?_
 refine cw_region ?_
 refine ol_val (v := .bool true) (xr_lss (k := .i64) (a := 3) (b := 5) rfl rfl rfl) rfl rfl rfl ?_
 refine ol_nil ?_
 refine cw_seq ?_
 refine cw_condT rfl rfl ?_
 refine cw_skip ?_
 refine cw_seq ?_
 refine cw_block ?_
 refine cw_seq ?_
 refine cw_region ?_
 refine ol_val (v := (pt G23 5)) (xr_indexSeg (i := 3) (ss := [Seg.cell ((pt G23 1)), Seg.cell ((pt G23 2)), Seg.cell ((pt G23 3)), Seg.cell ((pt G23 5)), Seg.cell ((pt G23 6))]) (v := (pt G23 5)) rfl Try.underlying184 ag183 sz183 rfl rfl rfl rfl) rfl rfl rfl ?_
 refine ol_val (v := (pt G23 5)) (xr_assign rfl rfl) rfl rfl rfl ?_
 refine ol_nil ?_
 refine cw_region ?_
 refine ol_val (v := (pt G23 5)) (xr_move rfl rfl) rfl rfl rfl ?_
 obtain ⟨t93, k94, h⟩ := bs h
 have a100 := (n85 _ a87)
 have a101 := (n85 _ a88)
 have a102 := (n85 _ a89)
 refine ol_op (opv_call rfl cal131 (ac rfl (ac rfl an)) (super_reader_next.ok fu _ t80.2 G30 u83 r84 (n85 _ a89) b31 4 _ k94)) rfl rfl rfl ?_
 rintro _ w103 ⟨u96, r97, n98, n99, rfl, b31, q95⟩
 have b5 := b5.wr q95 n36
 have b24 := b24.wr q95 n37
 have fB := fB.wr q95 z33
 refine ol_val (v := (pt G23 5)) (xr_nilCheck rfl rfl) rfl rfl rfl ?_
 refine ol_op0 (opv_store (ss' := [(sI t41.1), (sI t54.1), (sI t67.1), (sI t80.1), (sI (0 : Int)), (sI t93.1), (sI (0 : Int)), (sI (0 : Int)), Seg.cell (.slice none 0 0) (by rfl)]) (xs := cellsOf [(sI t93.1)]) rfl sz3 rfl rfl rfl (len_cellsOf _) (one_cellsOf _) b24 (Spl.segs _ 5 1 [(sI t93.1)] rfl rfl)) rfl rfl ?_
 rintro _ w105 ⟨b24, q104⟩
 have b5 := b5.wr q104 n29
 have b31 := b31.wr q104 n37.symm
 have r97 := r97.wr q104 (n98 _ a101)
 have fB := fB.wr q104 z26
 refine ol_nil ?_
 refine blk_i ?_
 refine cw_region ?_
 refine ol_val (v := .int .i64 4) (xr_add (k := .i64) (a := 3) (b := 1) rfl rfl rfl) rfl rfl rfl ?_
 refine ol_val (v := .int .i64 4) (xr_move rfl rfl) rfl rfl rfl ?_
 refine ol_nil ?_
 refine thn_i ?_
 refine lp_round ?_
 refine cw_seq ?_
 refine cw_region ?_
 refine ol_val (v := .bool true) (xr_lss (k := .i64) (a := 4) (b := 5) rfl rfl rfl) rfl rfl rfl ?_
 refine ol_nil ?_
 refine cw_seq ?_
 refine cw_condT rfl rfl ?_
 refine cw_skip ?_
 refine cw_seq ?_
 refine cw_block ?_
 refine cw_seq ?_
 refine cw_region ?_
 refine ol_val (v := (pt G23 6)) (xr_indexSeg (i := 4) (ss := [Seg.cell ((pt G23 1)), Seg.cell ((pt G23 2)), Seg.cell ((pt G23 3)), Seg.cell ((pt G23 5)), Seg.cell ((pt G23 6))]) (v := (pt G23 6)) rfl Try.underlying184 ag183 sz183 rfl rfl rfl rfl) rfl rfl rfl ?_
 refine ol_val (v := (pt G23 6)) (xr_assign rfl rfl) rfl rfl rfl ?_
 refine ol_nil ?_
 refine cw_region ?_
 refine ol_val (v := (pt G23 6)) (xr_move rfl rfl) rfl rfl rfl ?_
 obtain ⟨t106, k107, h⟩ := bs h
 have a113 := (n98 _ a100)
 have a114 := (n98 _ a101)
 have a115 := (n98 _ a102)
 refine ol_op (opv_call rfl cal131 (ac rfl (ac rfl an)) (super_reader_next.ok fu _ t93.2 G30 u96 r97 (n98 _ a102) b31 4 _ k107)) rfl rfl rfl ?_
 rintro _ w116 ⟨u109, r110, n111, n112, rfl, b31, q108⟩
 have b5 := b5.wr q108 n36
 have b24 := b24.wr q108 n37
 have fB := fB.wr q108 z33
 refine ol_val (v := (pt G23 6)) (xr_nilCheck rfl rfl) rfl rfl rfl ?_
 refine ol_op0 (opv_store (ss' := [(sI t41.1), (sI t54.1), (sI t67.1), (sI t80.1), (sI (0 : Int)), (sI t93.1), (sI t106.1), (sI (0 : Int)), Seg.cell (.slice none 0 0) (by rfl)]) (xs := cellsOf [(sI t106.1)]) rfl sz3 rfl rfl rfl (len_cellsOf _) (one_cellsOf _) b24 (Spl.segs _ 6 1 [(sI t106.1)] rfl rfl)) rfl rfl ?_
 rintro _ w118 ⟨b24, q117⟩
 have b5 := b5.wr q117 n29
 have b31 := b31.wr q117 n37.symm
 have r110 := r110.wr q117 (n111 _ a114)
 have fB := fB.wr q117 z26
 refine ol_nil ?_
 refine blk_i ?_
 refine cw_region ?_
 refine ol_val (v := .int .i64 5) (xr_add (k := .i64) (a := 4) (b := 1) rfl rfl rfl) rfl rfl rfl ?_
 refine ol_val (v := .int .i64 5) (xr_move rfl rfl) rfl rfl rfl ?_
 refine ol_nil ?_
 refine thn_i ?_
 refine lp_round ?_
 refine cw_seq ?_
 refine cw_region ?_
 refine ol_val (v := .bool false) (xr_lss (k := .i64) (a := 5) (b := 5) rfl rfl rfl) rfl rfl rfl ?_
 refine ol_nil ?_
 refine cw_seq ?_
 refine cw_condF rfl rfl ?_
 refine cw_exit ?_
 repeat (first | with_reducible refine thn_e ?_ | with_reducible refine blk_e rfl ?_)
 refine blk_h ?_
 refine cw_seq ?_
 refine cw_region ?_
 obtain ⟨t119, k120, h⟩ := bs h
 have a126 := (n111 _ a113)
 have a127 := (n111 _ a114)
 have a128 := (n111 _ a115)
 refine ol_op (opv_call rfl cal131 (ac rfl (ac rfl an)) (super_reader_next.ok fu _ t106.2 G30 u109 r110 (n111 _ a115) b31 2 _ k120)) rfl rfl rfl ?_
 rintro _ w129 ⟨u122, r123, n124, n125, rfl, b31, q121⟩
 have b5 := b5.wr q121 n36
 have b24 := b24.wr q121 n37
 have fB := fB.wr q121 z33
 obtain ⟨t130, k131, h⟩ := bs h
 have a137 := (n124 _ a126)
 have a138 := (n124 _ a127)
 have a139 := (n124 _ a128)
 refine ol_op (opv_call rfl cal131 (ac rfl (ac rfl an)) (super_reader_next.ok fu _ t119.2 G30 u122 r123 (n124 _ a128) b31 2 _ k131)) rfl rfl rfl ?_
 rintro _ w140 ⟨u133, r134, n135, n136, rfl, b31, q132⟩
 have b5 := b5.wr q132 n36
 have b24 := b24.wr q132 n37
 have fB := fB.wr q132 z33
 refine ol_val (v := (pt G23 1)) (xr_fieldAddr (p := 0) (q := 1) rfl fl110_1 rfl) rfl rfl rfl ?_
 refine ol_val (v := (pt G23 4)) (xr_fieldAddr (p := 1) (q := 3) rfl fl108_1 rfl) rfl rfl rfl ?_
 refine ol_op0 (opv_store (ss' := [(sI t41.1), (sI t54.1), (sI t67.1), (sI t80.1), (sI t119.1), (sI t93.1), (sI t106.1), (sI (0 : Int)), Seg.cell (.slice none 0 0) (by rfl)]) (xs := cellsOf [(sI t119.1)]) rfl sz3 rfl rfl rfl (len_cellsOf _) (one_cellsOf _) b24 (Spl.segs _ 4 1 [(sI t119.1)] rfl rfl)) rfl rfl ?_
 rintro _ w142 ⟨b24, q141⟩
 have b5 := b5.wr q141 n29
 have b31 := b31.wr q141 n37.symm
 have r134 := r134.wr q141 (n135 _ a138)
 have fB := fB.wr q141 z26
 refine ol_val (v := (pt G23 7)) (xr_fieldAddr (p := 0) (q := 7) rfl fl110_2 rfl) rfl rfl rfl ?_
 refine ol_op0 (opv_store (ss' := [(sI t41.1), (sI t54.1), (sI t67.1), (sI t80.1), (sI t119.1), (sI t93.1), (sI t106.1), (sI t130.1), Seg.cell (.slice none 0 0) (by rfl)]) (xs := cellsOf [(sI t130.1)]) rfl sz3 rfl rfl rfl (len_cellsOf _) (one_cellsOf _) b24 (Spl.segs _ 7 1 [(sI t130.1)] rfl rfl)) rfl rfl ?_
 rintro _ w144 ⟨b24, q143⟩
 have b5 := b5.wr q143 n29
 have b31 := b31.wr q143 n37.symm
 have r134 := r134.wr q143 (n135 _ a138)
 have fB := fB.wr q143 z26
 refine ol_nil ?_
 refine cw_seq ?_
 refine cw_seq ?_
 refine cw_region ?_
 refine ol_val (v := .int .i64 t10.2.1) (xr_move rfl e5) rfl rfl rfl ?_
 refine ol_val (v := .int .i64 0) (xr_move rfl rfl) rfl rfl rfl ?_
 refine ol_nil ?_
 obtain ⟨e146, l147, h148⟩ := bs h
 refine cw_mid (fun ρ' w' => ∃ v149 : Value, ∃ v152 : Value, ∃ o150 : Own (kI .i64) 3 w' w.heap.size v149 e146.1, ∃ r153 : Rd (kI .u8) w' v152 e146.2, OffR v152 e146.2 G4 ∧ OffR v152 e146.2 G23 ∧ OffR v152 e146.2 G30 ∧ OffRV v152 e146.2 v149 ∧ ρ' 2 = (pt G4 0) ∧ ρ' 8 = (pt G23 0) ∧ ρ' 9 = (pt G30 0) ∧ Blk w' G4 110 [(sI (0 : Int)), (sI (0 : Int)), (sI (0 : Int)), (sI (0 : Int)), (sI (0 : Int)), (sI (0 : Int)), (sI (0 : Int)), (sI (0 : Int)), Seg.cell (.slice none 0 0) (by rfl)] ∧ Blk w' G23 110 [(sI t41.1), (sI t54.1), (sI t67.1), (sI t80.1), (sI t119.1), (sI t93.1), (sI t106.1), (sI t130.1), Seg.cell v149 o150.one] ∧ Blk w' G30 182 [Seg.cell v152 r153.one] ∧ Gr w w') ?_ ?_
 ·refine cw_block ?_
  refine cw_round (fun (s145 : Int × (List Int) × (List Int)) ρ' w' => ∃ v158 : Value, ∃ v161 : Value, ∃ o159 : Own (kI .i64) 3 w' w.heap.size v158 s145.2.1, ∃ r162 : Rd (kI .u8) w' v161 s145.2.2, OffR v161 s145.2.2 G4 ∧ OffR v161 s145.2.2 G23 ∧ OffR v161 s145.2.2 G30 ∧ OffRV v161 s145.2.2 v158 ∧ ρ' 2 = (pt G4 0) ∧ ρ' 8 = (pt G23 0) ∧ ρ' 9 = (pt G30 0) ∧ ρ' 60 = .int .i64 t10.2.1 ∧ ρ' 61 = .int .i64 s145.1 ∧ Blk w' G4 110 [(sI (0 : Int)), (sI (0 : Int)), (sI (0 : Int)), (sI (0 : Int)), (sI (0 : Int)), (sI (0 : Int)), (sI (0 : Int)), (sI (0 : Int)), Seg.cell (.slice none 0 0) (by rfl)] ∧ Blk w' G23 110 [(sI t41.1), (sI t54.1), (sI t67.1), (sI t80.1), (sI t119.1), (sI t93.1), (sI t106.1), (sI t130.1), Seg.cell v158 o159.one] ∧ Blk w' G30 182 [Seg.cell v161 r162.one] ∧ Gr w w') l147 ?_ ?_
  ·skip
   exact ⟨(.slice none 0 0), u133, Own.nil _ _ _ _, r134, (n135 _ a137), (n135 _ a138), (n135 _ a139), (OffRV.nil _ _), e2, rfl, rfl, rfl, rfl, b5, b24, b31, fB⟩
  rintro s145 x169 ρ167 w168 ⟨v158, v161, o159, r162, a163, a164, a165, a166, e2, e8, e9, e60, e61, b5, b24, b31, fB⟩ h
  unfold super_Get.s0 at h
  refine cw_seq ?_
  refine cw_region ?_
  refine ol_val (v := .bool (decide (s145.1 < t10.2.1))) (xr_lss rfl e61 e60) rfl rfl rfl ?_
  refine ol_nil ?_
  refine cw_seq ?_
  rcases is h with ⟨c170, h⟩ | ⟨c170, h⟩
  ·refine cw_condT rfl c170 ?_
   refine cw_skip ?_
   refine cw_seq ?_
   refine cw_block ?_
   obtain ⟨t171, k172, h⟩ := bs h
   refine cw_drawW 4 2 (fun j => j = G30) [fun vz wz => vz = ((pt G23 8) : Value), fun vz wz => vz = (v158 : Value), fun vz wz => ∃ u174 : Value, ∃ r175 : Rd (kI .u8) wz u174 t171.2.rest, ∃ n176 : ∀ g, OffR v161 s145.2.2 g → OffR u174 t171.2.rest g, ∃ n177 : ∀ g, OffRV v161 s145.2.2 g → OffRV u174 t171.2.rest g, ∃ b178 : Blk wz G30 182 [Seg.cell u174 r175.one], vz = (.int .i64 t171.1 : Value), fun vz wz => ∃ v179 : Value, ∃ o181 : Own (kI .i64) 3 wz w.heap.size v179 [t171.1], vz = (v179 : Value)] mo rfl ⟨fun _ _ _ h _ => h, fun _ _ _ h _ => h, fun _ _ _ ⟨u174, r175, n176, n177, b178, h⟩ q => ⟨u174, r175.gr q, n176, n177, b178.gr q, h⟩, fun _ _ _ ⟨v179, o181, h⟩ q => ⟨v179, o181.gr q, h⟩, trivial⟩ ⟨.inr fun _ _ _ h _ => h, .inr fun _ _ _ h _ => h, .inl rfl, .inl rfl, trivial⟩ ?_ ?_
   ·refine ⟨?_, ?_, ?_, ?_, trivial⟩
    ·intro ρz wz hz0 hz1 hk hd
     have hz := hz1 rfl
     refine sk_other rfl ?_
     exact sk_val (v := (pt G23 8)) (xr_fieldAddr (p := 0) (q := 8) rfl fl110_3 ((hk 8 rfl).trans e8)) rfl rfl
    ·intro ρz wz hz0 hz1 hk hd
     have hz := hz1 rfl
     refine sk_other rfl ?_
     exact sk_val (v := v158) (xr_load1 (v := v158) rfl ag25 (hd 0 rfl 63 rfl) ((b24.wr hz n37).seg 8 rfl rfl)) rfl rfl
    ·intro ρz wz hz0 hz1 hk hd
     have hz := hz0 rfl
     refine sk_writer rfl (opv_call rfl cal131 (ac ((hk 9 rfl).trans e9) (ac rfl an)) (super_reader_next.ok fu _ (⟨s145.2.2⟩ : S_super_reader) G30 v161 (r162.gr hz) a165 (b31.gr hz) 2 _ k172)) rfl ?_
     rintro _ wy ⟨u174, r175, n176, n177, rfl, b31, q173⟩
     exact ⟨⟨u174, r175, n176, n177, b31, rfl⟩, q173⟩
    intro ρz wz hz0 hz1 hk hd
    have hz := hz1 rfl
    obtain ⟨u174, r175, n176, n177, b178, d65⟩ := hd 2 rfl 65 rfl
    refine sk_other rfl ?_
    refine sk_op (opv_buildSlice (K := (kI .i64)) (xs := [t171.1]) (vals := [.int .i64 t171.1]) rfl Try.underlying25 el3 rfl rfl ⟨rfl, d65, trivial⟩ rfl rfl rfl (Nat.le_trans fB.size hz.size)) rfl ?_
    rintro v179 wy ⟨o181, q180, z182⟩
    exact ⟨⟨v179, o181, rfl⟩, q180⟩
   intro ρ184 w185 q186 hk hd
   have e2 := (hk 2 rfl).trans e2
   have e8 := (hk 8 rfl).trans e8
   have e9 := (hk 9 rfl).trans e9
   have e60 := (hk 60 rfl).trans e60
   have e61 := (hk 61 rfl).trans e61
   have e64 := hd 1 rfl 64 rfl
   obtain ⟨u187, r188, n189, n190, b191, e65⟩ := hd 2 rfl 65 rfl
   obtain ⟨v192, o193, e66⟩ := hd 3 rfl 66 rfl
   have f194 := off_ty b31 o159 (by decide)
   have b5 := b5.wr q186 n36
   have b24 := b24.wr q186 n37
   have o159 := o159.wr q186 f194
   have r162 := r162.wr q186 a165
   have fB := fB.wr q186 z33
   obtain ⟨g200, h⟩ := gs h
   have f202 := off_ty b5 o159 (by decide)
   have f203 := off_ty b24 o159 (by decide)
   have f204 := off_ty b191 o159 (by decide)
   have f205 := o159.geO
   refine ol_op (opv_append (K := (kI .i64)) rfl Try.underlying25 el3 rfl rfl rfl e64 e66 o159 o193.rd g200 fB.size) rfl rfl rfl ?_
   rintro v196 w206 ⟨o197, q198, n199⟩
   have a207 := OffRV.app r188 (n190 _ a166) n199 rfl
   have b5 := b5.wrO q198 f202
   have b24 := b24.wrO q198 f203
   have b191 := b191.wrO q198 f204
   have fB := fB.wrO q198 f205
   have r188 := r188.wrV q198 (n190 _ a166)
   refine ol_val (v := (pt G23 8)) (xr_fieldAddr (p := 0) (q := 8) rfl fl110_3 e8) rfl rfl rfl ?_
   have f209 := off_ty b24 o197 (by decide)
   refine ol_op0 (opv_store (ss' := [(sI t41.1), (sI t54.1), (sI t67.1), (sI t80.1), (sI t119.1), (sI t93.1), (sI t106.1), (sI t130.1), Seg.cell v196 o197.one]) (xs := cellsOf [Seg.cell v196 o197.one]) rfl sz25 rfl rfl (cells_one o197.one) (len_cellsOf _) (one_cellsOf _) b24 (Spl.segs _ 8 1 [Seg.cell v196 o197.one] rfl rfl)) rfl rfl ?_
   rintro _ w210 ⟨b24, q208⟩
   have b5 := b5.wr q208 n29
   have b191 := b191.wr q208 n37.symm
   have o197 := o197.wr q208 f209
   have r188 := r188.wr q208 (n189 _ a164)
   have fB := fB.wr q208 z26
   refine ol_nil ?_
   refine blk_i ?_
   refine cw_region ?_
   refine ol_val (v := .int .i64 (IntKind.i64.wrap (s145.1 + 1))) (xr_add rfl e61 rfl) rfl rfl rfl ?_
   refine ol_val (v := .int .i64 (IntKind.i64.wrap (s145.1 + 1))) (xr_move rfl rfl) rfl rfl rfl ?_
   refine ol_nil ?_
   obtain rfl := Option.some.inj h
   refine lp_in ?_
   exact ⟨v196, u187, o197, r188, (n189 _ a163), (n189 _ a164), (n189 _ a165), a207, e2, e8, e9, e60, rfl, b5, b24, b191, fB⟩
  refine cw_condF rfl c170 ?_
  refine cw_exit ?_
  repeat (first | with_reducible refine thn_e ?_ | with_reducible refine blk_e rfl ?_)
  obtain rfl := Option.some.inj h
  refine lp_exit ?_
  rintro rfl
  refine thn_x ?_
  exact ⟨v158, v161, o159, r162, a163, a164, a165, a166, e2, e8, e9, b5, b24, b31, fB⟩
 rintro ρ211 w212 ⟨v149, v152, o150, r153, a154, a155, a156, a157, e2, e8, e9, b5, b24, b31, fB⟩
 have h := h148
 refine cw_seq ?_
 refine cw_seq ?_
 obtain ⟨x213, j214, h⟩ := bs h
 refine cw_mid (fun ρ' w' => ρ' 2 = (pt G4 0) ∧ ρ' 8 = (pt G23 0) ∧ ρ' 81 = .bool x213 ∧ Gr w212 w') ?_ ?_
 ·skip
  refine cw_region ?_
  refine ol_val (v := aggV [(sI t41.1), (sI t54.1), (sI t67.1), (sI t80.1), (sI t119.1), (sI t93.1), (sI t106.1), (sI t130.1), Seg.cell v149 o150.one]) (xr_loadS (ss := [(sI t41.1), (sI t54.1), (sI t67.1), (sI t80.1), (sI t119.1), (sI t93.1), (sI t106.1), (sI t130.1), Seg.cell v149 o150.one]) rfl ag110 sz110 rfl e8 (b24.segs 0 9 rfl)) rfl rfl rfl ?_
  obtain ⟨t215, k216, j214⟩ := bs j214
  refine ol_op (opv_call rfl cal132 (ac rfl an) (super_Right.ok fu _ (⟨t41.1, (⟨(⟨t54.1, t67.1, t80.1⟩ : S_api_Geometry), t119.1, t93.1, t106.1⟩ : S_api_Tickets), t130.1, e146.1⟩ : S_api_Super) v149 (o150.rd) _ k216)) rfl rfl rfl ?_
  rintro _ w218 ⟨rfl, q217⟩
  have b5 := b5.gr q217
  have b24 := b24.gr q217
  have b31 := b31.gr q217
  have o150 := o150.gr q217
  have r153 := r153.gr q217
  have fB := fB.gr q217
  refine ol_val (v := .bool (!t215)) (xr_not rfl rfl) rfl rfl rfl ?_
  refine ol_val (v := .bool (!t215)) (xr_move rfl rfl) rfl rfl rfl ?_
  rcases is j214 with ⟨c219, j214⟩ | ⟨c219, j214⟩
  ·skip
   refine ol_gskip rfl rfl rfl rfl rfl c219 ?_
   refine ol_gskip rfl rfl rfl rfl rfl c219 ?_
   refine ol_gskip rfl rfl rfl rfl rfl c219 ?_
   refine ol_gskip rfl rfl rfl rfl rfl c219 ?_
   refine ol_gskip rfl rfl rfl rfl rfl c219 ?_
   refine ol_gskip rfl rfl rfl rfl rfl c219 ?_
   refine ol_gskip rfl rfl rfl rfl rfl c219 ?_
   refine ol_val (v := .bool true) (xr_pickT rfl rfl c219 rfl) rfl rfl rfl ?_
   refine ol_nil ?_
   obtain rfl := Option.some.inj j214
   refine thn_i ?_
   exact ⟨e2, e8, rfl, q217⟩
  refine ol_gval (v := (pt G30 0)) (xr_fieldAddr (p := 0) (q := 0) rfl fl182_0 e9) rfl rfl rfl rfl rfl c219 ?_
  refine ol_gval (v := v152) (xr_load1 (v := v152) rfl ag43 rfl (b31.seg 0 rfl rfl)) rfl rfl rfl rfl rfl c219 ?_
  refine ol_gval (v := (pt G30 0)) (xr_fieldAddr (p := 0) (q := 0) rfl fl182_0 e9) rfl rfl rfl rfl rfl c219 ?_
  refine ol_gval (v := v152) (xr_load1 (v := v152) rfl ag43 rfl (b31.seg 0 rfl rfl)) rfl rfl rfl rfl rfl c219 ?_
  refine ol_gval (v := .int .i64 (List.length e146.2 : Int)) (xr_lenR rfl Try.underlying43 rfl r153) rfl rfl rfl rfl rfl c219 ?_
  obtain ⟨t220, k221, j214⟩ := bs j214
  refine ol_gop (opv_call rfl cal133 (ac rfl (ac rfl (ac rfl an))) (octet_Noughts.ok fu _ e146.2 v152 (r153) 0 (List.length e146.2 : Int) _ k221)) rfl rfl rfl rfl rfl c219 ?_
  rintro _ w223 ⟨rfl, q222⟩
  have b5 := b5.gr q222
  have b24 := b24.gr q222
  have o150 := o150.gr q222
  have fB := fB.gr q222
  refine ol_gval (v := .bool (!t220)) (xr_not rfl rfl) rfl rfl rfl rfl rfl c219 ?_
  refine ol_val (v := .bool (!t220)) (xr_pickF rfl rfl c219 rfl) rfl rfl rfl ?_
  refine ol_nil ?_
  obtain rfl := Option.some.inj j214
  refine thn_i ?_
  exact ⟨e2, e8, rfl, (q217.gr q222)⟩
 rintro ρ224 w225 ⟨e2, e8, e81, q226⟩
 have b5 := b5.gr q226
 have b24 := b24.gr q226
 have o150 := o150.gr q226
 have fB := fB.gr q226
 rcases is h with ⟨c227, h⟩ | ⟨c227, h⟩
 ·refine cw_condT e81 c227 ?_
  refine cw_seq ?_
  refine cw_region ?_
  refine ol_val (v := aggV [(sI (0 : Int)), (sI (0 : Int)), (sI (0 : Int)), (sI (0 : Int)), (sI (0 : Int)), (sI (0 : Int)), (sI (0 : Int)), (sI (0 : Int)), Seg.cell (.slice none 0 0) (by rfl)]) (xr_build (vals := []) rfl trivial (bl110_ _)) rfl rfl rfl ?_
  refine ol_op0 (opv_store (ss' := [(sI (0 : Int)), (sI (0 : Int)), (sI (0 : Int)), (sI (0 : Int)), (sI (0 : Int)), (sI (0 : Int)), (sI (0 : Int)), (sI (0 : Int)), Seg.cell (.slice none 0 0) (by rfl)]) (xs := cellsOf [(sI (0 : Int)), (sI (0 : Int)), (sI (0 : Int)), (sI (0 : Int)), (sI (0 : Int)), (sI (0 : Int)), (sI (0 : Int)), (sI (0 : Int)), Seg.cell (.slice none 0 0) (by rfl)]) rfl sz110 e2 rfl rfl (len_cellsOf _) (one_cellsOf _) b5 (Spl.segs _ 0 9 [(sI (0 : Int)), (sI (0 : Int)), (sI (0 : Int)), (sI (0 : Int)), (sI (0 : Int)), (sI (0 : Int)), (sI (0 : Int)), (sI (0 : Int)), Seg.cell (.slice none 0 0) (by rfl)] rfl rfl)) rfl rfl ?_
  rintro _ w229 ⟨b5, q228⟩
  have fB := fB.wr q228 z7
  refine ol_val (v := .bool false) (xr_assign rfl rfl) rfl rfl rfl ?_
  refine ol_nil ?_
  refine cw_ret ?_
  repeat (first | with_reducible refine thn_r ?_ | with_reducible refine blk_r ?_)
  obtain rfl := Option.some.inj h
  refine fin_cell_tmp Try.results113 e2 ag110 sz110 b5 (by rfl) rfl ?_
  exact ⟨_, rfl, (.slice none 0 0), Own.nil _ _ _ _, rfl, fB⟩
 refine cw_condF e81 c227 ?_
 refine cw_skip ?_
 refine cw_seq ?_
 refine cw_region ?_
 refine ol_val (v := aggV [(sI t41.1), (sI t54.1), (sI t67.1), (sI t80.1), (sI t119.1), (sI t93.1), (sI t106.1), (sI t130.1), Seg.cell v149 o150.one]) (xr_loadS (ss := [(sI t41.1), (sI t54.1), (sI t67.1), (sI t80.1), (sI t119.1), (sI t93.1), (sI t106.1), (sI t130.1), Seg.cell v149 o150.one]) rfl ag110 sz110 rfl e8 (b24.segs 0 9 rfl)) rfl rfl rfl ?_
 have f231 := off_ty b5 o150 (by decide)
 refine ol_op0 (opv_store (ss' := [(sI t41.1), (sI t54.1), (sI t67.1), (sI t80.1), (sI t119.1), (sI t93.1), (sI t106.1), (sI t130.1), Seg.cell v149 o150.one]) (xs := cellsOf [(sI t41.1), (sI t54.1), (sI t67.1), (sI t80.1), (sI t119.1), (sI t93.1), (sI t106.1), (sI t130.1), Seg.cell v149 o150.one]) rfl sz110 e2 rfl rfl (len_cellsOf _) (one_cellsOf _) b5 (Spl.segs _ 0 9 [(sI t41.1), (sI t54.1), (sI t67.1), (sI t80.1), (sI t119.1), (sI t93.1), (sI t106.1), (sI t130.1), Seg.cell v149 o150.one] rfl rfl)) rfl rfl ?_
 rintro _ w232 ⟨b5, q230⟩
 have o150 := o150.wr q230 f231
 have fB := fB.wr q230 z7
 refine ol_val (v := .bool true) (xr_assign rfl rfl) rfl rfl rfl ?_
 refine ol_nil ?_
 refine cw_ret ?_
 repeat (first | with_reducible refine thn_r ?_ | with_reducible refine blk_r ?_)
 obtain rfl := Option.some.inj h
 refine fin_cell_tmp Try.results113 e2 ag110 sz110 b5 (by rfl) rfl ?_
 exact ⟨_, rfl, v149, o150, rfl, fB⟩
def root_Read.f (fu : Nat) (a0 : S_pmem_Device) (a1 : Int) : Option (S_api_Super × Bool) := (if (if (decide (a1 < 0)) = true then true else (decide (a1 ≥ 2))) = true then some ((⟨(0 : Int), (⟨(⟨(0 : Int), (0 : Int), (0 : Int)⟩ : S_api_Geometry), (0 : Int), (0 : Int), (0 : Int)⟩ : S_api_Tickets), (0 : Int), []⟩ : S_api_Super), false) else ((press_Read.f fu a0 a1).bind fun t16 => (if (!decide (t16.2 = 0)) = true then some ((⟨(0 : Int), (⟨(⟨(0 : Int), (0 : Int), (0 : Int)⟩ : S_api_Geometry), (0 : Int), (0 : Int), (0 : Int)⟩ : S_api_Tickets), (0 : Int), []⟩ : S_api_Super), false) else ((super_Get.f fu t16.1).bind fun t26 => some (t26.1, t26.2)))))
theorem root_Read.ok (fu : Nat) (w : World) (a0 : S_pmem_Device) (G_0 : Nat) (V0_0 : Value) (R0_0 : Rd k_pmem_cell w V0_0 a0.cells) (V0_1 : Value) (R0_1 : Rd (kI .i64) w V0_1 a0.plan.list) (b_0 : Blk w G_0 139 [Seg.cell V0_0 R0_0.one, Seg.cell V0_1 R0_1.one, (sI a0.plan.at_), Seg.cell (.bool a0.off), Seg.cell (.bool a0.armed), (sI a0.left), (sI a0.steps)]) (a1 : Int) (r : S_api_Super × Bool) (h : root_Read.f fu a0 a1 = some r) :
  Calls Try.prog 70 (([(pt G_0 0), .int .i64 a1] : List Value).toArray) w (fun e w' => ∃ v, e = .returned v ∧ ∃ u1 : Value, ∃ o2 : Own (kI .i64) 3 w' w.heap.size u1 r.1.Charts, v = .tuple #[aggV [(sI r.1.Epoch), (sI r.1.Tickets.Geometry.Blocks), (sI r.1.Tickets.Geometry.Slots), (sI r.1.Tickets.Geometry.Gens), (sI r.1.Tickets.Top), (sI r.1.Tickets.High), (sI r.1.Tickets.Free), (sI r.1.Dir), Seg.cell u1 o2.one], .bool r.2] ∧ Gr w w') := by
 unfold root_Read.f at h
 have fB : Gr w w := Fr.refl _ _
 refine calls_cw Try.func70 rfl Try.ntmps70 rfl ?_
 refine cw_seq ?_
 refine cw_region ?_
 refine ol_op (opv_alloc (ss := [(sI (0 : Int)), (sI (0 : Int)), (sI (0 : Int)), (sI (0 : Int)), (sI (0 : Int)), (sI (0 : Int)), (sI (0 : Int)), (sI (0 : Int)), Seg.cell (.slice none 0 0) (by rfl)]) rfl ze110 rfl) rfl rfl rfl ?_
 rintro _ w9 ⟨G4, rfl, b5, q6, z7⟩
 have n10 := b_0.ne z7
 have z7 := Nat.le_trans fB.size z7
 have b_0 := b_0.gr q6
 have fB := fB.gr q6
 refine ol_val (v := .bool false) (xr_assign rfl rfl) rfl rfl rfl ?_
 refine ol_nil ?_
 refine cw_seq ?_
 refine cw_seq ?_
 refine cw_mid (fun ρ' w' => ρ' 0 = (pt G_0 0) ∧ ρ' 1 = .int .i64 a1 ∧ ρ' 4 = (pt G4 0) ∧ ρ' 13 = .bool (if (decide (a1 < 0)) = true then true else (decide (a1 ≥ 2))) ∧ w9 = w') ?_ ?_
 ·skip
  refine cw_region ?_
  refine ol_val (v := .int .i64 a1) (xr_move rfl rfl) rfl rfl rfl ?_
  refine ol_val (v := .bool (decide (a1 < 0))) (xr_lss rfl rfl rfl) rfl rfl rfl ?_
  refine ol_val (v := .bool (decide (a1 < 0))) (xr_move rfl rfl) rfl rfl rfl ?_
  rcases bt (decide (a1 < 0)) with c11 | c11
  ·skip
   refine ol_gskip rfl rfl rfl rfl rfl c11 ?_
   refine ol_gskip rfl rfl rfl rfl rfl c11 ?_
   refine ol_val (v := .bool true) (xr_pickT rfl rfl c11 rfl) rfl rfl rfl ?_
   refine ol_nil ?_
   refine thn_i ?_
   exact ⟨rfl, rfl, rfl, (rfl).trans (congrArg (fun z => (.bool z : Value)) (show true = (if (decide (a1 < 0)) = true then true else (decide (a1 ≥ 2))) from by rw [ite_t c11])), rfl⟩
  refine ol_gval (v := .int .i64 a1) (xr_move rfl rfl) rfl rfl rfl rfl rfl c11 ?_
  refine ol_gval (v := .bool (decide (a1 ≥ 2))) (xr_geq rfl rfl rfl) rfl rfl rfl rfl rfl c11 ?_
  refine ol_val (v := .bool (decide (a1 ≥ 2))) (xr_pickF rfl rfl c11 rfl) rfl rfl rfl ?_
  refine ol_nil ?_
  refine thn_i ?_
  exact ⟨rfl, rfl, rfl, (rfl).trans (congrArg (fun z => (.bool z : Value)) (show (decide (a1 ≥ 2)) = (if (decide (a1 < 0)) = true then true else (decide (a1 ≥ 2))) from by rw [ite_f c11])), rfl⟩
 rintro ρ12 _ ⟨e0, e1, e4, e13, rfl⟩
 rcases is h with ⟨c13, h⟩ | ⟨c13, h⟩
 ·refine cw_condT e13 c13 ?_
  refine cw_seq ?_
  refine cw_region ?_
  refine ol_val (v := aggV [(sI (0 : Int)), (sI (0 : Int)), (sI (0 : Int)), (sI (0 : Int)), (sI (0 : Int)), (sI (0 : Int)), (sI (0 : Int)), (sI (0 : Int)), Seg.cell (.slice none 0 0) (by rfl)]) (xr_build (vals := []) rfl trivial (bl110_ _)) rfl rfl rfl ?_
  refine ol_op0 (opv_store (ss' := [(sI (0 : Int)), (sI (0 : Int)), (sI (0 : Int)), (sI (0 : Int)), (sI (0 : Int)), (sI (0 : Int)), (sI (0 : Int)), (sI (0 : Int)), Seg.cell (.slice none 0 0) (by rfl)]) (xs := cellsOf [(sI (0 : Int)), (sI (0 : Int)), (sI (0 : Int)), (sI (0 : Int)), (sI (0 : Int)), (sI (0 : Int)), (sI (0 : Int)), (sI (0 : Int)), Seg.cell (.slice none 0 0) (by rfl)]) rfl sz110 e4 rfl rfl (len_cellsOf _) (one_cellsOf _) b5 (Spl.segs _ 0 9 [(sI (0 : Int)), (sI (0 : Int)), (sI (0 : Int)), (sI (0 : Int)), (sI (0 : Int)), (sI (0 : Int)), (sI (0 : Int)), (sI (0 : Int)), Seg.cell (.slice none 0 0) (by rfl)] rfl rfl)) rfl rfl ?_
  rintro _ w15 ⟨b5, q14⟩
  have b_0 := b_0.wr q14 n10
  have fB := fB.wr q14 z7
  refine ol_val (v := .bool false) (xr_assign rfl rfl) rfl rfl rfl ?_
  refine ol_nil ?_
  refine cw_ret ?_
  repeat (first | with_reducible refine thn_r ?_ | with_reducible refine blk_r ?_)
  obtain rfl := Option.some.inj h
  refine fin_cell_tmp Try.results70 e4 ag110 sz110 b5 (by rfl) rfl ?_
  exact ⟨_, rfl, (.slice none 0 0), Own.nil _ _ _ _, rfl, fB⟩
 refine cw_condF e13 c13 ?_
 refine cw_skip ?_
 refine cw_seq ?_
 refine cw_region ?_
 refine ol_val (v := (pt G_0 0)) (xr_move rfl e0) rfl rfl rfl ?_
 refine ol_val (v := .int .i64 a1) (xr_move rfl e1) rfl rfl rfl ?_
 obtain ⟨t16, k17, h⟩ := bs h
 refine ol_op (opv_call rfl cal55 (ac rfl (ac rfl an)) (press_Read.ok fu _ a0 G_0 V0_0 (R0_0.gr fB) V0_1 (R0_1.gr fB) b_0 a1 _ k17)) rfl rfl rfl ?_
 rintro _ w22 ⟨u18, o19, rfl, q21⟩
 have o19 := Own.base o19 fB.size
 have b_0 := b_0.gr q21
 have b5 := b5.gr q21
 have fB := fB.gr q21
 refine ol_val (v := .tuple #[u18, .int .i64 t16.2]) (xr_move rfl rfl) rfl rfl rfl ?_
 refine ol_val (v := u18) (xr_extract rfl rfl rfl) rfl rfl rfl ?_
 refine ol_val (v := .int .i64 t16.2) (xr_extract rfl rfl rfl) rfl rfl rfl ?_
 refine ol_val (v := u18) (xr_assign rfl rfl) rfl rfl rfl ?_
 refine ol_val (v := .int .i64 t16.2) (xr_assign rfl rfl) rfl rfl rfl ?_
 refine ol_nil ?_
 refine cw_seq ?_
 refine cw_seq ?_
 refine cw_region ?_
 refine ol_val (v := .int .i64 t16.2) (xr_move rfl rfl) rfl rfl rfl ?_
 refine ol_val (v := .bool (!decide (t16.2 = 0))) (xr_neI rfl Try.underlying31 rfl rfl rfl) rfl rfl rfl ?_
 refine ol_nil ?_
 rcases is h with ⟨c23, h⟩ | ⟨c23, h⟩
 ·refine cw_condT rfl c23 ?_
  refine cw_seq ?_
  refine cw_region ?_
  refine ol_val (v := aggV [(sI (0 : Int)), (sI (0 : Int)), (sI (0 : Int)), (sI (0 : Int)), (sI (0 : Int)), (sI (0 : Int)), (sI (0 : Int)), (sI (0 : Int)), Seg.cell (.slice none 0 0) (by rfl)]) (xr_build (vals := []) rfl trivial (bl110_ _)) rfl rfl rfl ?_
  refine ol_op0 (opv_store (ss' := [(sI (0 : Int)), (sI (0 : Int)), (sI (0 : Int)), (sI (0 : Int)), (sI (0 : Int)), (sI (0 : Int)), (sI (0 : Int)), (sI (0 : Int)), Seg.cell (.slice none 0 0) (by rfl)]) (xs := cellsOf [(sI (0 : Int)), (sI (0 : Int)), (sI (0 : Int)), (sI (0 : Int)), (sI (0 : Int)), (sI (0 : Int)), (sI (0 : Int)), (sI (0 : Int)), Seg.cell (.slice none 0 0) (by rfl)]) rfl sz110 e4 rfl rfl (len_cellsOf _) (one_cellsOf _) b5 (Spl.segs _ 0 9 [(sI (0 : Int)), (sI (0 : Int)), (sI (0 : Int)), (sI (0 : Int)), (sI (0 : Int)), (sI (0 : Int)), (sI (0 : Int)), (sI (0 : Int)), Seg.cell (.slice none 0 0) (by rfl)] rfl rfl)) rfl rfl ?_
  rintro _ w25 ⟨b5, q24⟩
  have b_0 := b_0.wr q24 n10
  have fB := fB.wr q24 z7
  refine ol_val (v := .bool false) (xr_assign rfl rfl) rfl rfl rfl ?_
  refine ol_nil ?_
  refine cw_ret ?_
  repeat (first | with_reducible refine thn_r ?_ | with_reducible refine blk_r ?_)
  obtain rfl := Option.some.inj h
  refine fin_cell_tmp Try.results70 e4 ag110 sz110 b5 (by rfl) rfl ?_
  exact ⟨_, rfl, (.slice none 0 0), Own.nil _ _ _ _, rfl, fB⟩
 refine cw_condF rfl c23 ?_
 refine cw_skip ?_
 refine cw_seq ?_
 refine cw_region ?_
 refine ol_val (v := u18) (xr_move rfl rfl) rfl rfl rfl ?_
 obtain ⟨t26, k27, h⟩ := bs h
 refine ol_op (opv_call rfl cal113 (ac rfl an) (super_Get.ok fu _ t16.1 u18 (o19.rd) _ k27)) rfl rfl rfl ?_
 rintro _ w32 ⟨u28, o29, rfl, q31⟩
 have o29 := Own.base o29 fB.size
 have b_0 := b_0.gr q31
 have b5 := b5.gr q31
 have fB := fB.gr q31
 refine ol_val (v := aggV [(sI t26.1.Epoch), (sI t26.1.Tickets.Geometry.Blocks), (sI t26.1.Tickets.Geometry.Slots), (sI t26.1.Tickets.Geometry.Gens), (sI t26.1.Tickets.Top), (sI t26.1.Tickets.High), (sI t26.1.Tickets.Free), (sI t26.1.Dir), Seg.cell u28 o29.one]) (xr_extract rfl rfl rfl) rfl rfl rfl ?_
 refine ol_val (v := .bool t26.2) (xr_extract rfl rfl rfl) rfl rfl rfl ?_
 have f34 := off_ty b5 o29 (by decide)
 refine ol_op0 (opv_store (ss' := [(sI t26.1.Epoch), (sI t26.1.Tickets.Geometry.Blocks), (sI t26.1.Tickets.Geometry.Slots), (sI t26.1.Tickets.Geometry.Gens), (sI t26.1.Tickets.Top), (sI t26.1.Tickets.High), (sI t26.1.Tickets.Free), (sI t26.1.Dir), Seg.cell u28 o29.one]) (xs := cellsOf [(sI t26.1.Epoch), (sI t26.1.Tickets.Geometry.Blocks), (sI t26.1.Tickets.Geometry.Slots), (sI t26.1.Tickets.Geometry.Gens), (sI t26.1.Tickets.Top), (sI t26.1.Tickets.High), (sI t26.1.Tickets.Free), (sI t26.1.Dir), Seg.cell u28 o29.one]) rfl sz110 e4 rfl rfl (len_cellsOf _) (one_cellsOf _) b5 (Spl.segs _ 0 9 [(sI t26.1.Epoch), (sI t26.1.Tickets.Geometry.Blocks), (sI t26.1.Tickets.Geometry.Slots), (sI t26.1.Tickets.Geometry.Gens), (sI t26.1.Tickets.Top), (sI t26.1.Tickets.High), (sI t26.1.Tickets.Free), (sI t26.1.Dir), Seg.cell u28 o29.one] rfl rfl)) rfl rfl ?_
 rintro _ w35 ⟨b5, q33⟩
 have b_0 := b_0.wr q33 n10
 have o29 := o29.wr q33 f34
 have fB := fB.wr q33 z7
 refine ol_val (v := .bool t26.2) (xr_assign rfl rfl) rfl rfl rfl ?_
 refine ol_nil ?_
 refine cw_ret ?_
 repeat (first | with_reducible refine thn_r ?_ | with_reducible refine blk_r ?_)
 obtain rfl := Option.some.inj h
 refine fin_cell_tmp Try.results70 e4 ag110 sz110 b5 (by rfl) rfl ?_
 exact ⟨_, rfl, u28, o29, rfl, fB⟩
def root_Pick.s0 (fu : Nat) (a0 : S_pmem_Device) : (Int × Bool × Int × Int × S_api_Tickets × Int × (List Int)) → Option (Sum (Int × Bool × Int × S_api_Tickets × Int × (List Int)) (Int × Bool × Int × Int × S_api_Tickets × Int × (List Int))) := fun s11 => (if (decide (s11.2.2.1 < 2)) = true then ((root_Read.f fu a0 s11.2.2.1).bind fun t25 => (((if (if t25.2 = true then (if (!s11.2.1) = true then true else (decide (t25.1.Epoch > s11.2.2.2.1))) else false) = true then some (s11.2.2.1, true, t25.1.Epoch, t25.1.Tickets, t25.1.Dir, t25.1.Charts) else some (s11.1, s11.2.1, s11.2.2.2.1, s11.2.2.2.2.1, s11.2.2.2.2.2.1, s11.2.2.2.2.2.2)) : Option (Int × Bool × Int × S_api_Tickets × Int × (List Int))).bind fun x48 => some (Sum.inr (x48.1, x48.2.1, (IntKind.i64.wrap (s11.2.2.1 + 1)), x48.2.2.1, x48.2.2.2.1, x48.2.2.2.2.1, x48.2.2.2.2.2)))) else some (Sum.inl (s11.1, s11.2.1, s11.2.2.2.1, s11.2.2.2.2.1, s11.2.2.2.2.2.1, s11.2.2.2.2.2.2)))
def root_Pick.f (fu : Nat) (a0 : S_pmem_Device) : Option (S_api_Super × Int × Bool) := ((loopM (root_Pick.s0 fu a0) fu (0, false, 0, (0 : Int), (⟨(⟨(0 : Int), (0 : Int), (0 : Int)⟩ : S_api_Geometry), (0 : Int), (0 : Int), (0 : Int)⟩ : S_api_Tickets), (0 : Int), [])).bind fun e12 => some ((⟨e12.2.2.1, e12.2.2.2.1, e12.2.2.2.2.1, e12.2.2.2.2.2⟩ : S_api_Super), e12.1, e12.2.1))
theorem root_Pick.ok (fu : Nat) (w : World) (a0 : S_pmem_Device) (G_0 : Nat) (V0_0 : Value) (R0_0 : Rd k_pmem_cell w V0_0 a0.cells) (V0_1 : Value) (R0_1 : Rd (kI .i64) w V0_1 a0.plan.list) (b_0 : Blk w G_0 139 [Seg.cell V0_0 R0_0.one, Seg.cell V0_1 R0_1.one, (sI a0.plan.at_), Seg.cell (.bool a0.off), Seg.cell (.bool a0.armed), (sI a0.left), (sI a0.steps)]) (r : S_api_Super × Int × Bool) (h : root_Pick.f fu a0 = some r) :
  Calls Try.prog 72 (([(pt G_0 0)] : List Value).toArray) w (fun e w' => ∃ v, e = .returned v ∧ ∃ u1 : Value, ∃ o2 : Own (kI .i64) 3 w' w.heap.size u1 r.1.Charts, v = .tuple #[aggV [(sI r.1.Epoch), (sI r.1.Tickets.Geometry.Blocks), (sI r.1.Tickets.Geometry.Slots), (sI r.1.Tickets.Geometry.Gens), (sI r.1.Tickets.Top), (sI r.1.Tickets.High), (sI r.1.Tickets.Free), (sI r.1.Dir), Seg.cell u1 o2.one], .int .i64 r.2.1, .bool r.2.2] ∧ Gr w w') := by
 unfold root_Pick.f at h
 have fB : Gr w w := Fr.refl _ _
 refine calls_cw Try.func72 rfl Try.ntmps72 rfl ?_
 refine cw_seq ?_
 refine cw_region ?_
 refine ol_op (opv_alloc (ss := [(sI (0 : Int)), (sI (0 : Int)), (sI (0 : Int)), (sI (0 : Int)), (sI (0 : Int)), (sI (0 : Int)), (sI (0 : Int)), (sI (0 : Int)), Seg.cell (.slice none 0 0) (by rfl)]) rfl ze110 rfl) rfl rfl rfl ?_
 rintro _ w9 ⟨G4, rfl, b5, q6, z7⟩
 have n10 := b_0.ne z7
 have z7 := Nat.le_trans fB.size z7
 have b_0 := b_0.gr q6
 have fB := fB.gr q6
 refine ol_val (v := .int .i64 0) (xr_assign rfl rfl) rfl rfl rfl ?_
 refine ol_val (v := .bool false) (xr_assign rfl rfl) rfl rfl rfl ?_
 refine ol_nil ?_
 refine cw_seq ?_
 refine cw_seq ?_
 refine cw_region ?_
 refine ol_val (v := .int .i64 0) (xr_move rfl rfl) rfl rfl rfl ?_
 refine ol_nil ?_
 obtain ⟨e12, l13, h14⟩ := bs h
 refine cw_mid (fun ρ' w' => ∃ v15 : Value, ∃ o16 : Own (kI .i64) 3 w' w.heap.size v15 e12.2.2.2.2.2, ρ' 2 = (pt G4 0) ∧ ρ' 3 = .int .i64 e12.1 ∧ ρ' 4 = .bool e12.2.1 ∧ Blk w' G_0 139 [Seg.cell V0_0 R0_0.one, Seg.cell V0_1 R0_1.one, (sI a0.plan.at_), Seg.cell (.bool a0.off), Seg.cell (.bool a0.armed), (sI a0.left), (sI a0.steps)] ∧ Blk w' G4 110 [(sI e12.2.2.1), (sI e12.2.2.2.1.Geometry.Blocks), (sI e12.2.2.2.1.Geometry.Slots), (sI e12.2.2.2.1.Geometry.Gens), (sI e12.2.2.2.1.Top), (sI e12.2.2.2.1.High), (sI e12.2.2.2.1.Free), (sI e12.2.2.2.2.1), Seg.cell v15 o16.one] ∧ Gr w w') ?_ ?_
 ·refine cw_block ?_
  refine cw_round (fun (s11 : Int × Bool × Int × Int × S_api_Tickets × Int × (List Int)) ρ' w' => ∃ v18 : Value, ∃ o19 : Own (kI .i64) 3 w' w.heap.size v18 s11.2.2.2.2.2.2, ρ' 0 = (pt G_0 0) ∧ ρ' 2 = (pt G4 0) ∧ ρ' 3 = .int .i64 s11.1 ∧ ρ' 4 = .bool s11.2.1 ∧ ρ' 8 = .int .i64 s11.2.2.1 ∧ Blk w' G_0 139 [Seg.cell V0_0 R0_0.one, Seg.cell V0_1 R0_1.one, (sI a0.plan.at_), Seg.cell (.bool a0.off), Seg.cell (.bool a0.armed), (sI a0.left), (sI a0.steps)] ∧ Blk w' G4 110 [(sI s11.2.2.2.1), (sI s11.2.2.2.2.1.Geometry.Blocks), (sI s11.2.2.2.2.1.Geometry.Slots), (sI s11.2.2.2.2.1.Geometry.Gens), (sI s11.2.2.2.2.1.Top), (sI s11.2.2.2.2.1.High), (sI s11.2.2.2.2.1.Free), (sI s11.2.2.2.2.2.1), Seg.cell v18 o19.one] ∧ Gr w w') l13 ?_ ?_
  ·skip
   exact ⟨(.slice none 0 0), Own.nil _ _ _ _, rfl, rfl, rfl, rfl, rfl, b_0, b5, fB⟩
  rintro s11 x23 ρ21 w22 ⟨v18, o19, e0, e2, e3, e4, e8, b_0, b5, fB⟩ h
  unfold root_Pick.s0 at h
  refine cw_seq ?_
  refine cw_region ?_
  refine ol_val (v := .bool (decide (s11.2.2.1 < 2))) (xr_lss rfl e8 rfl) rfl rfl rfl ?_
  refine ol_nil ?_
  refine cw_seq ?_
  rcases is h with ⟨c24, h⟩ | ⟨c24, h⟩
  ·refine cw_condT rfl c24 ?_
   refine cw_skip ?_
   refine cw_seq ?_
   refine cw_block ?_
   refine cw_seq ?_
   refine cw_region ?_
   refine ol_val (v := .int .i64 s11.2.2.1) (xr_move rfl e8) rfl rfl rfl ?_
   refine ol_val (v := .int .i64 s11.2.2.1) (xr_assign rfl rfl) rfl rfl rfl ?_
   refine ol_nil ?_
   refine cw_seq ?_
   refine cw_region ?_
   refine ol_val (v := (pt G_0 0)) (xr_move rfl e0) rfl rfl rfl ?_
   refine ol_val (v := .int .i64 s11.2.2.1) (xr_move rfl rfl) rfl rfl rfl ?_
   obtain ⟨t25, k26, h⟩ := bs h
   refine ol_op (opv_call rfl cal70 (ac rfl (ac rfl an)) (root_Read.ok fu _ a0 G_0 V0_0 (R0_0.gr fB) V0_1 (R0_1.gr fB) b_0 s11.2.2.1 _ k26)) rfl rfl rfl ?_
   rintro _ w31 ⟨u27, o28, rfl, q30⟩
   have a32 := OffV.call o19 o28
   have o28 := Own.base o28 fB.size
   have b_0 := b_0.gr q30
   have b5 := b5.gr q30
   have o19 := o19.gr q30
   have fB := fB.gr q30
   refine ol_val (v := .tuple #[aggV [(sI t25.1.Epoch), (sI t25.1.Tickets.Geometry.Blocks), (sI t25.1.Tickets.Geometry.Slots), (sI t25.1.Tickets.Geometry.Gens), (sI t25.1.Tickets.Top), (sI t25.1.Tickets.High), (sI t25.1.Tickets.Free), (sI t25.1.Dir), Seg.cell u27 o28.one], .bool t25.2]) (xr_move rfl rfl) rfl rfl rfl ?_
   refine ol_val (v := aggV [(sI t25.1.Epoch), (sI t25.1.Tickets.Geometry.Blocks), (sI t25.1.Tickets.Geometry.Slots), (sI t25.1.Tickets.Geometry.Gens), (sI t25.1.Tickets.Top), (sI t25.1.Tickets.High), (sI t25.1.Tickets.Free), (sI t25.1.Dir), Seg.cell u27 o28.one]) (xr_extract rfl rfl rfl) rfl rfl rfl ?_
   refine ol_val (v := .bool t25.2) (xr_extract rfl rfl rfl) rfl rfl rfl ?_
   refine ol_op (opv_alloc (ss := [(sI (0 : Int)), (sI (0 : Int)), (sI (0 : Int)), (sI (0 : Int)), (sI (0 : Int)), (sI (0 : Int)), (sI (0 : Int)), (sI (0 : Int)), Seg.cell (.slice none 0 0) (by rfl)]) rfl ze110 rfl) rfl rfl rfl ?_
   rintro _ w38 ⟨G33, rfl, b34, q35, z36⟩
   have n39 := b_0.ne z36
   have n40 := b5.ne z36
   have z36 := Nat.le_trans fB.size z36
   have b_0 := b_0.gr q35
   have b5 := b5.gr q35
   have o19 := o19.gr q35
   have o28 := o28.gr q35
   have fB := fB.gr q35
   have f42 := off_ty b34 o19 (by decide)
   have f43 := off_ty b34 o28 (by decide)
   refine ol_op0 (opv_store (ss' := [(sI t25.1.Epoch), (sI t25.1.Tickets.Geometry.Blocks), (sI t25.1.Tickets.Geometry.Slots), (sI t25.1.Tickets.Geometry.Gens), (sI t25.1.Tickets.Top), (sI t25.1.Tickets.High), (sI t25.1.Tickets.Free), (sI t25.1.Dir), Seg.cell u27 o28.one]) (xs := cellsOf [(sI t25.1.Epoch), (sI t25.1.Tickets.Geometry.Blocks), (sI t25.1.Tickets.Geometry.Slots), (sI t25.1.Tickets.Geometry.Gens), (sI t25.1.Tickets.Top), (sI t25.1.Tickets.High), (sI t25.1.Tickets.Free), (sI t25.1.Dir), Seg.cell u27 o28.one]) rfl sz110 rfl rfl rfl (len_cellsOf _) (one_cellsOf _) b34 (Spl.segs _ 0 9 [(sI t25.1.Epoch), (sI t25.1.Tickets.Geometry.Blocks), (sI t25.1.Tickets.Geometry.Slots), (sI t25.1.Tickets.Geometry.Gens), (sI t25.1.Tickets.Top), (sI t25.1.Tickets.High), (sI t25.1.Tickets.Free), (sI t25.1.Dir), Seg.cell u27 o28.one] rfl rfl)) rfl rfl ?_
   rintro _ w44 ⟨b34, q41⟩
   have b_0 := b_0.wr q41 n39
   have b5 := b5.wr q41 n40
   have o19 := o19.wr q41 f42
   have o28 := o28.wr q41 f43
   have fB := fB.wr q41 z36
   refine ol_val (v := .bool t25.2) (xr_assign rfl rfl) rfl rfl rfl ?_
   refine ol_nil ?_
   refine cw_seq ?_
   refine cw_mid (fun ρ' w' => ρ' 0 = (pt G_0 0) ∧ ρ' 2 = (pt G4 0) ∧ ρ' 3 = .int .i64 s11.1 ∧ ρ' 4 = .bool s11.2.1 ∧ ρ' 5 = .int .i64 s11.2.2.1 ∧ ρ' 6 = (pt G33 0) ∧ ρ' 8 = .int .i64 s11.2.2.1 ∧ ρ' 28 = .bool (if t25.2 = true then (if (!s11.2.1) = true then true else (decide (t25.1.Epoch > s11.2.2.2.1))) else false) ∧ w44 = w') ?_ ?_
   ·skip
    refine cw_region ?_
    refine ol_val (v := .bool t25.2) (xr_move rfl rfl) rfl rfl rfl ?_
    refine ol_val (v := .bool t25.2) (xr_move rfl rfl) rfl rfl rfl ?_
    rcases bt t25.2 with c45 | c45
    ·skip
     refine ol_gval (v := .bool s11.2.1) (xr_move rfl e4) rfl rfl rfl rfl rfl c45 ?_
     refine ol_gval (v := .bool (!s11.2.1)) (xr_not rfl rfl) rfl rfl rfl rfl rfl c45 ?_
     refine ol_gval (v := .bool (!s11.2.1)) (xr_move rfl rfl) rfl rfl rfl rfl rfl c45 ?_
     rcases bt (!s11.2.1) with c46 | c46
     ·skip
      refine ol_gskip rfl rfl rfl rfl rfl c46 ?_
      refine ol_gskip rfl rfl rfl rfl rfl c46 ?_
      refine ol_gskip rfl rfl rfl rfl rfl c46 ?_
      refine ol_gskip rfl rfl rfl rfl rfl c46 ?_
      refine ol_gskip rfl rfl rfl rfl rfl c46 ?_
      refine ol_gval (v := .bool true) (xr_pickT rfl rfl c46 rfl) rfl rfl rfl rfl rfl c45 ?_
      refine ol_val (v := .bool true) (xr_pickT rfl rfl c45 rfl) rfl rfl rfl ?_
      refine ol_nil ?_
      refine thn_i ?_
      exact ⟨e0, e2, e3, e4, rfl, rfl, e8, (rfl).trans (congrArg (fun z => (.bool z : Value)) (show true = (if t25.2 = true then (if (!s11.2.1) = true then true else (decide (t25.1.Epoch > s11.2.2.2.1))) else false) from by rw [ite_t c45, ite_t c46])), rfl⟩
     refine ol_gval (v := (pt G33 0)) (xr_fieldAddr (p := 0) (q := 0) rfl fl110_0 rfl) rfl rfl rfl rfl rfl c46 ?_
     refine ol_gval (v := .int .i64 t25.1.Epoch) (xr_load1 (v := .int .i64 t25.1.Epoch) rfl ag3 rfl (b34.seg 0 rfl rfl)) rfl rfl rfl rfl rfl c46 ?_
     refine ol_gval (v := (pt G4 0)) (xr_fieldAddr (p := 0) (q := 0) rfl fl110_0 e2) rfl rfl rfl rfl rfl c46 ?_
     refine ol_gval (v := .int .i64 s11.2.2.2.1) (xr_load1 (v := .int .i64 s11.2.2.2.1) rfl ag3 rfl (b5.seg 0 rfl rfl)) rfl rfl rfl rfl rfl c46 ?_
     refine ol_gval (v := .bool (decide (t25.1.Epoch > s11.2.2.2.1))) (xr_gtr rfl rfl rfl) rfl rfl rfl rfl rfl c46 ?_
     refine ol_gval (v := .bool (decide (t25.1.Epoch > s11.2.2.2.1))) (xr_pickF rfl rfl c46 rfl) rfl rfl rfl rfl rfl c45 ?_
     refine ol_val (v := .bool (decide (t25.1.Epoch > s11.2.2.2.1))) (xr_pickT rfl rfl c45 rfl) rfl rfl rfl ?_
     refine ol_nil ?_
     refine thn_i ?_
     exact ⟨e0, e2, e3, e4, rfl, rfl, e8, (rfl).trans (congrArg (fun z => (.bool z : Value)) (show (decide (t25.1.Epoch > s11.2.2.2.1)) = (if t25.2 = true then (if (!s11.2.1) = true then true else (decide (t25.1.Epoch > s11.2.2.2.1))) else false) from by rw [ite_t c45, ite_f c46])), rfl⟩
    refine ol_gskip rfl rfl rfl rfl rfl c45 ?_
    refine ol_gskip rfl rfl rfl rfl rfl c45 ?_
    refine ol_gskip rfl rfl rfl rfl rfl c45 ?_
    refine ol_uskip rfl rfl rfl rfl rfl ?_
    refine ol_uskip rfl rfl rfl rfl rfl ?_
    refine ol_uskip rfl rfl rfl rfl rfl ?_
    refine ol_uskip rfl rfl rfl rfl rfl ?_
    refine ol_uskip rfl rfl rfl rfl rfl ?_
    refine ol_gskip rfl rfl rfl rfl rfl c45 ?_
    refine ol_val (v := .bool false) (xr_pickF rfl rfl c45 rfl) rfl rfl rfl ?_
    refine ol_nil ?_
    refine thn_i ?_
    exact ⟨e0, e2, e3, e4, rfl, rfl, e8, (rfl).trans (congrArg (fun z => (.bool z : Value)) (show false = (if t25.2 = true then (if (!s11.2.1) = true then true else (decide (t25.1.Epoch > s11.2.2.2.1))) else false) from by rw [ite_f c45])), rfl⟩
   rintro ρ47 _ ⟨e0, e2, e3, e4, e5, e6, e8, e28, rfl⟩
   obtain ⟨x48, j49, h50⟩ := bs h
   refine cw_mid (fun ρ' w' => ∃ v51 : Value, ∃ o52 : Own (kI .i64) 3 w' w.heap.size v51 x48.2.2.2.2.2, ρ' 0 = (pt G_0 0) ∧ ρ' 2 = (pt G4 0) ∧ ρ' 3 = .int .i64 x48.1 ∧ ρ' 4 = .bool x48.2.1 ∧ ρ' 8 = .int .i64 s11.2.2.1 ∧ Blk w' G_0 139 [Seg.cell V0_0 R0_0.one, Seg.cell V0_1 R0_1.one, (sI a0.plan.at_), Seg.cell (.bool a0.off), Seg.cell (.bool a0.armed), (sI a0.left), (sI a0.steps)] ∧ Blk w' G4 110 [(sI x48.2.2.1), (sI x48.2.2.2.1.Geometry.Blocks), (sI x48.2.2.2.1.Geometry.Slots), (sI x48.2.2.2.1.Geometry.Gens), (sI x48.2.2.2.1.Top), (sI x48.2.2.2.1.High), (sI x48.2.2.2.1.Free), (sI x48.2.2.2.2.1), Seg.cell v51 o52.one] ∧ Gr w w') ?_ ?_
   ·have h := j49
    rcases is h with ⟨c54, h⟩ | ⟨c54, h⟩
    ·refine cw_condT e28 c54 ?_
     refine cw_region ?_
     refine ol_val (v := aggV [(sI t25.1.Epoch), (sI t25.1.Tickets.Geometry.Blocks), (sI t25.1.Tickets.Geometry.Slots), (sI t25.1.Tickets.Geometry.Gens), (sI t25.1.Tickets.Top), (sI t25.1.Tickets.High), (sI t25.1.Tickets.Free), (sI t25.1.Dir), Seg.cell u27 o28.one]) (xr_loadS (ss := [(sI t25.1.Epoch), (sI t25.1.Tickets.Geometry.Blocks), (sI t25.1.Tickets.Geometry.Slots), (sI t25.1.Tickets.Geometry.Gens), (sI t25.1.Tickets.Top), (sI t25.1.Tickets.High), (sI t25.1.Tickets.Free), (sI t25.1.Dir), Seg.cell u27 o28.one]) rfl ag110 sz110 rfl e6 (b34.segs 0 9 rfl)) rfl rfl rfl ?_
     refine ol_val (v := .int .i64 s11.2.2.1) (xr_move rfl e5) rfl rfl rfl ?_
     have f56 := off_ty b5 o28 (by decide)
     refine ol_op0 (opv_store (ss' := [(sI t25.1.Epoch), (sI t25.1.Tickets.Geometry.Blocks), (sI t25.1.Tickets.Geometry.Slots), (sI t25.1.Tickets.Geometry.Gens), (sI t25.1.Tickets.Top), (sI t25.1.Tickets.High), (sI t25.1.Tickets.Free), (sI t25.1.Dir), Seg.cell u27 o28.one]) (xs := cellsOf [(sI t25.1.Epoch), (sI t25.1.Tickets.Geometry.Blocks), (sI t25.1.Tickets.Geometry.Slots), (sI t25.1.Tickets.Geometry.Gens), (sI t25.1.Tickets.Top), (sI t25.1.Tickets.High), (sI t25.1.Tickets.Free), (sI t25.1.Dir), Seg.cell u27 o28.one]) rfl sz110 e2 rfl rfl (len_cellsOf _) (one_cellsOf _) b5 (Spl.segs _ 0 9 [(sI t25.1.Epoch), (sI t25.1.Tickets.Geometry.Blocks), (sI t25.1.Tickets.Geometry.Slots), (sI t25.1.Tickets.Geometry.Gens), (sI t25.1.Tickets.Top), (sI t25.1.Tickets.High), (sI t25.1.Tickets.Free), (sI t25.1.Dir), Seg.cell u27 o28.one] rfl rfl)) rfl rfl ?_
     rintro _ w57 ⟨b5, q55⟩
     have b_0 := b_0.wr q55 n10
     have o28 := o28.wr q55 f56
     have fB := fB.wr q55 z7
     refine ol_val (v := .int .i64 s11.2.2.1) (xr_assign rfl rfl) rfl rfl rfl ?_
     refine ol_val (v := .bool true) (xr_assign rfl rfl) rfl rfl rfl ?_
     refine ol_nil ?_
     obtain rfl := Option.some.inj h
     refine thn_i ?_
     exact ⟨u27, o28, e0, e2, rfl, rfl, e8, b_0, b5, fB⟩
    refine cw_condF e28 c54 ?_
    refine cw_skip ?_
    obtain rfl := Option.some.inj h
    refine thn_i ?_
    exact ⟨v18, o19, e0, e2, e3, e4, e8, b_0, b5, fB⟩
   rintro ρ58 w59 ⟨v51, o52, e0, e2, e3, e4, e8, b_0, b5, fB⟩
   have h := h50
   refine blk_i ?_
   refine cw_region ?_
   refine ol_val (v := .int .i64 (IntKind.i64.wrap (s11.2.2.1 + 1))) (xr_add rfl e8 rfl) rfl rfl rfl ?_
   refine ol_val (v := .int .i64 (IntKind.i64.wrap (s11.2.2.1 + 1))) (xr_move rfl rfl) rfl rfl rfl ?_
   refine ol_nil ?_
   obtain rfl := Option.some.inj h
   refine lp_in ?_
   exact ⟨v51, o52, e0, e2, e3, e4, rfl, b_0, b5, fB⟩
  refine cw_condF rfl c24 ?_
  refine cw_exit ?_
  repeat (first | with_reducible refine thn_e ?_ | with_reducible refine blk_e rfl ?_)
  obtain rfl := Option.some.inj h
  refine lp_exit ?_
  rintro rfl
  refine thn_x ?_
  exact ⟨v18, o19, e2, e3, e4, b_0, b5, fB⟩
 rintro ρ60 w61 ⟨v15, o16, e2, e3, e4, b_0, b5, fB⟩
 have h := h14
 refine cw_seq ?_
 refine cw_region ?_
 refine ol_val (v := aggV [(sI e12.2.2.1), (sI e12.2.2.2.1.Geometry.Blocks), (sI e12.2.2.2.1.Geometry.Slots), (sI e12.2.2.2.1.Geometry.Gens), (sI e12.2.2.2.1.Top), (sI e12.2.2.2.1.High), (sI e12.2.2.2.1.Free), (sI e12.2.2.2.2.1), Seg.cell v15 o16.one]) (xr_loadS (ss := [(sI e12.2.2.1), (sI e12.2.2.2.1.Geometry.Blocks), (sI e12.2.2.2.1.Geometry.Slots), (sI e12.2.2.2.1.Geometry.Gens), (sI e12.2.2.2.1.Top), (sI e12.2.2.2.1.High), (sI e12.2.2.2.1.Free), (sI e12.2.2.2.2.1), Seg.cell v15 o16.one]) rfl ag110 sz110 rfl e2 (b5.segs 0 9 rfl)) rfl rfl rfl ?_
 refine ol_val (v := .int .i64 e12.1) (xr_move rfl e3) rfl rfl rfl ?_
 refine ol_val (v := .bool e12.2.1) (xr_move rfl e4) rfl rfl rfl ?_
 have f63 := off_ty b5 o16 (by decide)
 refine ol_op0 (opv_store (ss' := [(sI e12.2.2.1), (sI e12.2.2.2.1.Geometry.Blocks), (sI e12.2.2.2.1.Geometry.Slots), (sI e12.2.2.2.1.Geometry.Gens), (sI e12.2.2.2.1.Top), (sI e12.2.2.2.1.High), (sI e12.2.2.2.1.Free), (sI e12.2.2.2.2.1), Seg.cell v15 o16.one]) (xs := cellsOf [(sI e12.2.2.1), (sI e12.2.2.2.1.Geometry.Blocks), (sI e12.2.2.2.1.Geometry.Slots), (sI e12.2.2.2.1.Geometry.Gens), (sI e12.2.2.2.1.Top), (sI e12.2.2.2.1.High), (sI e12.2.2.2.1.Free), (sI e12.2.2.2.2.1), Seg.cell v15 o16.one]) rfl sz110 e2 rfl rfl (len_cellsOf _) (one_cellsOf _) b5 (Spl.segs _ 0 9 [(sI e12.2.2.1), (sI e12.2.2.2.1.Geometry.Blocks), (sI e12.2.2.2.1.Geometry.Slots), (sI e12.2.2.2.1.Geometry.Gens), (sI e12.2.2.2.1.Top), (sI e12.2.2.2.1.High), (sI e12.2.2.2.1.Free), (sI e12.2.2.2.2.1), Seg.cell v15 o16.one] rfl rfl)) rfl rfl ?_
 rintro _ w64 ⟨b5, q62⟩
 have b_0 := b_0.wr q62 n10
 have o16 := o16.wr q62 f63
 have fB := fB.wr q62 z7
 refine ol_val (v := .int .i64 e12.1) (xr_assign rfl rfl) rfl rfl rfl ?_
 refine ol_val (v := .bool e12.2.1) (xr_assign rfl rfl) rfl rfl rfl ?_
 refine ol_nil ?_
 refine cw_ret ?_
 repeat (first | with_reducible refine thn_r ?_ | with_reducible refine blk_r ?_)
 obtain rfl := Option.some.inj h
 refine fin_cell_tmp2 Try.results72 e2 ag110 sz110 b5 (by rfl) rfl rfl ?_
 exact ⟨_, rfl, v15, o16, rfl, fB⟩
def root_may.f (fu : Nat) (a0 : S_pmem_Device) : Option Int := ((pmem_Device_Lines.f fu a0).bind fun t1 => (if (decide (t1 < 2)) = true then some (2) else some (0)))
theorem root_may.ok (fu : Nat) (w : World) (a0 : S_pmem_Device) (G_0 : Nat) (V0_0 : Value) (R0_0 : Rd k_pmem_cell w V0_0 a0.cells) (V0_1 : Value) (R0_1 : Rd (kI .i64) w V0_1 a0.plan.list) (b_0 : Blk w G_0 139 [Seg.cell V0_0 R0_0.one, Seg.cell V0_1 R0_1.one, (sI a0.plan.at_), Seg.cell (.bool a0.off), Seg.cell (.bool a0.armed), (sI a0.left), (sI a0.steps)]) (r : Int) (h : root_may.f fu a0 = some r) :
  Calls Try.prog 119 (([(pt G_0 0)] : List Value).toArray) w (fun e w' => ∃ v, e = .returned v ∧ v = .int .i64 r ∧ Gr w w') := by
 unfold root_may.f at h
 have fB : Gr w w := Fr.refl _ _
 refine calls_cw Try.func119 rfl Try.ntmps119 rfl ?_
 refine cw_seq ?_
 refine cw_region ?_
 refine ol_val (v := .int .i64 0) (xr_assign rfl rfl) rfl rfl rfl ?_
 refine ol_nil ?_
 refine cw_seq ?_
 refine cw_block ?_
 refine cw_seq ?_
 refine cw_region ?_
 refine ol_val (v := (pt G_0 0)) (xr_move rfl rfl) rfl rfl rfl ?_
 refine ol_val (v := .bool false) (xr_eqP (b := false) rfl Try.underlying30 rfl rfl (by simp) (by simp)) rfl rfl rfl ?_
 refine ol_val (v := .bool false) (xr_assign rfl rfl) rfl rfl rfl ?_
 refine ol_nil ?_
 refine cw_condF rfl rfl ?_
 refine cw_seq ?_
 refine cw_region ?_
 refine ol_val (v := (pt G_0 0)) (xr_move rfl rfl) rfl rfl rfl ?_
 obtain ⟨t1, k2, h⟩ := bs h
 refine ol_op (opv_call rfl cal43 (ac rfl an) (pmem_Device_Lines.ok fu _ a0 G_0 V0_0 (R0_0.gr fB) V0_1 (R0_1.gr fB) b_0 _ k2)) rfl rfl rfl ?_
 rintro _ w4 ⟨rfl, q3⟩
 have b_0 := b_0.gr q3
 have fB := fB.gr q3
 refine ol_val (v := .bool (decide (t1 < 2))) (xr_lss rfl rfl rfl) rfl rfl rfl ?_
 refine ol_val (v := .bool (decide (t1 < 2))) (xr_assign rfl rfl) rfl rfl rfl ?_
 refine ol_nil ?_
 rcases is h with ⟨c5, h⟩ | ⟨c5, h⟩
 ·refine cw_condT rfl c5 ?_
  refine cw_seq ?_
  refine cw_region ?_
  refine ol_val (v := .int .i64 2) (xr_assign rfl rfl) rfl rfl rfl ?_
  refine ol_nil ?_
  refine cw_ret ?_
  repeat (first | with_reducible refine thn_r ?_ | with_reducible refine blk_r ?_)
  obtain rfl := Option.some.inj h
  refine fin_ret1 Try.results119 rfl ?_
  exact ⟨_, rfl, rfl, fB⟩
 refine cw_condF rfl c5 ?_
 refine cw_skip ?_
 refine blk_i ?_
 refine cw_seq ?_
 refine cw_region ?_
 refine ol_val (v := .int .i64 0) (xr_assign rfl rfl) rfl rfl rfl ?_
 refine ol_nil ?_
 refine cw_ret ?_
 repeat (first | with_reducible refine thn_r ?_ | with_reducible refine blk_r ?_)
 obtain rfl := Option.some.inj h
 refine fin_ret1 Try.results119 rfl ?_
 exact ⟨_, rfl, rfl, fB⟩
def block_Seal.f (fu : Nat) (a0 : Int) (a1 : Int) (a2 : List Int) : Option ((List Int) × Bool) := (if (if (decide (a0 < 1)) = true then true else (if (decide (a0 ≥ 256)) = true then true else (if (decide (a1 < 0)) = true then true else (if (decide (a1 ≥ 256)) = true then true else (decide ((List.length a2 : Int) > 56)))))) = true then some ([], false) else (if (4 : Int) < (List.length (List.replicate (Int.toNat 64) (0 : Int)) : Int) then (if (5 : Int) < (List.length (List.set (List.replicate (Int.toNat 64) (0 : Int)) (Int.toNat 4) (IntKind.u8.wrap a0)) : Int) then (if (8 : Int) ≤ (List.length (List.set (List.set (List.replicate (Int.toNat 64) (0 : Int)) (Int.toNat 4) (IntKind.u8.wrap a0)) (Int.toNat 5) (IntKind.u8.wrap a1)) : Int) then (if Int.toNat 8 ≤ List.length (List.set (List.set (List.replicate (Int.toNat 64) (0 : Int)) (Int.toNat 4) (IntKind.u8.wrap a0)) (Int.toNat 5) (IntKind.u8.wrap a1)) ∧ List.length (List.set (List.set (List.replicate (Int.toNat 64) (0 : Int)) (Int.toNat 4) (IntKind.u8.wrap a0)) (Int.toNat 5) (IntKind.u8.wrap a1)) ≤ List.length (List.set (List.set (List.replicate (Int.toNat 64) (0 : Int)) (Int.toNat 4) (IntKind.u8.wrap a0)) (Int.toNat 5) (IntKind.u8.wrap a1)) then (if (4 : Int) ≤ (List.length (splL (List.set (List.set (List.replicate (Int.toNat 64) (0 : Int)) (Int.toNat 4) (IntKind.u8.wrap a0)) (Int.toNat 5) (IntKind.u8.wrap a1)) (Int.toNat 8) (List.take (List.length (List.set (List.set (List.replicate (Int.toNat 64) (0 : Int)) (Int.toNat 4) (IntKind.u8.wrap a0)) (Int.toNat 5) (IntKind.u8.wrap a1)) - Int.toNat 8) a2)) : Int) then ((crc_Sum.f fu [(cut (splL (List.set (List.set (List.replicate (Int.toNat 64) (0 : Int)) (Int.toNat 4) (IntKind.u8.wrap a0)) (Int.toNat 5) (IntKind.u8.wrap a1)) (Int.toNat 8) (List.take (List.length (List.set (List.set (List.replicate (Int.toNat 64) (0 : Int)) (Int.toNat 4) (IntKind.u8.wrap a0)) (Int.toNat 5) (IntKind.u8.wrap a1)) - Int.toNat 8) a2)) 4 (List.length (splL (List.set (List.set (List.replicate (Int.toNat 64) (0 : Int)) (Int.toNat 4) (IntKind.u8.wrap a0)) (Int.toNat 5) (IntKind.u8.wrap a1)) (Int.toNat 8) (List.take (List.length (List.set (List.set (List.replicate (Int.toNat 64) (0 : Int)) (Int.toNat 4) (IntKind.u8.wrap a0)) (Int.toNat 5) (IntKind.u8.wrap a1)) - Int.toNat 8) a2)) : Int))]).bind fun t36 => ((octet_Lay.f fu (IntKind.u64.wrap t36) 4).bind fun t40 => some ((splL (splL (List.set (List.set (List.replicate (Int.toNat 64) (0 : Int)) (Int.toNat 4) (IntKind.u8.wrap a0)) (Int.toNat 5) (IntKind.u8.wrap a1)) (Int.toNat 8) (List.take (List.length (List.set (List.set (List.replicate (Int.toNat 64) (0 : Int)) (Int.toNat 4) (IntKind.u8.wrap a0)) (Int.toNat 5) (IntKind.u8.wrap a1)) - Int.toNat 8) a2)) 0 (List.take (List.length (splL (List.set (List.set (List.replicate (Int.toNat 64) (0 : Int)) (Int.toNat 4) (IntKind.u8.wrap a0)) (Int.toNat 5) (IntKind.u8.wrap a1)) (Int.toNat 8) (List.take (List.length (List.set (List.set (List.replicate (Int.toNat 64) (0 : Int)) (Int.toNat 4) (IntKind.u8.wrap a0)) (Int.toNat 5) (IntKind.u8.wrap a1)) - Int.toNat 8) a2))) t40)), true))) else none) else none) else none) else none) else none))
theorem block_Seal.ok (fu : Nat) (w : World) (a0 : Int) (a1 : Int) (a2 : List Int) (V2_0 : Value) (R2_0 : Rd (kI .u8) w V2_0 a2) (r : (List Int) × Bool) (h : block_Seal.f fu a0 a1 a2 = some r) :
  Calls Try.prog 140 (([.int .i64 a0, .int .i64 a1, V2_0] : List Value).toArray) w (fun e w' => ∃ v, e = .returned v ∧ ∃ u1 : Value, ∃ o2 : Own (kI .u8) 5 w' w.heap.size u1 r.1, v = .tuple #[u1, .bool r.2] ∧ Gr w w') := by
 unfold block_Seal.f at h
 have fB : Gr w w := Fr.refl _ _
 refine calls_cw Try.func140 rfl Try.ntmps140 rfl ?_
 refine cw_seq ?_
 refine cw_region ?_
 refine ol_val (v := .slice none 0 0) (xr_assign rfl rfl) rfl rfl rfl ?_
 refine ol_val (v := .bool false) (xr_assign rfl rfl) rfl rfl rfl ?_
 refine ol_nil ?_
 refine cw_seq ?_
 refine cw_seq ?_
 refine cw_mid (fun ρ' w' => ρ' 0 = .int .i64 a0 ∧ ρ' 1 = .int .i64 a1 ∧ ρ' 2 = V2_0 ∧ ρ' 27 = .bool (if (decide (a0 < 1)) = true then true else (if (decide (a0 ≥ 256)) = true then true else (if (decide (a1 < 0)) = true then true else (if (decide (a1 ≥ 256)) = true then true else (decide ((List.length a2 : Int) > 56)))))) ∧ w = w') ?_ ?_
 ·skip
  refine cw_region ?_
  refine ol_val (v := .int .i64 a0) (xr_move rfl rfl) rfl rfl rfl ?_
  refine ol_val (v := .bool (decide (a0 < 1))) (xr_lss rfl rfl rfl) rfl rfl rfl ?_
  refine ol_val (v := .bool (decide (a0 < 1))) (xr_move rfl rfl) rfl rfl rfl ?_
  rcases bt (decide (a0 < 1)) with c4 | c4
  ·skip
   refine ol_gskip rfl rfl rfl rfl rfl c4 ?_
   refine ol_gskip rfl rfl rfl rfl rfl c4 ?_
   refine ol_val (v := .bool true) (xr_pickT rfl rfl c4 rfl) rfl rfl rfl ?_
   refine ol_val (v := .bool true) (xr_move rfl rfl) rfl rfl rfl ?_
   refine ol_gskip rfl rfl rfl rfl rfl rfl ?_
   refine ol_gskip rfl rfl rfl rfl rfl rfl ?_
   refine ol_val (v := .bool true) (xr_pickT rfl rfl rfl rfl) rfl rfl rfl ?_
   refine ol_val (v := .bool true) (xr_move rfl rfl) rfl rfl rfl ?_
   refine ol_gskip rfl rfl rfl rfl rfl rfl ?_
   refine ol_gskip rfl rfl rfl rfl rfl rfl ?_
   refine ol_val (v := .bool true) (xr_pickT rfl rfl rfl rfl) rfl rfl rfl ?_
   refine ol_val (v := .bool true) (xr_move rfl rfl) rfl rfl rfl ?_
   refine ol_gskip rfl rfl rfl rfl rfl rfl ?_
   refine ol_gskip rfl rfl rfl rfl rfl rfl ?_
   refine ol_gskip rfl rfl rfl rfl rfl rfl ?_
   refine ol_val (v := .bool true) (xr_pickT rfl rfl rfl rfl) rfl rfl rfl ?_
   refine ol_nil ?_
   refine thn_i ?_
   exact ⟨rfl, rfl, rfl, (rfl).trans (congrArg (fun z => (.bool z : Value)) (show true = (if (decide (a0 < 1)) = true then true else (if (decide (a0 ≥ 256)) = true then true else (if (decide (a1 < 0)) = true then true else (if (decide (a1 ≥ 256)) = true then true else (decide ((List.length a2 : Int) > 56)))))) from by rw [ite_t c4])), rfl⟩
  refine ol_gval (v := .int .i64 a0) (xr_move rfl rfl) rfl rfl rfl rfl rfl c4 ?_
  refine ol_gval (v := .bool (decide (a0 ≥ 256))) (xr_geq rfl rfl rfl) rfl rfl rfl rfl rfl c4 ?_
  refine ol_val (v := .bool (decide (a0 ≥ 256))) (xr_pickF rfl rfl c4 rfl) rfl rfl rfl ?_
  refine ol_val (v := .bool (decide (a0 ≥ 256))) (xr_move rfl rfl) rfl rfl rfl ?_
  rcases bt (decide (a0 ≥ 256)) with c5 | c5
  ·skip
   refine ol_gskip rfl rfl rfl rfl rfl c5 ?_
   refine ol_gskip rfl rfl rfl rfl rfl c5 ?_
   refine ol_val (v := .bool true) (xr_pickT rfl rfl c5 rfl) rfl rfl rfl ?_
   refine ol_val (v := .bool true) (xr_move rfl rfl) rfl rfl rfl ?_
   refine ol_gskip rfl rfl rfl rfl rfl rfl ?_
   refine ol_gskip rfl rfl rfl rfl rfl rfl ?_
   refine ol_val (v := .bool true) (xr_pickT rfl rfl rfl rfl) rfl rfl rfl ?_
   refine ol_val (v := .bool true) (xr_move rfl rfl) rfl rfl rfl ?_
   refine ol_gskip rfl rfl rfl rfl rfl rfl ?_
   refine ol_gskip rfl rfl rfl rfl rfl rfl ?_
   refine ol_gskip rfl rfl rfl rfl rfl rfl ?_
   refine ol_val (v := .bool true) (xr_pickT rfl rfl rfl rfl) rfl rfl rfl ?_
   refine ol_nil ?_
   refine thn_i ?_
   exact ⟨rfl, rfl, rfl, (rfl).trans (congrArg (fun z => (.bool z : Value)) (show true = (if (decide (a0 < 1)) = true then true else (if (decide (a0 ≥ 256)) = true then true else (if (decide (a1 < 0)) = true then true else (if (decide (a1 ≥ 256)) = true then true else (decide ((List.length a2 : Int) > 56)))))) from by rw [ite_f c4, ite_t c5])), rfl⟩
  refine ol_gval (v := .int .i64 a1) (xr_move rfl rfl) rfl rfl rfl rfl rfl c5 ?_
  refine ol_gval (v := .bool (decide (a1 < 0))) (xr_lss rfl rfl rfl) rfl rfl rfl rfl rfl c5 ?_
  refine ol_val (v := .bool (decide (a1 < 0))) (xr_pickF rfl rfl c5 rfl) rfl rfl rfl ?_
  refine ol_val (v := .bool (decide (a1 < 0))) (xr_move rfl rfl) rfl rfl rfl ?_
  rcases bt (decide (a1 < 0)) with c6 | c6
  ·skip
   refine ol_gskip rfl rfl rfl rfl rfl c6 ?_
   refine ol_gskip rfl rfl rfl rfl rfl c6 ?_
   refine ol_val (v := .bool true) (xr_pickT rfl rfl c6 rfl) rfl rfl rfl ?_
   refine ol_val (v := .bool true) (xr_move rfl rfl) rfl rfl rfl ?_
   refine ol_gskip rfl rfl rfl rfl rfl rfl ?_
   refine ol_gskip rfl rfl rfl rfl rfl rfl ?_
   refine ol_gskip rfl rfl rfl rfl rfl rfl ?_
   refine ol_val (v := .bool true) (xr_pickT rfl rfl rfl rfl) rfl rfl rfl ?_
   refine ol_nil ?_
   refine thn_i ?_
   exact ⟨rfl, rfl, rfl, (rfl).trans (congrArg (fun z => (.bool z : Value)) (show true = (if (decide (a0 < 1)) = true then true else (if (decide (a0 ≥ 256)) = true then true else (if (decide (a1 < 0)) = true then true else (if (decide (a1 ≥ 256)) = true then true else (decide ((List.length a2 : Int) > 56)))))) from by rw [ite_f c4, ite_f c5, ite_t c6])), rfl⟩
  refine ol_gval (v := .int .i64 a1) (xr_move rfl rfl) rfl rfl rfl rfl rfl c6 ?_
  refine ol_gval (v := .bool (decide (a1 ≥ 256))) (xr_geq rfl rfl rfl) rfl rfl rfl rfl rfl c6 ?_
  refine ol_val (v := .bool (decide (a1 ≥ 256))) (xr_pickF rfl rfl c6 rfl) rfl rfl rfl ?_
  refine ol_val (v := .bool (decide (a1 ≥ 256))) (xr_move rfl rfl) rfl rfl rfl ?_
  rcases bt (decide (a1 ≥ 256)) with c7 | c7
  ·skip
   refine ol_gskip rfl rfl rfl rfl rfl c7 ?_
   refine ol_gskip rfl rfl rfl rfl rfl c7 ?_
   refine ol_gskip rfl rfl rfl rfl rfl c7 ?_
   refine ol_val (v := .bool true) (xr_pickT rfl rfl c7 rfl) rfl rfl rfl ?_
   refine ol_nil ?_
   refine thn_i ?_
   exact ⟨rfl, rfl, rfl, (rfl).trans (congrArg (fun z => (.bool z : Value)) (show true = (if (decide (a0 < 1)) = true then true else (if (decide (a0 ≥ 256)) = true then true else (if (decide (a1 < 0)) = true then true else (if (decide (a1 ≥ 256)) = true then true else (decide ((List.length a2 : Int) > 56)))))) from by rw [ite_f c4, ite_f c5, ite_f c6, ite_t c7])), rfl⟩
  refine ol_gval (v := V2_0) (xr_move rfl rfl) rfl rfl rfl rfl rfl c7 ?_
  refine ol_gval (v := .int .i64 (List.length a2 : Int)) (xr_lenR rfl Try.underlying43 rfl (R2_0.gr fB)) rfl rfl rfl rfl rfl c7 ?_
  refine ol_gval (v := .bool (decide ((List.length a2 : Int) > 56))) (xr_gtr rfl rfl rfl) rfl rfl rfl rfl rfl c7 ?_
  refine ol_val (v := .bool (decide ((List.length a2 : Int) > 56))) (xr_pickF rfl rfl c7 rfl) rfl rfl rfl ?_
  refine ol_nil ?_
  refine thn_i ?_
  exact ⟨rfl, rfl, rfl, (rfl).trans (congrArg (fun z => (.bool z : Value)) (show (decide ((List.length a2 : Int) > 56)) = (if (decide (a0 < 1)) = true then true else (if (decide (a0 ≥ 256)) = true then true else (if (decide (a1 < 0)) = true then true else (if (decide (a1 ≥ 256)) = true then true else (decide ((List.length a2 : Int) > 56)))))) from by rw [ite_f c4, ite_f c5, ite_f c6, ite_f c7])), rfl⟩
 rintro ρ8 _ ⟨e0, e1, e2, e27, rfl⟩
 rcases is h with ⟨c9, h⟩ | ⟨c9, h⟩
 ·refine cw_condT e27 c9 ?_
  refine cw_seq ?_
  refine cw_region ?_
  refine ol_val (v := .slice none 0 0) (xr_assign rfl rfl) rfl rfl rfl ?_
  refine ol_val (v := .bool false) (xr_assign rfl rfl) rfl rfl rfl ?_
  refine ol_nil ?_
  refine cw_ret ?_
  repeat (first | with_reducible refine thn_r ?_ | with_reducible refine blk_r ?_)
  obtain rfl := Option.some.inj h
  refine fin_ret2 Try.results140 rfl rfl ?_
  exact ⟨_, rfl, (.slice none 0 0), Own.nil _ _ _ _, rfl, fB⟩
 refine cw_condF e27 c9 ?_
 refine cw_skip ?_
 refine cw_seq ?_
 refine cw_region ?_
 refine ol_op (opv_make (K := (kI .u8)) (z := (0 : Int)) rfl Try.underlying43 el5 rfl rfl rfl (by decide) (by decide) rfl fB.size) rfl rfl rfl ?_
 rintro v10 w15 ⟨o12, q11, z13⟩
 have fB := fB.gr q11
 refine ol_val (v := v10) (xr_assign rfl rfl) rfl rfl rfl ?_
 refine ol_nil ?_
 refine cw_seq ?_
 refine cw_region ?_
 refine ol_val (v := v10) (xr_move rfl rfl) rfl rfl rfl ?_
 refine ol_val (v := v10) (xr_move rfl rfl) rfl rfl rfl ?_
 refine ol_val (v := .int .i64 a0) (xr_move rfl e0) rfl rfl rfl ?_
 refine ol_val (v := .int .u8 (IntKind.u8.wrap a0)) (xr_conv rfl Try.underlying3 Try.underlying5 rfl) rfl rfl rfl ?_
 refine ol_val (v := .int .i64 a1) (xr_move rfl e1) rfl rfl rfl ?_
 refine ol_val (v := .int .u8 (IntKind.u8.wrap a1)) (xr_conv rfl Try.underlying3 Try.underlying5 rfl) rfl rfl rfl ?_
 obtain ⟨g16, h⟩ := gs h
 refine ol_val (v := (pt ((sb v10)) (so v10 + Int.toNat 4 * 1))) (xr_indexR (K := (kI .u8)) (v := v10) rfl Try.underlying43 sz5 rfl o12.rd rfl (by decide) g16) rfl rfl rfl ?_
 have f18 := o12.geO
 refine ol_op0 (opv_storeRow (z := (IntKind.u8.wrap a0)) (xs := cellsOf [Seg.cell (.int .u8 (IntKind.u8.wrap a0))]) rfl sz5 rfl rfl rfl (len_cellsOf _) (one_cellsOf _) o12 (by decide) g16 (Spl.whole ((Kd.len _ _).trans (Kd.len _ _).symm)) rfl) rfl rfl ?_
 rintro _ w19 ⟨o12, q17⟩
 have fB := fB.wrO q17 f18
 obtain ⟨g20, h⟩ := gs h
 refine ol_val (v := (pt ((sb v10)) (so v10 + Int.toNat 5 * 1))) (xr_indexR (K := (kI .u8)) (v := v10) rfl Try.underlying43 sz5 rfl o12.rd rfl (by decide) g20) rfl rfl rfl ?_
 have f22 := o12.geO
 refine ol_op0 (opv_storeRow (z := (IntKind.u8.wrap a1)) (xs := cellsOf [Seg.cell (.int .u8 (IntKind.u8.wrap a1))]) rfl sz5 rfl rfl rfl (len_cellsOf _) (one_cellsOf _) o12 (by decide) g20 (Spl.whole ((Kd.len _ _).trans (Kd.len _ _).symm)) rfl) rfl rfl ?_
 rintro _ w23 ⟨o12, q21⟩
 have fB := fB.wrO q21 f22
 refine ol_nil ?_
 refine cw_seq ?_
 refine cw_region ?_
 refine ol_val (v := v10) (xr_move rfl rfl) rfl rfl rfl ?_
 obtain ⟨g25, h⟩ := gs h
 refine ol_val (v := subv 1 v10 (Int.toNat 8) (List.length (List.set (List.set (List.replicate (Int.toNat 64) (0 : Int)) (Int.toNat 4) (IntKind.u8.wrap a0)) (Int.toNat 5) (IntKind.u8.wrap a1)))) (xr_slice_l (K := (kI .u8)) (v := v10) rfl Try.underlying43 sz5 rfl o12.rd rfl (by decide) g25) rfl rfl rfl ?_
 have r24 : Rd (kI .u8) w23 (subv 1 v10 (Int.toNat 8) (List.length (List.set (List.set (List.replicate (Int.toNat 64) (0 : Int)) (Int.toNat 4) (IntKind.u8.wrap a0)) (Int.toNat 5) (IntKind.u8.wrap a1)))) (cut (List.set (List.set (List.replicate (Int.toNat 64) (0 : Int)) (Int.toNat 4) (IntKind.u8.wrap a0)) (Int.toNat 5) (IntKind.u8.wrap a1)) 8 (List.length (List.set (List.set (List.replicate (Int.toNat 64) (0 : Int)) (Int.toNat 4) (IntKind.u8.wrap a0)) (Int.toNat 5) (IntKind.u8.wrap a1)) : Int)) := o12.rd.cut (lo := 8) (hi := (List.length (List.set (List.set (List.replicate (Int.toNat 64) (0 : Int)) (Int.toNat 4) (IntKind.u8.wrap a0)) (Int.toNat 5) (IntKind.u8.wrap a1)) : Int)) (by decide) g25 (Int.le_refl _)
 refine ol_val (v := V2_0) (xr_move rfl e2) rfl rfl rfl ?_
 obtain ⟨g27, h⟩ := gs h
 have f28 := o12.geO
 refine ol_op (opv_copyCut rfl Try.underlying43 sz5 rfl rfl rfl rfl o12 g27.1 g27.2 (R2_0.gr fB)) rfl rfl rfl ?_
 rintro _ w29 ⟨rfl, o12, q26⟩
 have fB := fB.wrO q26 f28
 refine ol_nil ?_
 refine cw_seq ?_
 refine cw_region ?_
 refine ol_val (v := v10) (xr_move rfl rfl) rfl rfl rfl ?_
 refine ol_val (v := v10) (xr_move rfl rfl) rfl rfl rfl ?_
 obtain ⟨g31, h⟩ := gs h
 refine ol_val (v := subv 1 v10 (Int.toNat 4) (List.length (splL (List.set (List.set (List.replicate (Int.toNat 64) (0 : Int)) (Int.toNat 4) (IntKind.u8.wrap a0)) (Int.toNat 5) (IntKind.u8.wrap a1)) (Int.toNat 8) (List.take (List.length (List.set (List.set (List.replicate (Int.toNat 64) (0 : Int)) (Int.toNat 4) (IntKind.u8.wrap a0)) (Int.toNat 5) (IntKind.u8.wrap a1)) - Int.toNat 8) a2)))) (xr_slice_l (K := (kI .u8)) (v := v10) rfl Try.underlying43 sz5 rfl o12.rd rfl (by decide) g31) rfl rfl rfl ?_
 have r30 : Rd (kI .u8) w29 (subv 1 v10 (Int.toNat 4) (List.length (splL (List.set (List.set (List.replicate (Int.toNat 64) (0 : Int)) (Int.toNat 4) (IntKind.u8.wrap a0)) (Int.toNat 5) (IntKind.u8.wrap a1)) (Int.toNat 8) (List.take (List.length (List.set (List.set (List.replicate (Int.toNat 64) (0 : Int)) (Int.toNat 4) (IntKind.u8.wrap a0)) (Int.toNat 5) (IntKind.u8.wrap a1)) - Int.toNat 8) a2)))) (cut (splL (List.set (List.set (List.replicate (Int.toNat 64) (0 : Int)) (Int.toNat 4) (IntKind.u8.wrap a0)) (Int.toNat 5) (IntKind.u8.wrap a1)) (Int.toNat 8) (List.take (List.length (List.set (List.set (List.replicate (Int.toNat 64) (0 : Int)) (Int.toNat 4) (IntKind.u8.wrap a0)) (Int.toNat 5) (IntKind.u8.wrap a1)) - Int.toNat 8) a2)) 4 (List.length (splL (List.set (List.set (List.replicate (Int.toNat 64) (0 : Int)) (Int.toNat 4) (IntKind.u8.wrap a0)) (Int.toNat 5) (IntKind.u8.wrap a1)) (Int.toNat 8) (List.take (List.length (List.set (List.set (List.replicate (Int.toNat 64) (0 : Int)) (Int.toNat 4) (IntKind.u8.wrap a0)) (Int.toNat 5) (IntKind.u8.wrap a1)) - Int.toNat 8) a2)) : Int)) := o12.rd.cut (lo := 4) (hi := (List.length (splL (List.set (List.set (List.replicate (Int.toNat 64) (0 : Int)) (Int.toNat 4) (IntKind.u8.wrap a0)) (Int.toNat 5) (IntKind.u8.wrap a1)) (Int.toNat 8) (List.take (List.length (List.set (List.set (List.replicate (Int.toNat 64) (0 : Int)) (Int.toNat 4) (IntKind.u8.wrap a0)) (Int.toNat 5) (IntKind.u8.wrap a1)) - Int.toNat 8) a2)) : Int)) (by decide) g31 (Int.le_refl _)
 refine ol_op (opv_build1 rfl Try.underlying100 el43 rfl r30 rfl) rfl rfl rfl ?_
 rintro v32 w35 ⟨r34, q33⟩
 have o12 := o12.gr q33
 have fB := fB.gr q33
 obtain ⟨t36, k37, h⟩ := bs h
 refine ol_op (opv_call rfl cal149 (ac rfl an) (crc_Sum.ok fu _ [(cut (splL (List.set (List.set (List.replicate (Int.toNat 64) (0 : Int)) (Int.toNat 4) (IntKind.u8.wrap a0)) (Int.toNat 5) (IntKind.u8.wrap a1)) (Int.toNat 8) (List.take (List.length (List.set (List.set (List.replicate (Int.toNat 64) (0 : Int)) (Int.toNat 4) (IntKind.u8.wrap a0)) (Int.toNat 5) (IntKind.u8.wrap a1)) - Int.toNat 8) a2)) 4 (List.length (splL (List.set (List.set (List.replicate (Int.toNat 64) (0 : Int)) (Int.toNat 4) (IntKind.u8.wrap a0)) (Int.toNat 5) (IntKind.u8.wrap a1)) (Int.toNat 8) (List.take (List.length (List.set (List.set (List.replicate (Int.toNat 64) (0 : Int)) (Int.toNat 4) (IntKind.u8.wrap a0)) (Int.toNat 5) (IntKind.u8.wrap a1)) - Int.toNat 8) a2)) : Int))] v32 (r34) _ k37)) rfl rfl rfl ?_
 rintro _ w39 ⟨rfl, q38⟩
 have o12 := o12.gr q38
 have fB := fB.gr q38
 refine ol_val (v := .int .u64 (IntKind.u64.wrap t36)) (xr_conv rfl Try.underlying191 Try.underlying22 rfl) rfl rfl rfl ?_
 obtain ⟨t40, k41, h⟩ := bs h
 refine ol_op (opv_call rfl cal128 (ac rfl (ac rfl an)) (octet_Lay.ok fu _ (IntKind.u64.wrap t36) 4 _ k41)) rfl rfl rfl ?_
 rintro u42 w46 ⟨_, o43, rfl, q45⟩
 have a47 := OffV.call o12 o43
 have o43 := Own.base o43 fB.size
 have o12 := o12.gr q45
 have fB := fB.gr q45
 have f49 := o12.geO
 refine ol_op (opv_copyRow rfl Try.underlying43 sz5 rfl rfl rfl o12 o43.rd) rfl rfl rfl ?_
 rintro _ w50 ⟨rfl, o12, q48⟩
 have fB := fB.wrO q48 f49
 refine ol_nil ?_
 refine cw_seq ?_
 refine cw_region ?_
 refine ol_val (v := v10) (xr_move rfl rfl) rfl rfl rfl ?_
 refine ol_val (v := v10) (xr_assign rfl rfl) rfl rfl rfl ?_
 refine ol_val (v := .bool true) (xr_assign rfl rfl) rfl rfl rfl ?_
 refine ol_nil ?_
 refine cw_ret ?_
 repeat (first | with_reducible refine thn_r ?_ | with_reducible refine blk_r ?_)
 obtain rfl := Option.some.inj h
 refine fin_ret2 Try.results140 rfl rfl ?_
 exact ⟨_, rfl, v10, o12, rfl, fB⟩
end Go.Proofs.Ytklhbaghbmndeaa
