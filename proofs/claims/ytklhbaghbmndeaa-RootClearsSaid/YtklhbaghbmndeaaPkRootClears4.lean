/- RootClears: texts merged, part 4 of 8. The last part proves that the law RootClears holds for every input. -/
import Derived.Test.YtklhbaghbmndeaaPkRootClears3
set_option maxRecDepth 100000
set_option maxHeartbeats 4000000
set_option linter.unusedVariables false
set_option linter.unusedSimpArgs false
namespace Go.Proofs.Ytklhbaghbmndeaa
open Go Go.Xw
def super_Right.s0 (fu : Nat) (a0 : S_api_Super) : Int → Option (Sum (Sum Bool Unit) Int) := fun s130 => (if (decide (s130 < (List.length a0.Charts : Int))) = true then (if 0 ≤ s130 ∧ s130 < (List.length a0.Charts : Int) then ((((super_Right_1__c.f fu (ix a0.Charts s130) a0).bind fun t142 => (if (!t142) = true then some (true) else (if 0 ≤ s130 ∧ s130 ≤ (List.length a0.Charts : Int) then ((slices_Contains_2.f fu (cut a0.Charts 0 s130) (ix a0.Charts s130)).bind fun t149 => some (t149)) else none))) : Option Bool).bind fun x140 => (if x140 = true then some (Sum.inl (Sum.inl (false))) else some (Sum.inr ((IntKind.i64.wrap (s130 + 1)))))) else none) else some (Sum.inl (Sum.inr ())))
def super_Right.f (fu : Nat) (a0 : S_api_Super) : Option Bool := (((if (decide (a0.Epoch < 1)) = true then some (true) else (if (decide (a0.Epoch > 4611686018427387904)) = true then some (true) else ((geom_Right.f fu a0.Tickets.Geometry).bind fun t11 => (if (!t11) = true then some (true) else (if (decide (a0.Tickets.High < 0)) = true then some (true) else (if (decide (a0.Tickets.High > a0.Tickets.Geometry.Slots)) = true then some (true) else (if (decide (a0.Tickets.Free < 0)) = true then some (true) else some ((decide (a0.Tickets.Free > a0.Tickets.High)))))))))) : Option Bool).bind fun x7 => (if x7 = true then some (false) else (((if (decide (a0.Tickets.High = 0)) = true then (if (!decide (a0.Tickets.Top = 0)) = true then some (true) else (if (decide (a0.Tickets.High > 0)) = true then ((super_Right_1__c.f fu a0.Tickets.Top a0).bind fun t31 => (if (!t31) = true then some (true) else (if (!decide (a0.Dir = 0)) = true then ((super_Right_1__c.f fu a0.Dir a0).bind fun t39 => (if (!t39) = true then some (true) else ((geom_Charts.f fu a0.Tickets.Geometry).bind fun t46 => some ((!decide ((List.length a0.Charts : Int) = t46)))))) else ((geom_Charts.f fu a0.Tickets.Geometry).bind fun t52 => some ((!decide ((List.length a0.Charts : Int) = t52))))))) else (if (!decide (a0.Dir = 0)) = true then ((super_Right_1__c.f fu a0.Dir a0).bind fun t59 => (if (!t59) = true then some (true) else ((geom_Charts.f fu a0.Tickets.Geometry).bind fun t66 => some ((!decide ((List.length a0.Charts : Int) = t66)))))) else ((geom_Charts.f fu a0.Tickets.Geometry).bind fun t72 => some ((!decide ((List.length a0.Charts : Int) = t72))))))) else (if (decide (a0.Tickets.High > 0)) = true then ((super_Right_1__c.f fu a0.Tickets.Top a0).bind fun t79 => (if (!t79) = true then some (true) else (if (!decide (a0.Dir = 0)) = true then ((super_Right_1__c.f fu a0.Dir a0).bind fun t87 => (if (!t87) = true then some (true) else ((geom_Charts.f fu a0.Tickets.Geometry).bind fun t94 => some ((!decide ((List.length a0.Charts : Int) = t94)))))) else ((geom_Charts.f fu a0.Tickets.Geometry).bind fun t100 => some ((!decide ((List.length a0.Charts : Int) = t100))))))) else (if (!decide (a0.Dir = 0)) = true then ((super_Right_1__c.f fu a0.Dir a0).bind fun t107 => (if (!t107) = true then some (true) else ((geom_Charts.f fu a0.Tickets.Geometry).bind fun t114 => some ((!decide ((List.length a0.Charts : Int) = t114)))))) else ((geom_Charts.f fu a0.Tickets.Geometry).bind fun t120 => some ((!decide ((List.length a0.Charts : Int) = t120))))))) : Option Bool).bind fun x23 => (if x23 = true then some (false) else ((loopM (super_Right.s0 fu a0) fu (0)).bind fun e131 => match e131 with | Sum.inl p => some p | Sum.inr x134 => some (true))))))
theorem super_Right.ok (fu : Nat) (w : World) (a0 : S_api_Super) (V0_0 : Value) (R0_0 : Rd (kI .i64) w V0_0 a0.Charts) (r : Bool) (h : super_Right.f fu a0 = some r) :
  Calls Try.prog 132 (([aggV [(sI a0.Epoch), (sI a0.Tickets.Geometry.Blocks), (sI a0.Tickets.Geometry.Slots), (sI a0.Tickets.Geometry.Gens), (sI a0.Tickets.Top), (sI a0.Tickets.High), (sI a0.Tickets.Free), (sI a0.Dir), Seg.cell V0_0 R0_0.one]] : List Value).toArray) w (fun e w' => ∃ v, e = .returned v ∧ v = .bool r ∧ Gr w w') := by
 unfold super_Right.f at h
 have fB : Gr w w := Fr.refl _ _
 refine calls_cw Try.func132 rfl Try.ntmps132 rfl ?_
 refine cw_seq ?_
 refine cw_region ?_
 refine ol_op (opv_box (ss := [(sI a0.Epoch), (sI a0.Tickets.Geometry.Blocks), (sI a0.Tickets.Geometry.Slots), (sI a0.Tickets.Geometry.Gens), (sI a0.Tickets.Top), (sI a0.Tickets.High), (sI a0.Tickets.Free), (sI a0.Dir), Seg.cell V0_0 R0_0.one]) rfl rfl rfl) rfl rfl rfl ?_
 rintro _ w6 ⟨G1, rfl, b2, q3, z4⟩
 have z4 := Nat.le_trans fB.size z4
 have fB := fB.gr q3
 refine ol_val (v := .bool false) (xr_assign rfl rfl) rfl rfl rfl ?_
 refine ol_nil ?_
 refine cw_seq ?_
 refine cw_seq ?_
 obtain ⟨x7, j8, h⟩ := bs h
 refine cw_mid (fun ρ' w' => ρ' 1 = (pt G1 0) ∧ ρ' 51 = .bool x7 ∧ Gr w6 w') ?_ ?_
 ·skip
  refine cw_region ?_
  refine ol_val (v := (pt G1 0)) (xr_fieldAddr (p := 0) (q := 0) rfl fl110_0 rfl) rfl rfl rfl ?_
  refine ol_val (v := .int .i64 a0.Epoch) (xr_load1 (v := .int .i64 a0.Epoch) rfl ag3 rfl (b2.seg 0 rfl rfl)) rfl rfl rfl ?_
  refine ol_val (v := .bool (decide (a0.Epoch < 1))) (xr_lss rfl rfl rfl) rfl rfl rfl ?_
  refine ol_val (v := .bool (decide (a0.Epoch < 1))) (xr_move rfl rfl) rfl rfl rfl ?_
  rcases is j8 with ⟨c9, j8⟩ | ⟨c9, j8⟩
  ·skip
   refine ol_gskip rfl rfl rfl rfl rfl c9 ?_
   refine ol_gskip rfl rfl rfl rfl rfl c9 ?_
   refine ol_gskip rfl rfl rfl rfl rfl c9 ?_
   refine ol_val (v := .bool true) (xr_pickT rfl rfl c9 rfl) rfl rfl rfl ?_
   refine ol_val (v := .bool true) (xr_move rfl rfl) rfl rfl rfl ?_
   refine ol_gskip rfl rfl rfl rfl rfl rfl ?_
   refine ol_gskip rfl rfl rfl rfl rfl rfl ?_
   refine ol_gskip rfl rfl rfl rfl rfl rfl ?_
   refine ol_gskip rfl rfl rfl rfl rfl rfl ?_
   refine ol_gskip rfl rfl rfl rfl rfl rfl ?_
   refine ol_val (v := .bool true) (xr_pickT rfl rfl rfl rfl) rfl rfl rfl ?_
   refine ol_val (v := .bool true) (xr_move rfl rfl) rfl rfl rfl ?_
   refine ol_gskip rfl rfl rfl rfl rfl rfl ?_
   refine ol_gskip rfl rfl rfl rfl rfl rfl ?_
   refine ol_gskip rfl rfl rfl rfl rfl rfl ?_
   refine ol_gskip rfl rfl rfl rfl rfl rfl ?_
   refine ol_val (v := .bool true) (xr_pickT rfl rfl rfl rfl) rfl rfl rfl ?_
   refine ol_val (v := .bool true) (xr_move rfl rfl) rfl rfl rfl ?_
   refine ol_gskip rfl rfl rfl rfl rfl rfl ?_
   refine ol_gskip rfl rfl rfl rfl rfl rfl ?_
   refine ol_gskip rfl rfl rfl rfl rfl rfl ?_
   refine ol_gskip rfl rfl rfl rfl rfl rfl ?_
   refine ol_gskip rfl rfl rfl rfl rfl rfl ?_
   refine ol_gskip rfl rfl rfl rfl rfl rfl ?_
   refine ol_gskip rfl rfl rfl rfl rfl rfl ?_
   refine ol_gskip rfl rfl rfl rfl rfl rfl ?_
   refine ol_val (v := .bool true) (xr_pickT rfl rfl rfl rfl) rfl rfl rfl ?_
   refine ol_val (v := .bool true) (xr_move rfl rfl) rfl rfl rfl ?_
   refine ol_gskip rfl rfl rfl rfl rfl rfl ?_
   refine ol_gskip rfl rfl rfl rfl rfl rfl ?_
   refine ol_gskip rfl rfl rfl rfl rfl rfl ?_
   refine ol_gskip rfl rfl rfl rfl rfl rfl ?_
   refine ol_val (v := .bool true) (xr_pickT rfl rfl rfl rfl) rfl rfl rfl ?_
   refine ol_val (v := .bool true) (xr_move rfl rfl) rfl rfl rfl ?_
   refine ol_gskip rfl rfl rfl rfl rfl rfl ?_
   refine ol_gskip rfl rfl rfl rfl rfl rfl ?_
   refine ol_gskip rfl rfl rfl rfl rfl rfl ?_
   refine ol_gskip rfl rfl rfl rfl rfl rfl ?_
   refine ol_gskip rfl rfl rfl rfl rfl rfl ?_
   refine ol_gskip rfl rfl rfl rfl rfl rfl ?_
   refine ol_gskip rfl rfl rfl rfl rfl rfl ?_
   refine ol_val (v := .bool true) (xr_pickT rfl rfl rfl rfl) rfl rfl rfl ?_
   refine ol_nil ?_
   obtain rfl := Option.some.inj j8
   refine thn_i ?_
   exact ⟨rfl, rfl, Fr.refl _ _⟩
  refine ol_gval (v := (pt G1 0)) (xr_fieldAddr (p := 0) (q := 0) rfl fl110_0 rfl) rfl rfl rfl rfl rfl c9 ?_
  refine ol_gval (v := .int .i64 a0.Epoch) (xr_load1 (v := .int .i64 a0.Epoch) rfl ag3 rfl (b2.seg 0 rfl rfl)) rfl rfl rfl rfl rfl c9 ?_
  refine ol_gval (v := .bool (decide (a0.Epoch > 4611686018427387904))) (xr_gtr rfl rfl rfl) rfl rfl rfl rfl rfl c9 ?_
  refine ol_val (v := .bool (decide (a0.Epoch > 4611686018427387904))) (xr_pickF rfl rfl c9 rfl) rfl rfl rfl ?_
  refine ol_val (v := .bool (decide (a0.Epoch > 4611686018427387904))) (xr_move rfl rfl) rfl rfl rfl ?_
  rcases is j8 with ⟨c10, j8⟩ | ⟨c10, j8⟩
  ·skip
   refine ol_gskip rfl rfl rfl rfl rfl c10 ?_
   refine ol_gskip rfl rfl rfl rfl rfl c10 ?_
   refine ol_gskip rfl rfl rfl rfl rfl c10 ?_
   refine ol_gskip rfl rfl rfl rfl rfl c10 ?_
   refine ol_gskip rfl rfl rfl rfl rfl c10 ?_
   refine ol_val (v := .bool true) (xr_pickT rfl rfl c10 rfl) rfl rfl rfl ?_
   refine ol_val (v := .bool true) (xr_move rfl rfl) rfl rfl rfl ?_
   refine ol_gskip rfl rfl rfl rfl rfl rfl ?_
   refine ol_gskip rfl rfl rfl rfl rfl rfl ?_
   refine ol_gskip rfl rfl rfl rfl rfl rfl ?_
   refine ol_gskip rfl rfl rfl rfl rfl rfl ?_
   refine ol_val (v := .bool true) (xr_pickT rfl rfl rfl rfl) rfl rfl rfl ?_
   refine ol_val (v := .bool true) (xr_move rfl rfl) rfl rfl rfl ?_
   refine ol_gskip rfl rfl rfl rfl rfl rfl ?_
   refine ol_gskip rfl rfl rfl rfl rfl rfl ?_
   refine ol_gskip rfl rfl rfl rfl rfl rfl ?_
   refine ol_gskip rfl rfl rfl rfl rfl rfl ?_
   refine ol_gskip rfl rfl rfl rfl rfl rfl ?_
   refine ol_gskip rfl rfl rfl rfl rfl rfl ?_
   refine ol_gskip rfl rfl rfl rfl rfl rfl ?_
   refine ol_gskip rfl rfl rfl rfl rfl rfl ?_
   refine ol_val (v := .bool true) (xr_pickT rfl rfl rfl rfl) rfl rfl rfl ?_
   refine ol_val (v := .bool true) (xr_move rfl rfl) rfl rfl rfl ?_
   refine ol_gskip rfl rfl rfl rfl rfl rfl ?_
   refine ol_gskip rfl rfl rfl rfl rfl rfl ?_
   refine ol_gskip rfl rfl rfl rfl rfl rfl ?_
   refine ol_gskip rfl rfl rfl rfl rfl rfl ?_
   refine ol_val (v := .bool true) (xr_pickT rfl rfl rfl rfl) rfl rfl rfl ?_
   refine ol_val (v := .bool true) (xr_move rfl rfl) rfl rfl rfl ?_
   refine ol_gskip rfl rfl rfl rfl rfl rfl ?_
   refine ol_gskip rfl rfl rfl rfl rfl rfl ?_
   refine ol_gskip rfl rfl rfl rfl rfl rfl ?_
   refine ol_gskip rfl rfl rfl rfl rfl rfl ?_
   refine ol_gskip rfl rfl rfl rfl rfl rfl ?_
   refine ol_gskip rfl rfl rfl rfl rfl rfl ?_
   refine ol_gskip rfl rfl rfl rfl rfl rfl ?_
   refine ol_val (v := .bool true) (xr_pickT rfl rfl rfl rfl) rfl rfl rfl ?_
   refine ol_nil ?_
   obtain rfl := Option.some.inj j8
   refine thn_i ?_
   exact ⟨rfl, rfl, Fr.refl _ _⟩
  refine ol_gval (v := (pt G1 1)) (xr_fieldAddr (p := 0) (q := 1) rfl fl110_1 rfl) rfl rfl rfl rfl rfl c10 ?_
  refine ol_gval (v := (pt G1 1)) (xr_fieldAddr (p := 1) (q := 0) rfl fl108_0 rfl) rfl rfl rfl rfl rfl c10 ?_
  refine ol_gval (v := aggV [(sI a0.Tickets.Geometry.Blocks), (sI a0.Tickets.Geometry.Slots), (sI a0.Tickets.Geometry.Gens)]) (xr_loadS (ss := [(sI a0.Tickets.Geometry.Blocks), (sI a0.Tickets.Geometry.Slots), (sI a0.Tickets.Geometry.Gens)]) rfl ag106 sz106 rfl rfl (b2.segs 1 3 rfl)) rfl rfl rfl rfl rfl c10 ?_
  obtain ⟨t11, k12, j8⟩ := bs j8
  refine ol_gop (opv_call rfl cal143 (ac rfl an) (geom_Right.ok fu _ a0.Tickets.Geometry _ k12)) rfl rfl rfl rfl rfl c10 ?_
  rintro _ w14 ⟨rfl, q13⟩
  have b2 := b2.gr q13
  have fB := fB.gr q13
  refine ol_gval (v := .bool (!t11)) (xr_not rfl rfl) rfl rfl rfl rfl rfl c10 ?_
  refine ol_val (v := .bool (!t11)) (xr_pickF rfl rfl c10 rfl) rfl rfl rfl ?_
  refine ol_val (v := .bool (!t11)) (xr_move rfl rfl) rfl rfl rfl ?_
  rcases is j8 with ⟨c15, j8⟩ | ⟨c15, j8⟩
  ·skip
   refine ol_gskip rfl rfl rfl rfl rfl c15 ?_
   refine ol_gskip rfl rfl rfl rfl rfl c15 ?_
   refine ol_gskip rfl rfl rfl rfl rfl c15 ?_
   refine ol_gskip rfl rfl rfl rfl rfl c15 ?_
   refine ol_val (v := .bool true) (xr_pickT rfl rfl c15 rfl) rfl rfl rfl ?_
   refine ol_val (v := .bool true) (xr_move rfl rfl) rfl rfl rfl ?_
   refine ol_gskip rfl rfl rfl rfl rfl rfl ?_
   refine ol_gskip rfl rfl rfl rfl rfl rfl ?_
   refine ol_gskip rfl rfl rfl rfl rfl rfl ?_
   refine ol_gskip rfl rfl rfl rfl rfl rfl ?_
   refine ol_gskip rfl rfl rfl rfl rfl rfl ?_
   refine ol_gskip rfl rfl rfl rfl rfl rfl ?_
   refine ol_gskip rfl rfl rfl rfl rfl rfl ?_
   refine ol_gskip rfl rfl rfl rfl rfl rfl ?_
   refine ol_val (v := .bool true) (xr_pickT rfl rfl rfl rfl) rfl rfl rfl ?_
   refine ol_val (v := .bool true) (xr_move rfl rfl) rfl rfl rfl ?_
   refine ol_gskip rfl rfl rfl rfl rfl rfl ?_
   refine ol_gskip rfl rfl rfl rfl rfl rfl ?_
   refine ol_gskip rfl rfl rfl rfl rfl rfl ?_
   refine ol_gskip rfl rfl rfl rfl rfl rfl ?_
   refine ol_val (v := .bool true) (xr_pickT rfl rfl rfl rfl) rfl rfl rfl ?_
   refine ol_val (v := .bool true) (xr_move rfl rfl) rfl rfl rfl ?_
   refine ol_gskip rfl rfl rfl rfl rfl rfl ?_
   refine ol_gskip rfl rfl rfl rfl rfl rfl ?_
   refine ol_gskip rfl rfl rfl rfl rfl rfl ?_
   refine ol_gskip rfl rfl rfl rfl rfl rfl ?_
   refine ol_gskip rfl rfl rfl rfl rfl rfl ?_
   refine ol_gskip rfl rfl rfl rfl rfl rfl ?_
   refine ol_gskip rfl rfl rfl rfl rfl rfl ?_
   refine ol_val (v := .bool true) (xr_pickT rfl rfl rfl rfl) rfl rfl rfl ?_
   refine ol_nil ?_
   obtain rfl := Option.some.inj j8
   refine thn_i ?_
   exact ⟨rfl, rfl, q13⟩
  refine ol_gval (v := (pt G1 1)) (xr_fieldAddr (p := 0) (q := 1) rfl fl110_1 rfl) rfl rfl rfl rfl rfl c15 ?_
  refine ol_gval (v := (pt G1 5)) (xr_fieldAddr (p := 1) (q := 4) rfl fl108_2 rfl) rfl rfl rfl rfl rfl c15 ?_
  refine ol_gval (v := .int .i64 a0.Tickets.High) (xr_load1 (v := .int .i64 a0.Tickets.High) rfl ag3 rfl (b2.seg 5 rfl rfl)) rfl rfl rfl rfl rfl c15 ?_
  refine ol_gval (v := .bool (decide (a0.Tickets.High < 0))) (xr_lss rfl rfl rfl) rfl rfl rfl rfl rfl c15 ?_
  refine ol_val (v := .bool (decide (a0.Tickets.High < 0))) (xr_pickF rfl rfl c15 rfl) rfl rfl rfl ?_
  refine ol_val (v := .bool (decide (a0.Tickets.High < 0))) (xr_move rfl rfl) rfl rfl rfl ?_
  rcases is j8 with ⟨c16, j8⟩ | ⟨c16, j8⟩
  ·skip
   refine ol_gskip rfl rfl rfl rfl rfl c16 ?_
   refine ol_gskip rfl rfl rfl rfl rfl c16 ?_
   refine ol_gskip rfl rfl rfl rfl rfl c16 ?_
   refine ol_gskip rfl rfl rfl rfl rfl c16 ?_
   refine ol_gskip rfl rfl rfl rfl rfl c16 ?_
   refine ol_gskip rfl rfl rfl rfl rfl c16 ?_
   refine ol_gskip rfl rfl rfl rfl rfl c16 ?_
   refine ol_gskip rfl rfl rfl rfl rfl c16 ?_
   refine ol_val (v := .bool true) (xr_pickT rfl rfl c16 rfl) rfl rfl rfl ?_
   refine ol_val (v := .bool true) (xr_move rfl rfl) rfl rfl rfl ?_
   refine ol_gskip rfl rfl rfl rfl rfl rfl ?_
   refine ol_gskip rfl rfl rfl rfl rfl rfl ?_
   refine ol_gskip rfl rfl rfl rfl rfl rfl ?_
   refine ol_gskip rfl rfl rfl rfl rfl rfl ?_
   refine ol_val (v := .bool true) (xr_pickT rfl rfl rfl rfl) rfl rfl rfl ?_
   refine ol_val (v := .bool true) (xr_move rfl rfl) rfl rfl rfl ?_
   refine ol_gskip rfl rfl rfl rfl rfl rfl ?_
   refine ol_gskip rfl rfl rfl rfl rfl rfl ?_
   refine ol_gskip rfl rfl rfl rfl rfl rfl ?_
   refine ol_gskip rfl rfl rfl rfl rfl rfl ?_
   refine ol_gskip rfl rfl rfl rfl rfl rfl ?_
   refine ol_gskip rfl rfl rfl rfl rfl rfl ?_
   refine ol_gskip rfl rfl rfl rfl rfl rfl ?_
   refine ol_val (v := .bool true) (xr_pickT rfl rfl rfl rfl) rfl rfl rfl ?_
   refine ol_nil ?_
   obtain rfl := Option.some.inj j8
   refine thn_i ?_
   exact ⟨rfl, rfl, q13⟩
  refine ol_gval (v := (pt G1 1)) (xr_fieldAddr (p := 0) (q := 1) rfl fl110_1 rfl) rfl rfl rfl rfl rfl c16 ?_
  refine ol_gval (v := (pt G1 5)) (xr_fieldAddr (p := 1) (q := 4) rfl fl108_2 rfl) rfl rfl rfl rfl rfl c16 ?_
  refine ol_gval (v := .int .i64 a0.Tickets.High) (xr_load1 (v := .int .i64 a0.Tickets.High) rfl ag3 rfl (b2.seg 5 rfl rfl)) rfl rfl rfl rfl rfl c16 ?_
  refine ol_gval (v := (pt G1 1)) (xr_fieldAddr (p := 0) (q := 1) rfl fl110_1 rfl) rfl rfl rfl rfl rfl c16 ?_
  refine ol_gval (v := (pt G1 1)) (xr_fieldAddr (p := 1) (q := 0) rfl fl108_0 rfl) rfl rfl rfl rfl rfl c16 ?_
  refine ol_gval (v := (pt G1 2)) (xr_fieldAddr (p := 1) (q := 1) rfl fl106_1 rfl) rfl rfl rfl rfl rfl c16 ?_
  refine ol_gval (v := .int .i64 a0.Tickets.Geometry.Slots) (xr_load1 (v := .int .i64 a0.Tickets.Geometry.Slots) rfl ag3 rfl (b2.seg 2 rfl rfl)) rfl rfl rfl rfl rfl c16 ?_
  refine ol_gval (v := .bool (decide (a0.Tickets.High > a0.Tickets.Geometry.Slots))) (xr_gtr rfl rfl rfl) rfl rfl rfl rfl rfl c16 ?_
  refine ol_val (v := .bool (decide (a0.Tickets.High > a0.Tickets.Geometry.Slots))) (xr_pickF rfl rfl c16 rfl) rfl rfl rfl ?_
  refine ol_val (v := .bool (decide (a0.Tickets.High > a0.Tickets.Geometry.Slots))) (xr_move rfl rfl) rfl rfl rfl ?_
  rcases is j8 with ⟨c17, j8⟩ | ⟨c17, j8⟩
  ·skip
   refine ol_gskip rfl rfl rfl rfl rfl c17 ?_
   refine ol_gskip rfl rfl rfl rfl rfl c17 ?_
   refine ol_gskip rfl rfl rfl rfl rfl c17 ?_
   refine ol_gskip rfl rfl rfl rfl rfl c17 ?_
   refine ol_val (v := .bool true) (xr_pickT rfl rfl c17 rfl) rfl rfl rfl ?_
   refine ol_val (v := .bool true) (xr_move rfl rfl) rfl rfl rfl ?_
   refine ol_gskip rfl rfl rfl rfl rfl rfl ?_
   refine ol_gskip rfl rfl rfl rfl rfl rfl ?_
   refine ol_gskip rfl rfl rfl rfl rfl rfl ?_
   refine ol_gskip rfl rfl rfl rfl rfl rfl ?_
   refine ol_gskip rfl rfl rfl rfl rfl rfl ?_
   refine ol_gskip rfl rfl rfl rfl rfl rfl ?_
   refine ol_gskip rfl rfl rfl rfl rfl rfl ?_
   refine ol_val (v := .bool true) (xr_pickT rfl rfl rfl rfl) rfl rfl rfl ?_
   refine ol_nil ?_
   obtain rfl := Option.some.inj j8
   refine thn_i ?_
   exact ⟨rfl, rfl, q13⟩
  refine ol_gval (v := (pt G1 1)) (xr_fieldAddr (p := 0) (q := 1) rfl fl110_1 rfl) rfl rfl rfl rfl rfl c17 ?_
  refine ol_gval (v := (pt G1 6)) (xr_fieldAddr (p := 1) (q := 5) rfl fl108_3 rfl) rfl rfl rfl rfl rfl c17 ?_
  refine ol_gval (v := .int .i64 a0.Tickets.Free) (xr_load1 (v := .int .i64 a0.Tickets.Free) rfl ag3 rfl (b2.seg 6 rfl rfl)) rfl rfl rfl rfl rfl c17 ?_
  refine ol_gval (v := .bool (decide (a0.Tickets.Free < 0))) (xr_lss rfl rfl rfl) rfl rfl rfl rfl rfl c17 ?_
  refine ol_val (v := .bool (decide (a0.Tickets.Free < 0))) (xr_pickF rfl rfl c17 rfl) rfl rfl rfl ?_
  refine ol_val (v := .bool (decide (a0.Tickets.Free < 0))) (xr_move rfl rfl) rfl rfl rfl ?_
  rcases is j8 with ⟨c18, j8⟩ | ⟨c18, j8⟩
  ·skip
   refine ol_gskip rfl rfl rfl rfl rfl c18 ?_
   refine ol_gskip rfl rfl rfl rfl rfl c18 ?_
   refine ol_gskip rfl rfl rfl rfl rfl c18 ?_
   refine ol_gskip rfl rfl rfl rfl rfl c18 ?_
   refine ol_gskip rfl rfl rfl rfl rfl c18 ?_
   refine ol_gskip rfl rfl rfl rfl rfl c18 ?_
   refine ol_gskip rfl rfl rfl rfl rfl c18 ?_
   refine ol_val (v := .bool true) (xr_pickT rfl rfl c18 rfl) rfl rfl rfl ?_
   refine ol_nil ?_
   obtain rfl := Option.some.inj j8
   refine thn_i ?_
   exact ⟨rfl, rfl, q13⟩
  refine ol_gval (v := (pt G1 1)) (xr_fieldAddr (p := 0) (q := 1) rfl fl110_1 rfl) rfl rfl rfl rfl rfl c18 ?_
  refine ol_gval (v := (pt G1 6)) (xr_fieldAddr (p := 1) (q := 5) rfl fl108_3 rfl) rfl rfl rfl rfl rfl c18 ?_
  refine ol_gval (v := .int .i64 a0.Tickets.Free) (xr_load1 (v := .int .i64 a0.Tickets.Free) rfl ag3 rfl (b2.seg 6 rfl rfl)) rfl rfl rfl rfl rfl c18 ?_
  refine ol_gval (v := (pt G1 1)) (xr_fieldAddr (p := 0) (q := 1) rfl fl110_1 rfl) rfl rfl rfl rfl rfl c18 ?_
  refine ol_gval (v := (pt G1 5)) (xr_fieldAddr (p := 1) (q := 4) rfl fl108_2 rfl) rfl rfl rfl rfl rfl c18 ?_
  refine ol_gval (v := .int .i64 a0.Tickets.High) (xr_load1 (v := .int .i64 a0.Tickets.High) rfl ag3 rfl (b2.seg 5 rfl rfl)) rfl rfl rfl rfl rfl c18 ?_
  refine ol_gval (v := .bool (decide (a0.Tickets.Free > a0.Tickets.High))) (xr_gtr rfl rfl rfl) rfl rfl rfl rfl rfl c18 ?_
  refine ol_val (v := .bool (decide (a0.Tickets.Free > a0.Tickets.High))) (xr_pickF rfl rfl c18 rfl) rfl rfl rfl ?_
  refine ol_nil ?_
  obtain rfl := Option.some.inj j8
  refine thn_i ?_
  exact ⟨rfl, rfl, q13⟩
 rintro ρ19 w20 ⟨e1, e51, q21⟩
 have b2 := b2.gr q21
 have fB := fB.gr q21
 rcases is h with ⟨c22, h⟩ | ⟨c22, h⟩
 ·refine cw_condT e51 c22 ?_
  refine cw_seq ?_
  refine cw_region ?_
  refine ol_val (v := .bool false) (xr_assign rfl rfl) rfl rfl rfl ?_
  refine ol_nil ?_
  refine cw_ret ?_
  repeat (first | with_reducible refine thn_r ?_ | with_reducible refine blk_r ?_)
  obtain rfl := Option.some.inj h
  refine fin_ret1 Try.results132 rfl ?_
  exact ⟨_, rfl, rfl, fB⟩
 refine cw_condF e51 c22 ?_
 refine cw_skip ?_
 refine cw_seq ?_
 refine cw_region ?_
 refine ol_val (v := Value.func (.func 144) #[] #[(pt G1 0)]) (xr_makeFunc rfl (ac e1 an)) rfl rfl rfl ?_
 refine ol_val (v := Value.func (.func 144) #[] #[(pt G1 0)]) (xr_assign rfl rfl) rfl rfl rfl ?_
 refine ol_nil ?_
 refine cw_seq ?_
 refine cw_seq ?_
 obtain ⟨x23, j24, h⟩ := bs h
 refine cw_mid (fun ρ' w' => ρ' 1 = (pt G1 0) ∧ ρ' 3 = Value.func (.func 144) #[] #[(pt G1 0)] ∧ ρ' 98 = .bool x23 ∧ Gr w20 w') ?_ ?_
 ·skip
  rcases is j24 with ⟨c25, j24⟩ | ⟨c25, j24⟩
  ·skip
   rcases is j24 with ⟨c26, j24⟩ | ⟨c26, j24⟩
   ·skip
    refine cw_drawL 45 [fun vz wz => vz = ((pt G1 1) : Value), fun vz wz => vz = ((pt G1 5) : Value), fun vz wz => vz = (.int .i64 a0.Tickets.High : Value), fun vz wz => vz = (.bool (decide (a0.Tickets.High = 0)) : Value), fun vz wz => vz = (.bool (decide (a0.Tickets.High = 0)) : Value), fun vz wz => vz = ((pt G1 1) : Value), fun vz wz => vz = ((pt G1 4) : Value), fun vz wz => vz = (.int .i64 a0.Tickets.Top : Value), fun vz wz => vz = (.bool (!decide (a0.Tickets.Top = 0)) : Value), fun vz wz => vz = (.bool (!decide (a0.Tickets.Top = 0)) : Value), fun vz wz => vz = (.bool (!decide (a0.Tickets.Top = 0)) : Value), fun vz _ => vz = undef, fun vz _ => vz = undef, fun vz _ => vz = undef, fun vz _ => vz = undef, fun vz _ => vz = undef, fun vz _ => vz = undef, fun vz _ => vz = undef, fun vz _ => vz = undef, fun vz _ => vz = undef, fun vz _ => vz = undef, fun vz _ => vz = undef, fun vz _ => vz = undef, fun vz wz => vz = (.bool true : Value), fun vz wz => vz = (.bool true : Value), fun vz _ => vz = undef, fun vz _ => vz = undef, fun vz _ => vz = undef, fun vz _ => vz = undef, fun vz _ => vz = undef, fun vz _ => vz = undef, fun vz _ => vz = undef, fun vz _ => vz = undef, fun vz _ => vz = undef, fun vz _ => vz = undef, fun vz wz => vz = (.bool true : Value), fun vz wz => vz = (.bool true : Value), fun vz _ => vz = undef, fun vz _ => vz = undef, fun vz _ => vz = undef, fun vz _ => vz = undef, fun vz _ => vz = undef, fun vz _ => vz = undef, fun vz _ => vz = undef, fun vz _ => vz = undef] mo rfl ⟨fun _ _ _ h _ => h, fun _ _ _ h _ => h, fun _ _ _ h _ => h, fun _ _ _ h _ => h, fun _ _ _ h _ => h, fun _ _ _ h _ => h, fun _ _ _ h _ => h, fun _ _ _ h _ => h, fun _ _ _ h _ => h, fun _ _ _ h _ => h, fun _ _ _ h _ => h, fun _ _ _ h _ => h, fun _ _ _ h _ => h, fun _ _ _ h _ => h, fun _ _ _ h _ => h, fun _ _ _ h _ => h, fun _ _ _ h _ => h, fun _ _ _ h _ => h, fun _ _ _ h _ => h, fun _ _ _ h _ => h, fun _ _ _ h _ => h, fun _ _ _ h _ => h, fun _ _ _ h _ => h, fun _ _ _ h _ => h, fun _ _ _ h _ => h, fun _ _ _ h _ => h, fun _ _ _ h _ => h, fun _ _ _ h _ => h, fun _ _ _ h _ => h, fun _ _ _ h _ => h, fun _ _ _ h _ => h, fun _ _ _ h _ => h, fun _ _ _ h _ => h, fun _ _ _ h _ => h, fun _ _ _ h _ => h, fun _ _ _ h _ => h, fun _ _ _ h _ => h, fun _ _ _ h _ => h, fun _ _ _ h _ => h, fun _ _ _ h _ => h, fun _ _ _ h _ => h, fun _ _ _ h _ => h, fun _ _ _ h _ => h, fun _ _ _ h _ => h, fun _ _ _ h _ => h, trivial⟩ ?_ ?_
    ·refine ⟨?_, ?_, ?_, ?_, ?_, ?_, ?_, ?_, ?_, ?_, ?_, ?_, ?_, ?_, ?_, ?_, ?_, ?_, ?_, ?_, ?_, ?_, ?_, ?_, ?_, ?_, ?_, ?_, ?_, ?_, ?_, ?_, ?_, ?_, ?_, ?_, ?_, ?_, ?_, ?_, ?_, ?_, ?_, ?_, ?_, trivial⟩
     ·intro ρz wz hz hk hd
      exact sk_val (v := (pt G1 1)) (xr_fieldAddr (p := 0) (q := 1) rfl fl110_1 ((hk 1 rfl).trans e1)) rfl rfl
     ·intro ρz wz hz hk hd
      exact sk_val (v := (pt G1 5)) (xr_fieldAddr (p := 1) (q := 4) rfl fl108_2 (hd 0 rfl 53 rfl)) rfl rfl
     ·intro ρz wz hz hk hd
      exact sk_val (v := .int .i64 a0.Tickets.High) (xr_load1 (v := .int .i64 a0.Tickets.High) rfl ag3 (hd 1 rfl 54 rfl) ((b2.gr hz).seg 5 rfl rfl)) rfl rfl
     ·intro ρz wz hz hk hd
      exact sk_val (v := .bool (decide (a0.Tickets.High = 0))) (xr_eqI rfl Try.underlying3 rfl (hd 2 rfl 55 rfl) rfl) rfl rfl
     ·intro ρz wz hz hk hd
      exact sk_val (v := .bool (decide (a0.Tickets.High = 0))) (xr_move rfl (hd 3 rfl 56 rfl)) rfl rfl
     ·intro ρz wz hz hk hd
      exact sk_gval (v := (pt G1 1)) (xr_fieldAddr (p := 0) (q := 1) rfl fl110_1 ((hk 1 rfl).trans e1)) rfl rfl (hd 4 rfl 57 rfl) c25 rfl
     ·intro ρz wz hz hk hd
      exact sk_gval (v := (pt G1 4)) (xr_fieldAddr (p := 1) (q := 3) rfl fl108_1 (hd 5 rfl 58 rfl)) rfl rfl (hd 4 rfl 57 rfl) c25 rfl
     ·intro ρz wz hz hk hd
      exact sk_gval (v := .int .i64 a0.Tickets.Top) (xr_load1 (v := .int .i64 a0.Tickets.Top) rfl ag3 (hd 6 rfl 59 rfl) ((b2.gr hz).seg 4 rfl rfl)) rfl rfl (hd 4 rfl 57 rfl) c25 rfl
     ·intro ρz wz hz hk hd
      exact sk_gval (v := .bool (!decide (a0.Tickets.Top = 0))) (xr_neI rfl Try.underlying3 rfl (hd 7 rfl 60 rfl) rfl) rfl rfl (hd 4 rfl 57 rfl) c25 rfl
     ·intro ρz wz hz hk hd
      exact sk_val (v := .bool (!decide (a0.Tickets.Top = 0))) (xr_pickT rfl (hd 4 rfl 57 rfl) c25 (hd 8 rfl 61 rfl)) rfl rfl
     ·intro ρz wz hz hk hd
      exact sk_val (v := .bool (!decide (a0.Tickets.Top = 0))) (xr_move rfl (hd 9 rfl 62 rfl)) rfl rfl
     ·intro ρz wz hz hk hd
      exact sk_skip rfl rfl (hd 10 rfl 63 rfl) c26 rfl
     ·intro ρz wz hz hk hd
      exact sk_skip rfl rfl (hd 10 rfl 63 rfl) c26 rfl
     ·intro ρz wz hz hk hd
      exact sk_skip rfl rfl (hd 10 rfl 63 rfl) c26 rfl
     ·intro ρz wz hz hk hd
      exact sk_skip rfl rfl (hd 10 rfl 63 rfl) c26 rfl
     ·intro ρz wz hz hk hd
      exact sk_skip rfl rfl (hd 10 rfl 63 rfl) c26 rfl
     ·intro ρz wz hz hk hd
      exact sk_uskip rfl rfl (hd 15 rfl 68 rfl) rfl
     ·intro ρz wz hz hk hd
      exact sk_uskip rfl rfl (hd 15 rfl 68 rfl) rfl
     ·intro ρz wz hz hk hd
      exact sk_uskip rfl rfl (hd 15 rfl 68 rfl) rfl
     ·intro ρz wz hz hk hd
      exact sk_uskip rfl rfl (hd 15 rfl 68 rfl) rfl
     ·intro ρz wz hz hk hd
      exact sk_uskip rfl rfl (hd 15 rfl 68 rfl) rfl
     ·intro ρz wz hz hk hd
      exact sk_uskip rfl rfl (hd 15 rfl 68 rfl) rfl
     ·intro ρz wz hz hk hd
      exact sk_skip rfl rfl (hd 10 rfl 63 rfl) c26 rfl
     ·intro ρz wz hz hk hd
      exact sk_val (v := .bool true) (xr_pickT rfl (hd 10 rfl 63 rfl) c26 rfl) rfl rfl
     ·intro ρz wz hz hk hd
      exact sk_val (v := .bool true) (xr_move rfl (hd 23 rfl 76 rfl)) rfl rfl
     ·intro ρz wz hz hk hd
      exact sk_skip rfl rfl (hd 24 rfl 77 rfl) rfl rfl
     ·intro ρz wz hz hk hd
      exact sk_skip rfl rfl (hd 24 rfl 77 rfl) rfl rfl
     ·intro ρz wz hz hk hd
      exact sk_skip rfl rfl (hd 24 rfl 77 rfl) rfl rfl
     ·intro ρz wz hz hk hd
      exact sk_skip rfl rfl (hd 24 rfl 77 rfl) rfl rfl
     ·intro ρz wz hz hk hd
      exact sk_uskip rfl rfl (hd 28 rfl 81 rfl) rfl
     ·intro ρz wz hz hk hd
      exact sk_uskip rfl rfl (hd 28 rfl 81 rfl) rfl
     ·intro ρz wz hz hk hd
      exact sk_uskip rfl rfl (hd 28 rfl 81 rfl) rfl
     ·intro ρz wz hz hk hd
      exact sk_uskip rfl rfl (hd 28 rfl 81 rfl) rfl
     ·intro ρz wz hz hk hd
      exact sk_uskip rfl rfl (hd 28 rfl 81 rfl) rfl
     ·intro ρz wz hz hk hd
      exact sk_skip rfl rfl (hd 24 rfl 77 rfl) rfl rfl
     ·intro ρz wz hz hk hd
      exact sk_val (v := .bool true) (xr_pickT rfl (hd 24 rfl 77 rfl) rfl rfl) rfl rfl
     ·intro ρz wz hz hk hd
      exact sk_val (v := .bool true) (xr_move rfl (hd 35 rfl 88 rfl)) rfl rfl
     ·intro ρz wz hz hk hd
      exact sk_skip rfl rfl (hd 36 rfl 89 rfl) rfl rfl
     ·intro ρz wz hz hk hd
      exact sk_skip rfl rfl (hd 36 rfl 89 rfl) rfl rfl
     ·intro ρz wz hz hk hd
      exact sk_skip rfl rfl (hd 36 rfl 89 rfl) rfl rfl
     ·intro ρz wz hz hk hd
      exact sk_skip rfl rfl (hd 36 rfl 89 rfl) rfl rfl
     ·intro ρz wz hz hk hd
      exact sk_skip rfl rfl (hd 36 rfl 89 rfl) rfl rfl
     ·intro ρz wz hz hk hd
      exact sk_skip rfl rfl (hd 36 rfl 89 rfl) rfl rfl
     ·intro ρz wz hz hk hd
      exact sk_skip rfl rfl (hd 36 rfl 89 rfl) rfl rfl
     intro ρz wz hz hk hd
     exact sk_skip rfl rfl (hd 36 rfl 89 rfl) rfl rfl
    intro ρ27 w28 q29 hk hd
    have e1 := (hk 1 rfl).trans e1
    have e3 := (hk 3 rfl).trans rfl
    have e89 := hd 36 rfl 89 rfl
    have b2 := b2.gr q29
    have fB := fB.gr q29
    refine ol_val (v := .bool true) (xr_pickT rfl e89 rfl rfl) rfl rfl rfl ?_
    refine ol_nil ?_
    obtain rfl := Option.some.inj j24
    refine thn_i ?_
    exact ⟨e1, e3, rfl, q29⟩
   rcases is j24 with ⟨c30, j24⟩ | ⟨c30, j24⟩
   ·skip
    obtain ⟨t31, k32, j24⟩ := bs j24
    rcases is j24 with ⟨c34, j24⟩ | ⟨c34, j24⟩
    ·skip
     refine cw_drawL 45 [fun vz wz => vz = ((pt G1 1) : Value), fun vz wz => vz = ((pt G1 5) : Value), fun vz wz => vz = (.int .i64 a0.Tickets.High : Value), fun vz wz => vz = (.bool (decide (a0.Tickets.High = 0)) : Value), fun vz wz => vz = (.bool (decide (a0.Tickets.High = 0)) : Value), fun vz wz => vz = ((pt G1 1) : Value), fun vz wz => vz = ((pt G1 4) : Value), fun vz wz => vz = (.int .i64 a0.Tickets.Top : Value), fun vz wz => vz = (.bool (!decide (a0.Tickets.Top = 0)) : Value), fun vz wz => vz = (.bool (!decide (a0.Tickets.Top = 0)) : Value), fun vz wz => vz = (.bool (!decide (a0.Tickets.Top = 0)) : Value), fun vz wz => vz = ((pt G1 1) : Value), fun vz wz => vz = ((pt G1 5) : Value), fun vz wz => vz = (.int .i64 a0.Tickets.High : Value), fun vz wz => vz = (.bool (decide (a0.Tickets.High > 0)) : Value), fun vz wz => vz = (.bool (decide (a0.Tickets.High > 0)) : Value), fun vz wz => vz = (Value.func (.func 144) #[] #[(pt G1 0)] : Value), fun vz wz => vz = ((pt G1 1) : Value), fun vz wz => vz = ((pt G1 4) : Value), fun vz wz => vz = (.int .i64 a0.Tickets.Top : Value), fun vz wz => vz = (.bool t31 : Value), fun vz wz => vz = (.bool (!t31) : Value), fun vz wz => vz = (.bool (!t31) : Value), fun vz wz => vz = (.bool (!t31) : Value), fun vz wz => vz = (.bool (!t31) : Value), fun vz _ => vz = undef, fun vz _ => vz = undef, fun vz _ => vz = undef, fun vz _ => vz = undef, fun vz _ => vz = undef, fun vz _ => vz = undef, fun vz _ => vz = undef, fun vz _ => vz = undef, fun vz _ => vz = undef, fun vz _ => vz = undef, fun vz wz => vz = (.bool true : Value), fun vz wz => vz = (.bool true : Value), fun vz _ => vz = undef, fun vz _ => vz = undef, fun vz _ => vz = undef, fun vz _ => vz = undef, fun vz _ => vz = undef, fun vz _ => vz = undef, fun vz _ => vz = undef, fun vz _ => vz = undef] mo rfl ⟨fun _ _ _ h _ => h, fun _ _ _ h _ => h, fun _ _ _ h _ => h, fun _ _ _ h _ => h, fun _ _ _ h _ => h, fun _ _ _ h _ => h, fun _ _ _ h _ => h, fun _ _ _ h _ => h, fun _ _ _ h _ => h, fun _ _ _ h _ => h, fun _ _ _ h _ => h, fun _ _ _ h _ => h, fun _ _ _ h _ => h, fun _ _ _ h _ => h, fun _ _ _ h _ => h, fun _ _ _ h _ => h, fun _ _ _ h _ => h, fun _ _ _ h _ => h, fun _ _ _ h _ => h, fun _ _ _ h _ => h, fun _ _ _ h _ => h, fun _ _ _ h _ => h, fun _ _ _ h _ => h, fun _ _ _ h _ => h, fun _ _ _ h _ => h, fun _ _ _ h _ => h, fun _ _ _ h _ => h, fun _ _ _ h _ => h, fun _ _ _ h _ => h, fun _ _ _ h _ => h, fun _ _ _ h _ => h, fun _ _ _ h _ => h, fun _ _ _ h _ => h, fun _ _ _ h _ => h, fun _ _ _ h _ => h, fun _ _ _ h _ => h, fun _ _ _ h _ => h, fun _ _ _ h _ => h, fun _ _ _ h _ => h, fun _ _ _ h _ => h, fun _ _ _ h _ => h, fun _ _ _ h _ => h, fun _ _ _ h _ => h, fun _ _ _ h _ => h, fun _ _ _ h _ => h, trivial⟩ ?_ ?_
     ·refine ⟨?_, ?_, ?_, ?_, ?_, ?_, ?_, ?_, ?_, ?_, ?_, ?_, ?_, ?_, ?_, ?_, ?_, ?_, ?_, ?_, ?_, ?_, ?_, ?_, ?_, ?_, ?_, ?_, ?_, ?_, ?_, ?_, ?_, ?_, ?_, ?_, ?_, ?_, ?_, ?_, ?_, ?_, ?_, ?_, ?_, trivial⟩
      ·intro ρz wz hz hk hd
       exact sk_val (v := (pt G1 1)) (xr_fieldAddr (p := 0) (q := 1) rfl fl110_1 ((hk 1 rfl).trans e1)) rfl rfl
      ·intro ρz wz hz hk hd
       exact sk_val (v := (pt G1 5)) (xr_fieldAddr (p := 1) (q := 4) rfl fl108_2 (hd 0 rfl 53 rfl)) rfl rfl
      ·intro ρz wz hz hk hd
       exact sk_val (v := .int .i64 a0.Tickets.High) (xr_load1 (v := .int .i64 a0.Tickets.High) rfl ag3 (hd 1 rfl 54 rfl) ((b2.gr hz).seg 5 rfl rfl)) rfl rfl
      ·intro ρz wz hz hk hd
       exact sk_val (v := .bool (decide (a0.Tickets.High = 0))) (xr_eqI rfl Try.underlying3 rfl (hd 2 rfl 55 rfl) rfl) rfl rfl
      ·intro ρz wz hz hk hd
       exact sk_val (v := .bool (decide (a0.Tickets.High = 0))) (xr_move rfl (hd 3 rfl 56 rfl)) rfl rfl
      ·intro ρz wz hz hk hd
       exact sk_gval (v := (pt G1 1)) (xr_fieldAddr (p := 0) (q := 1) rfl fl110_1 ((hk 1 rfl).trans e1)) rfl rfl (hd 4 rfl 57 rfl) c25 rfl
      ·intro ρz wz hz hk hd
       exact sk_gval (v := (pt G1 4)) (xr_fieldAddr (p := 1) (q := 3) rfl fl108_1 (hd 5 rfl 58 rfl)) rfl rfl (hd 4 rfl 57 rfl) c25 rfl
      ·intro ρz wz hz hk hd
       exact sk_gval (v := .int .i64 a0.Tickets.Top) (xr_load1 (v := .int .i64 a0.Tickets.Top) rfl ag3 (hd 6 rfl 59 rfl) ((b2.gr hz).seg 4 rfl rfl)) rfl rfl (hd 4 rfl 57 rfl) c25 rfl
      ·intro ρz wz hz hk hd
       exact sk_gval (v := .bool (!decide (a0.Tickets.Top = 0))) (xr_neI rfl Try.underlying3 rfl (hd 7 rfl 60 rfl) rfl) rfl rfl (hd 4 rfl 57 rfl) c25 rfl
      ·intro ρz wz hz hk hd
       exact sk_val (v := .bool (!decide (a0.Tickets.Top = 0))) (xr_pickT rfl (hd 4 rfl 57 rfl) c25 (hd 8 rfl 61 rfl)) rfl rfl
      ·intro ρz wz hz hk hd
       exact sk_val (v := .bool (!decide (a0.Tickets.Top = 0))) (xr_move rfl (hd 9 rfl 62 rfl)) rfl rfl
      ·intro ρz wz hz hk hd
       exact sk_gval (v := (pt G1 1)) (xr_fieldAddr (p := 0) (q := 1) rfl fl110_1 ((hk 1 rfl).trans e1)) rfl rfl (hd 10 rfl 63 rfl) c26 rfl
      ·intro ρz wz hz hk hd
       exact sk_gval (v := (pt G1 5)) (xr_fieldAddr (p := 1) (q := 4) rfl fl108_2 (hd 11 rfl 64 rfl)) rfl rfl (hd 10 rfl 63 rfl) c26 rfl
      ·intro ρz wz hz hk hd
       exact sk_gval (v := .int .i64 a0.Tickets.High) (xr_load1 (v := .int .i64 a0.Tickets.High) rfl ag3 (hd 12 rfl 65 rfl) ((b2.gr hz).seg 5 rfl rfl)) rfl rfl (hd 10 rfl 63 rfl) c26 rfl
      ·intro ρz wz hz hk hd
       exact sk_gval (v := .bool (decide (a0.Tickets.High > 0))) (xr_gtr rfl (hd 13 rfl 66 rfl) rfl) rfl rfl (hd 10 rfl 63 rfl) c26 rfl
      ·intro ρz wz hz hk hd
       exact sk_gval (v := .bool (decide (a0.Tickets.High > 0))) (xr_move rfl (hd 14 rfl 67 rfl)) rfl rfl (hd 10 rfl 63 rfl) c26 rfl
      ·intro ρz wz hz hk hd
       exact sk_gval (v := Value.func (.func 144) #[] #[(pt G1 0)]) (xr_move rfl ((hk 3 rfl).trans rfl)) rfl rfl (hd 15 rfl 68 rfl) c30 rfl
      ·intro ρz wz hz hk hd
       exact sk_gval (v := (pt G1 1)) (xr_fieldAddr (p := 0) (q := 1) rfl fl110_1 ((hk 1 rfl).trans e1)) rfl rfl (hd 15 rfl 68 rfl) c30 rfl
      ·intro ρz wz hz hk hd
       exact sk_gval (v := (pt G1 4)) (xr_fieldAddr (p := 1) (q := 3) rfl fl108_1 (hd 17 rfl 70 rfl)) rfl rfl (hd 15 rfl 68 rfl) c30 rfl
      ·intro ρz wz hz hk hd
       exact sk_gval (v := .int .i64 a0.Tickets.Top) (xr_load1 (v := .int .i64 a0.Tickets.Top) rfl ag3 (hd 18 rfl 71 rfl) ((b2.gr hz).seg 4 rfl rfl)) rfl rfl (hd 15 rfl 68 rfl) c30 rfl
      ·intro ρz wz hz hk hd
       refine sk_gop (opv_callV (C := [(pt G1 0)]) rfl (hd 16 rfl 69 rfl) cal144 (ac (hd 19 rfl 72 rfl) an) (super_Right_1__c.ok fu _ a0.Tickets.Top a0 G1 V0_0 (R0_0.gr (fB.gr hz)) (b2.gr hz) _ k32)) rfl rfl (hd 15 rfl 68 rfl) c30 ?_
       rintro _ wy ⟨rfl, q33⟩
       exact ⟨rfl, q33⟩
      ·intro ρz wz hz hk hd
       exact sk_gval (v := .bool (!t31)) (xr_not rfl (hd 20 rfl 73 rfl)) rfl rfl (hd 15 rfl 68 rfl) c30 rfl
      ·intro ρz wz hz hk hd
       exact sk_gval (v := .bool (!t31)) (xr_pickT rfl (hd 15 rfl 68 rfl) c30 (hd 21 rfl 74 rfl)) rfl rfl (hd 10 rfl 63 rfl) c26 rfl
      ·intro ρz wz hz hk hd
       exact sk_val (v := .bool (!t31)) (xr_pickF rfl (hd 10 rfl 63 rfl) c26 (hd 22 rfl 75 rfl)) rfl rfl
      ·intro ρz wz hz hk hd
       exact sk_val (v := .bool (!t31)) (xr_move rfl (hd 23 rfl 76 rfl)) rfl rfl
      ·intro ρz wz hz hk hd
       exact sk_skip rfl rfl (hd 24 rfl 77 rfl) c34 rfl
      ·intro ρz wz hz hk hd
       exact sk_skip rfl rfl (hd 24 rfl 77 rfl) c34 rfl
      ·intro ρz wz hz hk hd
       exact sk_skip rfl rfl (hd 24 rfl 77 rfl) c34 rfl
      ·intro ρz wz hz hk hd
       exact sk_skip rfl rfl (hd 24 rfl 77 rfl) c34 rfl
      ·intro ρz wz hz hk hd
       exact sk_uskip rfl rfl (hd 28 rfl 81 rfl) rfl
      ·intro ρz wz hz hk hd
       exact sk_uskip rfl rfl (hd 28 rfl 81 rfl) rfl
      ·intro ρz wz hz hk hd
       exact sk_uskip rfl rfl (hd 28 rfl 81 rfl) rfl
      ·intro ρz wz hz hk hd
       exact sk_uskip rfl rfl (hd 28 rfl 81 rfl) rfl
      ·intro ρz wz hz hk hd
       exact sk_uskip rfl rfl (hd 28 rfl 81 rfl) rfl
      ·intro ρz wz hz hk hd
       exact sk_skip rfl rfl (hd 24 rfl 77 rfl) c34 rfl
      ·intro ρz wz hz hk hd
       exact sk_val (v := .bool true) (xr_pickT rfl (hd 24 rfl 77 rfl) c34 rfl) rfl rfl
      ·intro ρz wz hz hk hd
       exact sk_val (v := .bool true) (xr_move rfl (hd 35 rfl 88 rfl)) rfl rfl
      ·intro ρz wz hz hk hd
       exact sk_skip rfl rfl (hd 36 rfl 89 rfl) rfl rfl
      ·intro ρz wz hz hk hd
       exact sk_skip rfl rfl (hd 36 rfl 89 rfl) rfl rfl
      ·intro ρz wz hz hk hd
       exact sk_skip rfl rfl (hd 36 rfl 89 rfl) rfl rfl
      ·intro ρz wz hz hk hd
       exact sk_skip rfl rfl (hd 36 rfl 89 rfl) rfl rfl
      ·intro ρz wz hz hk hd
       exact sk_skip rfl rfl (hd 36 rfl 89 rfl) rfl rfl
      ·intro ρz wz hz hk hd
       exact sk_skip rfl rfl (hd 36 rfl 89 rfl) rfl rfl
      ·intro ρz wz hz hk hd
       exact sk_skip rfl rfl (hd 36 rfl 89 rfl) rfl rfl
      intro ρz wz hz hk hd
      exact sk_skip rfl rfl (hd 36 rfl 89 rfl) rfl rfl
     intro ρ35 w36 q37 hk hd
     have e1 := (hk 1 rfl).trans e1
     have e3 := (hk 3 rfl).trans rfl
     have e89 := hd 36 rfl 89 rfl
     have b2 := b2.gr q37
     have fB := fB.gr q37
     refine ol_val (v := .bool true) (xr_pickT rfl e89 rfl rfl) rfl rfl rfl ?_
     refine ol_nil ?_
     obtain rfl := Option.some.inj j24
     refine thn_i ?_
     exact ⟨e1, e3, rfl, q37⟩
    rcases is j24 with ⟨c38, j24⟩ | ⟨c38, j24⟩
    ·skip
     obtain ⟨t39, k40, j24⟩ := bs j24
     rcases is j24 with ⟨c42, j24⟩ | ⟨c42, j24⟩
     ·skip
      refine cw_drawL 45 [fun vz wz => vz = ((pt G1 1) : Value), fun vz wz => vz = ((pt G1 5) : Value), fun vz wz => vz = (.int .i64 a0.Tickets.High : Value), fun vz wz => vz = (.bool (decide (a0.Tickets.High = 0)) : Value), fun vz wz => vz = (.bool (decide (a0.Tickets.High = 0)) : Value), fun vz wz => vz = ((pt G1 1) : Value), fun vz wz => vz = ((pt G1 4) : Value), fun vz wz => vz = (.int .i64 a0.Tickets.Top : Value), fun vz wz => vz = (.bool (!decide (a0.Tickets.Top = 0)) : Value), fun vz wz => vz = (.bool (!decide (a0.Tickets.Top = 0)) : Value), fun vz wz => vz = (.bool (!decide (a0.Tickets.Top = 0)) : Value), fun vz wz => vz = ((pt G1 1) : Value), fun vz wz => vz = ((pt G1 5) : Value), fun vz wz => vz = (.int .i64 a0.Tickets.High : Value), fun vz wz => vz = (.bool (decide (a0.Tickets.High > 0)) : Value), fun vz wz => vz = (.bool (decide (a0.Tickets.High > 0)) : Value), fun vz wz => vz = (Value.func (.func 144) #[] #[(pt G1 0)] : Value), fun vz wz => vz = ((pt G1 1) : Value), fun vz wz => vz = ((pt G1 4) : Value), fun vz wz => vz = (.int .i64 a0.Tickets.Top : Value), fun vz wz => vz = (.bool t31 : Value), fun vz wz => vz = (.bool (!t31) : Value), fun vz wz => vz = (.bool (!t31) : Value), fun vz wz => vz = (.bool (!t31) : Value), fun vz wz => vz = (.bool (!t31) : Value), fun vz wz => vz = ((pt G1 7) : Value), fun vz wz => vz = (.int .i64 a0.Dir : Value), fun vz wz => vz = (.bool (!decide (a0.Dir = 0)) : Value), fun vz wz => vz = (.bool (!decide (a0.Dir = 0)) : Value), fun vz wz => vz = (Value.func (.func 144) #[] #[(pt G1 0)] : Value), fun vz wz => vz = ((pt G1 7) : Value), fun vz wz => vz = (.int .i64 a0.Dir : Value), fun vz wz => vz = (.bool t39 : Value), fun vz wz => vz = (.bool (!t39) : Value), fun vz wz => vz = (.bool (!t39) : Value), fun vz wz => vz = (.bool (!t39) : Value), fun vz wz => vz = (.bool (!t39) : Value), fun vz _ => vz = undef, fun vz _ => vz = undef, fun vz _ => vz = undef, fun vz _ => vz = undef, fun vz _ => vz = undef, fun vz _ => vz = undef, fun vz _ => vz = undef, fun vz _ => vz = undef] mo rfl ⟨fun _ _ _ h _ => h, fun _ _ _ h _ => h, fun _ _ _ h _ => h, fun _ _ _ h _ => h, fun _ _ _ h _ => h, fun _ _ _ h _ => h, fun _ _ _ h _ => h, fun _ _ _ h _ => h, fun _ _ _ h _ => h, fun _ _ _ h _ => h, fun _ _ _ h _ => h, fun _ _ _ h _ => h, fun _ _ _ h _ => h, fun _ _ _ h _ => h, fun _ _ _ h _ => h, fun _ _ _ h _ => h, fun _ _ _ h _ => h, fun _ _ _ h _ => h, fun _ _ _ h _ => h, fun _ _ _ h _ => h, fun _ _ _ h _ => h, fun _ _ _ h _ => h, fun _ _ _ h _ => h, fun _ _ _ h _ => h, fun _ _ _ h _ => h, fun _ _ _ h _ => h, fun _ _ _ h _ => h, fun _ _ _ h _ => h, fun _ _ _ h _ => h, fun _ _ _ h _ => h, fun _ _ _ h _ => h, fun _ _ _ h _ => h, fun _ _ _ h _ => h, fun _ _ _ h _ => h, fun _ _ _ h _ => h, fun _ _ _ h _ => h, fun _ _ _ h _ => h, fun _ _ _ h _ => h, fun _ _ _ h _ => h, fun _ _ _ h _ => h, fun _ _ _ h _ => h, fun _ _ _ h _ => h, fun _ _ _ h _ => h, fun _ _ _ h _ => h, fun _ _ _ h _ => h, trivial⟩ ?_ ?_
      ·refine ⟨?_, ?_, ?_, ?_, ?_, ?_, ?_, ?_, ?_, ?_, ?_, ?_, ?_, ?_, ?_, ?_, ?_, ?_, ?_, ?_, ?_, ?_, ?_, ?_, ?_, ?_, ?_, ?_, ?_, ?_, ?_, ?_, ?_, ?_, ?_, ?_, ?_, ?_, ?_, ?_, ?_, ?_, ?_, ?_, ?_, trivial⟩
       ·intro ρz wz hz hk hd
        exact sk_val (v := (pt G1 1)) (xr_fieldAddr (p := 0) (q := 1) rfl fl110_1 ((hk 1 rfl).trans e1)) rfl rfl
       ·intro ρz wz hz hk hd
        exact sk_val (v := (pt G1 5)) (xr_fieldAddr (p := 1) (q := 4) rfl fl108_2 (hd 0 rfl 53 rfl)) rfl rfl
       ·intro ρz wz hz hk hd
        exact sk_val (v := .int .i64 a0.Tickets.High) (xr_load1 (v := .int .i64 a0.Tickets.High) rfl ag3 (hd 1 rfl 54 rfl) ((b2.gr hz).seg 5 rfl rfl)) rfl rfl
       ·intro ρz wz hz hk hd
        exact sk_val (v := .bool (decide (a0.Tickets.High = 0))) (xr_eqI rfl Try.underlying3 rfl (hd 2 rfl 55 rfl) rfl) rfl rfl
       ·intro ρz wz hz hk hd
        exact sk_val (v := .bool (decide (a0.Tickets.High = 0))) (xr_move rfl (hd 3 rfl 56 rfl)) rfl rfl
       ·intro ρz wz hz hk hd
        exact sk_gval (v := (pt G1 1)) (xr_fieldAddr (p := 0) (q := 1) rfl fl110_1 ((hk 1 rfl).trans e1)) rfl rfl (hd 4 rfl 57 rfl) c25 rfl
       ·intro ρz wz hz hk hd
        exact sk_gval (v := (pt G1 4)) (xr_fieldAddr (p := 1) (q := 3) rfl fl108_1 (hd 5 rfl 58 rfl)) rfl rfl (hd 4 rfl 57 rfl) c25 rfl
       ·intro ρz wz hz hk hd
        exact sk_gval (v := .int .i64 a0.Tickets.Top) (xr_load1 (v := .int .i64 a0.Tickets.Top) rfl ag3 (hd 6 rfl 59 rfl) ((b2.gr hz).seg 4 rfl rfl)) rfl rfl (hd 4 rfl 57 rfl) c25 rfl
       ·intro ρz wz hz hk hd
        exact sk_gval (v := .bool (!decide (a0.Tickets.Top = 0))) (xr_neI rfl Try.underlying3 rfl (hd 7 rfl 60 rfl) rfl) rfl rfl (hd 4 rfl 57 rfl) c25 rfl
       ·intro ρz wz hz hk hd
        exact sk_val (v := .bool (!decide (a0.Tickets.Top = 0))) (xr_pickT rfl (hd 4 rfl 57 rfl) c25 (hd 8 rfl 61 rfl)) rfl rfl
       ·intro ρz wz hz hk hd
        exact sk_val (v := .bool (!decide (a0.Tickets.Top = 0))) (xr_move rfl (hd 9 rfl 62 rfl)) rfl rfl
       ·intro ρz wz hz hk hd
        exact sk_gval (v := (pt G1 1)) (xr_fieldAddr (p := 0) (q := 1) rfl fl110_1 ((hk 1 rfl).trans e1)) rfl rfl (hd 10 rfl 63 rfl) c26 rfl
       ·intro ρz wz hz hk hd
        exact sk_gval (v := (pt G1 5)) (xr_fieldAddr (p := 1) (q := 4) rfl fl108_2 (hd 11 rfl 64 rfl)) rfl rfl (hd 10 rfl 63 rfl) c26 rfl
       ·intro ρz wz hz hk hd
        exact sk_gval (v := .int .i64 a0.Tickets.High) (xr_load1 (v := .int .i64 a0.Tickets.High) rfl ag3 (hd 12 rfl 65 rfl) ((b2.gr hz).seg 5 rfl rfl)) rfl rfl (hd 10 rfl 63 rfl) c26 rfl
       ·intro ρz wz hz hk hd
        exact sk_gval (v := .bool (decide (a0.Tickets.High > 0))) (xr_gtr rfl (hd 13 rfl 66 rfl) rfl) rfl rfl (hd 10 rfl 63 rfl) c26 rfl
       ·intro ρz wz hz hk hd
        exact sk_gval (v := .bool (decide (a0.Tickets.High > 0))) (xr_move rfl (hd 14 rfl 67 rfl)) rfl rfl (hd 10 rfl 63 rfl) c26 rfl
       ·intro ρz wz hz hk hd
        exact sk_gval (v := Value.func (.func 144) #[] #[(pt G1 0)]) (xr_move rfl ((hk 3 rfl).trans rfl)) rfl rfl (hd 15 rfl 68 rfl) c30 rfl
       ·intro ρz wz hz hk hd
        exact sk_gval (v := (pt G1 1)) (xr_fieldAddr (p := 0) (q := 1) rfl fl110_1 ((hk 1 rfl).trans e1)) rfl rfl (hd 15 rfl 68 rfl) c30 rfl
       ·intro ρz wz hz hk hd
        exact sk_gval (v := (pt G1 4)) (xr_fieldAddr (p := 1) (q := 3) rfl fl108_1 (hd 17 rfl 70 rfl)) rfl rfl (hd 15 rfl 68 rfl) c30 rfl
       ·intro ρz wz hz hk hd
        exact sk_gval (v := .int .i64 a0.Tickets.Top) (xr_load1 (v := .int .i64 a0.Tickets.Top) rfl ag3 (hd 18 rfl 71 rfl) ((b2.gr hz).seg 4 rfl rfl)) rfl rfl (hd 15 rfl 68 rfl) c30 rfl
       ·intro ρz wz hz hk hd
        refine sk_gop (opv_callV (C := [(pt G1 0)]) rfl (hd 16 rfl 69 rfl) cal144 (ac (hd 19 rfl 72 rfl) an) (super_Right_1__c.ok fu _ a0.Tickets.Top a0 G1 V0_0 (R0_0.gr (fB.gr hz)) (b2.gr hz) _ k32)) rfl rfl (hd 15 rfl 68 rfl) c30 ?_
        rintro _ wy ⟨rfl, q33⟩
        exact ⟨rfl, q33⟩
       ·intro ρz wz hz hk hd
        exact sk_gval (v := .bool (!t31)) (xr_not rfl (hd 20 rfl 73 rfl)) rfl rfl (hd 15 rfl 68 rfl) c30 rfl
       ·intro ρz wz hz hk hd
        exact sk_gval (v := .bool (!t31)) (xr_pickT rfl (hd 15 rfl 68 rfl) c30 (hd 21 rfl 74 rfl)) rfl rfl (hd 10 rfl 63 rfl) c26 rfl
       ·intro ρz wz hz hk hd
        exact sk_val (v := .bool (!t31)) (xr_pickF rfl (hd 10 rfl 63 rfl) c26 (hd 22 rfl 75 rfl)) rfl rfl
       ·intro ρz wz hz hk hd
        exact sk_val (v := .bool (!t31)) (xr_move rfl (hd 23 rfl 76 rfl)) rfl rfl
       ·intro ρz wz hz hk hd
        exact sk_gval (v := (pt G1 7)) (xr_fieldAddr (p := 0) (q := 7) rfl fl110_2 ((hk 1 rfl).trans e1)) rfl rfl (hd 24 rfl 77 rfl) c34 rfl
       ·intro ρz wz hz hk hd
        exact sk_gval (v := .int .i64 a0.Dir) (xr_load1 (v := .int .i64 a0.Dir) rfl ag3 (hd 25 rfl 78 rfl) ((b2.gr hz).seg 7 rfl rfl)) rfl rfl (hd 24 rfl 77 rfl) c34 rfl
       ·intro ρz wz hz hk hd
        exact sk_gval (v := .bool (!decide (a0.Dir = 0))) (xr_neI rfl Try.underlying3 rfl (hd 26 rfl 79 rfl) rfl) rfl rfl (hd 24 rfl 77 rfl) c34 rfl
       ·intro ρz wz hz hk hd
        exact sk_gval (v := .bool (!decide (a0.Dir = 0))) (xr_move rfl (hd 27 rfl 80 rfl)) rfl rfl (hd 24 rfl 77 rfl) c34 rfl
       ·intro ρz wz hz hk hd
        exact sk_gval (v := Value.func (.func 144) #[] #[(pt G1 0)]) (xr_move rfl ((hk 3 rfl).trans rfl)) rfl rfl (hd 28 rfl 81 rfl) c38 rfl
       ·intro ρz wz hz hk hd
        exact sk_gval (v := (pt G1 7)) (xr_fieldAddr (p := 0) (q := 7) rfl fl110_2 ((hk 1 rfl).trans e1)) rfl rfl (hd 28 rfl 81 rfl) c38 rfl
       ·intro ρz wz hz hk hd
        exact sk_gval (v := .int .i64 a0.Dir) (xr_load1 (v := .int .i64 a0.Dir) rfl ag3 (hd 30 rfl 83 rfl) ((b2.gr hz).seg 7 rfl rfl)) rfl rfl (hd 28 rfl 81 rfl) c38 rfl
       ·intro ρz wz hz hk hd
        refine sk_gop (opv_callV (C := [(pt G1 0)]) rfl (hd 29 rfl 82 rfl) cal144 (ac (hd 31 rfl 84 rfl) an) (super_Right_1__c.ok fu _ a0.Dir a0 G1 V0_0 (R0_0.gr (fB.gr hz)) (b2.gr hz) _ k40)) rfl rfl (hd 28 rfl 81 rfl) c38 ?_
        rintro _ wy ⟨rfl, q41⟩
        exact ⟨rfl, q41⟩
       ·intro ρz wz hz hk hd
        exact sk_gval (v := .bool (!t39)) (xr_not rfl (hd 32 rfl 85 rfl)) rfl rfl (hd 28 rfl 81 rfl) c38 rfl
       ·intro ρz wz hz hk hd
        exact sk_gval (v := .bool (!t39)) (xr_pickT rfl (hd 28 rfl 81 rfl) c38 (hd 33 rfl 86 rfl)) rfl rfl (hd 24 rfl 77 rfl) c34 rfl
       ·intro ρz wz hz hk hd
        exact sk_val (v := .bool (!t39)) (xr_pickF rfl (hd 24 rfl 77 rfl) c34 (hd 34 rfl 87 rfl)) rfl rfl
       ·intro ρz wz hz hk hd
        exact sk_val (v := .bool (!t39)) (xr_move rfl (hd 35 rfl 88 rfl)) rfl rfl
       ·intro ρz wz hz hk hd
        exact sk_skip rfl rfl (hd 36 rfl 89 rfl) c42 rfl
       ·intro ρz wz hz hk hd
        exact sk_skip rfl rfl (hd 36 rfl 89 rfl) c42 rfl
       ·intro ρz wz hz hk hd
        exact sk_skip rfl rfl (hd 36 rfl 89 rfl) c42 rfl
       ·intro ρz wz hz hk hd
        exact sk_skip rfl rfl (hd 36 rfl 89 rfl) c42 rfl
       ·intro ρz wz hz hk hd
        exact sk_skip rfl rfl (hd 36 rfl 89 rfl) c42 rfl
       ·intro ρz wz hz hk hd
        exact sk_skip rfl rfl (hd 36 rfl 89 rfl) c42 rfl
       ·intro ρz wz hz hk hd
        exact sk_skip rfl rfl (hd 36 rfl 89 rfl) c42 rfl
       intro ρz wz hz hk hd
       exact sk_skip rfl rfl (hd 36 rfl 89 rfl) c42 rfl
      intro ρ43 w44 q45 hk hd
      have e1 := (hk 1 rfl).trans e1
      have e3 := (hk 3 rfl).trans rfl
      have e89 := hd 36 rfl 89 rfl
      have b2 := b2.gr q45
      have fB := fB.gr q45
      refine ol_val (v := .bool true) (xr_pickT rfl e89 c42 rfl) rfl rfl rfl ?_
      refine ol_nil ?_
      obtain rfl := Option.some.inj j24
      refine thn_i ?_
      exact ⟨e1, e3, rfl, q45⟩
     obtain ⟨t46, k47, j24⟩ := bs j24
     refine cw_drawL 45 [fun vz wz => vz = ((pt G1 1) : Value), fun vz wz => vz = ((pt G1 5) : Value), fun vz wz => vz = (.int .i64 a0.Tickets.High : Value), fun vz wz => vz = (.bool (decide (a0.Tickets.High = 0)) : Value), fun vz wz => vz = (.bool (decide (a0.Tickets.High = 0)) : Value), fun vz wz => vz = ((pt G1 1) : Value), fun vz wz => vz = ((pt G1 4) : Value), fun vz wz => vz = (.int .i64 a0.Tickets.Top : Value), fun vz wz => vz = (.bool (!decide (a0.Tickets.Top = 0)) : Value), fun vz wz => vz = (.bool (!decide (a0.Tickets.Top = 0)) : Value), fun vz wz => vz = (.bool (!decide (a0.Tickets.Top = 0)) : Value), fun vz wz => vz = ((pt G1 1) : Value), fun vz wz => vz = ((pt G1 5) : Value), fun vz wz => vz = (.int .i64 a0.Tickets.High : Value), fun vz wz => vz = (.bool (decide (a0.Tickets.High > 0)) : Value), fun vz wz => vz = (.bool (decide (a0.Tickets.High > 0)) : Value), fun vz wz => vz = (Value.func (.func 144) #[] #[(pt G1 0)] : Value), fun vz wz => vz = ((pt G1 1) : Value), fun vz wz => vz = ((pt G1 4) : Value), fun vz wz => vz = (.int .i64 a0.Tickets.Top : Value), fun vz wz => vz = (.bool t31 : Value), fun vz wz => vz = (.bool (!t31) : Value), fun vz wz => vz = (.bool (!t31) : Value), fun vz wz => vz = (.bool (!t31) : Value), fun vz wz => vz = (.bool (!t31) : Value), fun vz wz => vz = ((pt G1 7) : Value), fun vz wz => vz = (.int .i64 a0.Dir : Value), fun vz wz => vz = (.bool (!decide (a0.Dir = 0)) : Value), fun vz wz => vz = (.bool (!decide (a0.Dir = 0)) : Value), fun vz wz => vz = (Value.func (.func 144) #[] #[(pt G1 0)] : Value), fun vz wz => vz = ((pt G1 7) : Value), fun vz wz => vz = (.int .i64 a0.Dir : Value), fun vz wz => vz = (.bool t39 : Value), fun vz wz => vz = (.bool (!t39) : Value), fun vz wz => vz = (.bool (!t39) : Value), fun vz wz => vz = (.bool (!t39) : Value), fun vz wz => vz = (.bool (!t39) : Value), fun vz wz => vz = ((pt G1 8) : Value), fun vz wz => vz = (V0_0 : Value), fun vz wz => vz = (.int .i64 (List.length a0.Charts : Int) : Value), fun vz wz => vz = ((pt G1 1) : Value), fun vz wz => vz = ((pt G1 1) : Value), fun vz wz => vz = (aggV [(sI a0.Tickets.Geometry.Blocks), (sI a0.Tickets.Geometry.Slots), (sI a0.Tickets.Geometry.Gens)] : Value), fun vz wz => vz = (.int .i64 t46 : Value), fun vz wz => vz = (.bool (!decide ((List.length a0.Charts : Int) = t46)) : Value)] mo rfl ⟨fun _ _ _ h _ => h, fun _ _ _ h _ => h, fun _ _ _ h _ => h, fun _ _ _ h _ => h, fun _ _ _ h _ => h, fun _ _ _ h _ => h, fun _ _ _ h _ => h, fun _ _ _ h _ => h, fun _ _ _ h _ => h, fun _ _ _ h _ => h, fun _ _ _ h _ => h, fun _ _ _ h _ => h, fun _ _ _ h _ => h, fun _ _ _ h _ => h, fun _ _ _ h _ => h, fun _ _ _ h _ => h, fun _ _ _ h _ => h, fun _ _ _ h _ => h, fun _ _ _ h _ => h, fun _ _ _ h _ => h, fun _ _ _ h _ => h, fun _ _ _ h _ => h, fun _ _ _ h _ => h, fun _ _ _ h _ => h, fun _ _ _ h _ => h, fun _ _ _ h _ => h, fun _ _ _ h _ => h, fun _ _ _ h _ => h, fun _ _ _ h _ => h, fun _ _ _ h _ => h, fun _ _ _ h _ => h, fun _ _ _ h _ => h, fun _ _ _ h _ => h, fun _ _ _ h _ => h, fun _ _ _ h _ => h, fun _ _ _ h _ => h, fun _ _ _ h _ => h, fun _ _ _ h _ => h, fun _ _ _ h _ => h, fun _ _ _ h _ => h, fun _ _ _ h _ => h, fun _ _ _ h _ => h, fun _ _ _ h _ => h, fun _ _ _ h _ => h, fun _ _ _ h _ => h, trivial⟩ ?_ ?_
     ·refine ⟨?_, ?_, ?_, ?_, ?_, ?_, ?_, ?_, ?_, ?_, ?_, ?_, ?_, ?_, ?_, ?_, ?_, ?_, ?_, ?_, ?_, ?_, ?_, ?_, ?_, ?_, ?_, ?_, ?_, ?_, ?_, ?_, ?_, ?_, ?_, ?_, ?_, ?_, ?_, ?_, ?_, ?_, ?_, ?_, ?_, trivial⟩
      ·intro ρz wz hz hk hd
       exact sk_val (v := (pt G1 1)) (xr_fieldAddr (p := 0) (q := 1) rfl fl110_1 ((hk 1 rfl).trans e1)) rfl rfl
      ·intro ρz wz hz hk hd
       exact sk_val (v := (pt G1 5)) (xr_fieldAddr (p := 1) (q := 4) rfl fl108_2 (hd 0 rfl 53 rfl)) rfl rfl
      ·intro ρz wz hz hk hd
       exact sk_val (v := .int .i64 a0.Tickets.High) (xr_load1 (v := .int .i64 a0.Tickets.High) rfl ag3 (hd 1 rfl 54 rfl) ((b2.gr hz).seg 5 rfl rfl)) rfl rfl
      ·intro ρz wz hz hk hd
       exact sk_val (v := .bool (decide (a0.Tickets.High = 0))) (xr_eqI rfl Try.underlying3 rfl (hd 2 rfl 55 rfl) rfl) rfl rfl
      ·intro ρz wz hz hk hd
       exact sk_val (v := .bool (decide (a0.Tickets.High = 0))) (xr_move rfl (hd 3 rfl 56 rfl)) rfl rfl
      ·intro ρz wz hz hk hd
       exact sk_gval (v := (pt G1 1)) (xr_fieldAddr (p := 0) (q := 1) rfl fl110_1 ((hk 1 rfl).trans e1)) rfl rfl (hd 4 rfl 57 rfl) c25 rfl
      ·intro ρz wz hz hk hd
       exact sk_gval (v := (pt G1 4)) (xr_fieldAddr (p := 1) (q := 3) rfl fl108_1 (hd 5 rfl 58 rfl)) rfl rfl (hd 4 rfl 57 rfl) c25 rfl
      ·intro ρz wz hz hk hd
       exact sk_gval (v := .int .i64 a0.Tickets.Top) (xr_load1 (v := .int .i64 a0.Tickets.Top) rfl ag3 (hd 6 rfl 59 rfl) ((b2.gr hz).seg 4 rfl rfl)) rfl rfl (hd 4 rfl 57 rfl) c25 rfl
      ·intro ρz wz hz hk hd
       exact sk_gval (v := .bool (!decide (a0.Tickets.Top = 0))) (xr_neI rfl Try.underlying3 rfl (hd 7 rfl 60 rfl) rfl) rfl rfl (hd 4 rfl 57 rfl) c25 rfl
      ·intro ρz wz hz hk hd
       exact sk_val (v := .bool (!decide (a0.Tickets.Top = 0))) (xr_pickT rfl (hd 4 rfl 57 rfl) c25 (hd 8 rfl 61 rfl)) rfl rfl
      ·intro ρz wz hz hk hd
       exact sk_val (v := .bool (!decide (a0.Tickets.Top = 0))) (xr_move rfl (hd 9 rfl 62 rfl)) rfl rfl
      ·intro ρz wz hz hk hd
       exact sk_gval (v := (pt G1 1)) (xr_fieldAddr (p := 0) (q := 1) rfl fl110_1 ((hk 1 rfl).trans e1)) rfl rfl (hd 10 rfl 63 rfl) c26 rfl
      ·intro ρz wz hz hk hd
       exact sk_gval (v := (pt G1 5)) (xr_fieldAddr (p := 1) (q := 4) rfl fl108_2 (hd 11 rfl 64 rfl)) rfl rfl (hd 10 rfl 63 rfl) c26 rfl
      ·intro ρz wz hz hk hd
       exact sk_gval (v := .int .i64 a0.Tickets.High) (xr_load1 (v := .int .i64 a0.Tickets.High) rfl ag3 (hd 12 rfl 65 rfl) ((b2.gr hz).seg 5 rfl rfl)) rfl rfl (hd 10 rfl 63 rfl) c26 rfl
      ·intro ρz wz hz hk hd
       exact sk_gval (v := .bool (decide (a0.Tickets.High > 0))) (xr_gtr rfl (hd 13 rfl 66 rfl) rfl) rfl rfl (hd 10 rfl 63 rfl) c26 rfl
      ·intro ρz wz hz hk hd
       exact sk_gval (v := .bool (decide (a0.Tickets.High > 0))) (xr_move rfl (hd 14 rfl 67 rfl)) rfl rfl (hd 10 rfl 63 rfl) c26 rfl
      ·intro ρz wz hz hk hd
       exact sk_gval (v := Value.func (.func 144) #[] #[(pt G1 0)]) (xr_move rfl ((hk 3 rfl).trans rfl)) rfl rfl (hd 15 rfl 68 rfl) c30 rfl
      ·intro ρz wz hz hk hd
       exact sk_gval (v := (pt G1 1)) (xr_fieldAddr (p := 0) (q := 1) rfl fl110_1 ((hk 1 rfl).trans e1)) rfl rfl (hd 15 rfl 68 rfl) c30 rfl
      ·intro ρz wz hz hk hd
       exact sk_gval (v := (pt G1 4)) (xr_fieldAddr (p := 1) (q := 3) rfl fl108_1 (hd 17 rfl 70 rfl)) rfl rfl (hd 15 rfl 68 rfl) c30 rfl
      ·intro ρz wz hz hk hd
       exact sk_gval (v := .int .i64 a0.Tickets.Top) (xr_load1 (v := .int .i64 a0.Tickets.Top) rfl ag3 (hd 18 rfl 71 rfl) ((b2.gr hz).seg 4 rfl rfl)) rfl rfl (hd 15 rfl 68 rfl) c30 rfl
      ·intro ρz wz hz hk hd
       refine sk_gop (opv_callV (C := [(pt G1 0)]) rfl (hd 16 rfl 69 rfl) cal144 (ac (hd 19 rfl 72 rfl) an) (super_Right_1__c.ok fu _ a0.Tickets.Top a0 G1 V0_0 (R0_0.gr (fB.gr hz)) (b2.gr hz) _ k32)) rfl rfl (hd 15 rfl 68 rfl) c30 ?_
       rintro _ wy ⟨rfl, q33⟩
       exact ⟨rfl, q33⟩
      ·intro ρz wz hz hk hd
       exact sk_gval (v := .bool (!t31)) (xr_not rfl (hd 20 rfl 73 rfl)) rfl rfl (hd 15 rfl 68 rfl) c30 rfl
      ·intro ρz wz hz hk hd
       exact sk_gval (v := .bool (!t31)) (xr_pickT rfl (hd 15 rfl 68 rfl) c30 (hd 21 rfl 74 rfl)) rfl rfl (hd 10 rfl 63 rfl) c26 rfl
      ·intro ρz wz hz hk hd
       exact sk_val (v := .bool (!t31)) (xr_pickF rfl (hd 10 rfl 63 rfl) c26 (hd 22 rfl 75 rfl)) rfl rfl
      ·intro ρz wz hz hk hd
       exact sk_val (v := .bool (!t31)) (xr_move rfl (hd 23 rfl 76 rfl)) rfl rfl
      ·intro ρz wz hz hk hd
       exact sk_gval (v := (pt G1 7)) (xr_fieldAddr (p := 0) (q := 7) rfl fl110_2 ((hk 1 rfl).trans e1)) rfl rfl (hd 24 rfl 77 rfl) c34 rfl
      ·intro ρz wz hz hk hd
       exact sk_gval (v := .int .i64 a0.Dir) (xr_load1 (v := .int .i64 a0.Dir) rfl ag3 (hd 25 rfl 78 rfl) ((b2.gr hz).seg 7 rfl rfl)) rfl rfl (hd 24 rfl 77 rfl) c34 rfl
      ·intro ρz wz hz hk hd
       exact sk_gval (v := .bool (!decide (a0.Dir = 0))) (xr_neI rfl Try.underlying3 rfl (hd 26 rfl 79 rfl) rfl) rfl rfl (hd 24 rfl 77 rfl) c34 rfl
      ·intro ρz wz hz hk hd
       exact sk_gval (v := .bool (!decide (a0.Dir = 0))) (xr_move rfl (hd 27 rfl 80 rfl)) rfl rfl (hd 24 rfl 77 rfl) c34 rfl
      ·intro ρz wz hz hk hd
       exact sk_gval (v := Value.func (.func 144) #[] #[(pt G1 0)]) (xr_move rfl ((hk 3 rfl).trans rfl)) rfl rfl (hd 28 rfl 81 rfl) c38 rfl
      ·intro ρz wz hz hk hd
       exact sk_gval (v := (pt G1 7)) (xr_fieldAddr (p := 0) (q := 7) rfl fl110_2 ((hk 1 rfl).trans e1)) rfl rfl (hd 28 rfl 81 rfl) c38 rfl
      ·intro ρz wz hz hk hd
       exact sk_gval (v := .int .i64 a0.Dir) (xr_load1 (v := .int .i64 a0.Dir) rfl ag3 (hd 30 rfl 83 rfl) ((b2.gr hz).seg 7 rfl rfl)) rfl rfl (hd 28 rfl 81 rfl) c38 rfl
      ·intro ρz wz hz hk hd
       refine sk_gop (opv_callV (C := [(pt G1 0)]) rfl (hd 29 rfl 82 rfl) cal144 (ac (hd 31 rfl 84 rfl) an) (super_Right_1__c.ok fu _ a0.Dir a0 G1 V0_0 (R0_0.gr (fB.gr hz)) (b2.gr hz) _ k40)) rfl rfl (hd 28 rfl 81 rfl) c38 ?_
       rintro _ wy ⟨rfl, q41⟩
       exact ⟨rfl, q41⟩
      ·intro ρz wz hz hk hd
       exact sk_gval (v := .bool (!t39)) (xr_not rfl (hd 32 rfl 85 rfl)) rfl rfl (hd 28 rfl 81 rfl) c38 rfl
      ·intro ρz wz hz hk hd
       exact sk_gval (v := .bool (!t39)) (xr_pickT rfl (hd 28 rfl 81 rfl) c38 (hd 33 rfl 86 rfl)) rfl rfl (hd 24 rfl 77 rfl) c34 rfl
      ·intro ρz wz hz hk hd
       exact sk_val (v := .bool (!t39)) (xr_pickF rfl (hd 24 rfl 77 rfl) c34 (hd 34 rfl 87 rfl)) rfl rfl
      ·intro ρz wz hz hk hd
       exact sk_val (v := .bool (!t39)) (xr_move rfl (hd 35 rfl 88 rfl)) rfl rfl
      ·intro ρz wz hz hk hd
       exact sk_gval (v := (pt G1 8)) (xr_fieldAddr (p := 0) (q := 8) rfl fl110_3 ((hk 1 rfl).trans e1)) rfl rfl (hd 36 rfl 89 rfl) c42 rfl
      ·intro ρz wz hz hk hd
       exact sk_gval (v := V0_0) (xr_load1 (v := V0_0) rfl ag25 (hd 37 rfl 90 rfl) ((b2.gr hz).seg 8 rfl rfl)) rfl rfl (hd 36 rfl 89 rfl) c42 rfl
      ·intro ρz wz hz hk hd
       exact sk_gval (v := .int .i64 (List.length a0.Charts : Int)) (xr_lenR rfl Try.underlying25 (hd 38 rfl 91 rfl) (R0_0.gr (fB.gr hz))) rfl rfl (hd 36 rfl 89 rfl) c42 rfl
      ·intro ρz wz hz hk hd
       exact sk_gval (v := (pt G1 1)) (xr_fieldAddr (p := 0) (q := 1) rfl fl110_1 ((hk 1 rfl).trans e1)) rfl rfl (hd 36 rfl 89 rfl) c42 rfl
      ·intro ρz wz hz hk hd
       exact sk_gval (v := (pt G1 1)) (xr_fieldAddr (p := 1) (q := 0) rfl fl108_0 (hd 40 rfl 93 rfl)) rfl rfl (hd 36 rfl 89 rfl) c42 rfl
      ·intro ρz wz hz hk hd
       exact sk_gval (xr_loadS (ss := [(sI a0.Tickets.Geometry.Blocks), (sI a0.Tickets.Geometry.Slots), (sI a0.Tickets.Geometry.Gens)]) rfl ag106 sz106 rfl (hd 41 rfl 94 rfl) ((b2.gr hz).segs 1 3 rfl)) rfl rfl (hd 36 rfl 89 rfl) c42 rfl
      ·intro ρz wz hz hk hd
       refine sk_gop (opv_call rfl cal145 (ac (hd 42 rfl 95 rfl) an) (geom_Charts.ok fu _ a0.Tickets.Geometry _ k47)) rfl rfl (hd 36 rfl 89 rfl) c42 ?_
       rintro _ wy ⟨rfl, q48⟩
       exact ⟨rfl, q48⟩
      intro ρz wz hz hk hd
      exact sk_gval (v := .bool (!decide ((List.length a0.Charts : Int) = t46))) (xr_neI rfl Try.underlying3 rfl (hd 39 rfl 92 rfl) (hd 43 rfl 96 rfl)) rfl rfl (hd 36 rfl 89 rfl) c42 rfl
     intro ρ49 w50 q51 hk hd
     have e1 := (hk 1 rfl).trans e1
     have e3 := (hk 3 rfl).trans rfl
     have e89 := hd 36 rfl 89 rfl
     have e97 := hd 44 rfl 97 rfl
     have b2 := b2.gr q51
     have fB := fB.gr q51
     refine ol_val (v := .bool (!decide ((List.length a0.Charts : Int) = t46))) (xr_pickF rfl e89 c42 e97) rfl rfl rfl ?_
     refine ol_nil ?_
     obtain rfl := Option.some.inj j24
     refine thn_i ?_
     exact ⟨e1, e3, rfl, q51⟩
    obtain ⟨t52, k53, j24⟩ := bs j24
    refine cw_drawL 45 [fun vz wz => vz = ((pt G1 1) : Value), fun vz wz => vz = ((pt G1 5) : Value), fun vz wz => vz = (.int .i64 a0.Tickets.High : Value), fun vz wz => vz = (.bool (decide (a0.Tickets.High = 0)) : Value), fun vz wz => vz = (.bool (decide (a0.Tickets.High = 0)) : Value), fun vz wz => vz = ((pt G1 1) : Value), fun vz wz => vz = ((pt G1 4) : Value), fun vz wz => vz = (.int .i64 a0.Tickets.Top : Value), fun vz wz => vz = (.bool (!decide (a0.Tickets.Top = 0)) : Value), fun vz wz => vz = (.bool (!decide (a0.Tickets.Top = 0)) : Value), fun vz wz => vz = (.bool (!decide (a0.Tickets.Top = 0)) : Value), fun vz wz => vz = ((pt G1 1) : Value), fun vz wz => vz = ((pt G1 5) : Value), fun vz wz => vz = (.int .i64 a0.Tickets.High : Value), fun vz wz => vz = (.bool (decide (a0.Tickets.High > 0)) : Value), fun vz wz => vz = (.bool (decide (a0.Tickets.High > 0)) : Value), fun vz wz => vz = (Value.func (.func 144) #[] #[(pt G1 0)] : Value), fun vz wz => vz = ((pt G1 1) : Value), fun vz wz => vz = ((pt G1 4) : Value), fun vz wz => vz = (.int .i64 a0.Tickets.Top : Value), fun vz wz => vz = (.bool t31 : Value), fun vz wz => vz = (.bool (!t31) : Value), fun vz wz => vz = (.bool (!t31) : Value), fun vz wz => vz = (.bool (!t31) : Value), fun vz wz => vz = (.bool (!t31) : Value), fun vz wz => vz = ((pt G1 7) : Value), fun vz wz => vz = (.int .i64 a0.Dir : Value), fun vz wz => vz = (.bool (!decide (a0.Dir = 0)) : Value), fun vz wz => vz = (.bool (!decide (a0.Dir = 0)) : Value), fun vz _ => vz = undef, fun vz _ => vz = undef, fun vz _ => vz = undef, fun vz _ => vz = undef, fun vz _ => vz = undef, fun vz wz => vz = (.bool false : Value), fun vz wz => vz = (.bool false : Value), fun vz wz => vz = (.bool false : Value), fun vz wz => vz = ((pt G1 8) : Value), fun vz wz => vz = (V0_0 : Value), fun vz wz => vz = (.int .i64 (List.length a0.Charts : Int) : Value), fun vz wz => vz = ((pt G1 1) : Value), fun vz wz => vz = ((pt G1 1) : Value), fun vz wz => vz = (aggV [(sI a0.Tickets.Geometry.Blocks), (sI a0.Tickets.Geometry.Slots), (sI a0.Tickets.Geometry.Gens)] : Value), fun vz wz => vz = (.int .i64 t52 : Value), fun vz wz => vz = (.bool (!decide ((List.length a0.Charts : Int) = t52)) : Value)] mo rfl ⟨fun _ _ _ h _ => h, fun _ _ _ h _ => h, fun _ _ _ h _ => h, fun _ _ _ h _ => h, fun _ _ _ h _ => h, fun _ _ _ h _ => h, fun _ _ _ h _ => h, fun _ _ _ h _ => h, fun _ _ _ h _ => h, fun _ _ _ h _ => h, fun _ _ _ h _ => h, fun _ _ _ h _ => h, fun _ _ _ h _ => h, fun _ _ _ h _ => h, fun _ _ _ h _ => h, fun _ _ _ h _ => h, fun _ _ _ h _ => h, fun _ _ _ h _ => h, fun _ _ _ h _ => h, fun _ _ _ h _ => h, fun _ _ _ h _ => h, fun _ _ _ h _ => h, fun _ _ _ h _ => h, fun _ _ _ h _ => h, fun _ _ _ h _ => h, fun _ _ _ h _ => h, fun _ _ _ h _ => h, fun _ _ _ h _ => h, fun _ _ _ h _ => h, fun _ _ _ h _ => h, fun _ _ _ h _ => h, fun _ _ _ h _ => h, fun _ _ _ h _ => h, fun _ _ _ h _ => h, fun _ _ _ h _ => h, fun _ _ _ h _ => h, fun _ _ _ h _ => h, fun _ _ _ h _ => h, fun _ _ _ h _ => h, fun _ _ _ h _ => h, fun _ _ _ h _ => h, fun _ _ _ h _ => h, fun _ _ _ h _ => h, fun _ _ _ h _ => h, fun _ _ _ h _ => h, trivial⟩ ?_ ?_
    ·refine ⟨?_, ?_, ?_, ?_, ?_, ?_, ?_, ?_, ?_, ?_, ?_, ?_, ?_, ?_, ?_, ?_, ?_, ?_, ?_, ?_, ?_, ?_, ?_, ?_, ?_, ?_, ?_, ?_, ?_, ?_, ?_, ?_, ?_, ?_, ?_, ?_, ?_, ?_, ?_, ?_, ?_, ?_, ?_, ?_, ?_, trivial⟩
     ·intro ρz wz hz hk hd
      exact sk_val (v := (pt G1 1)) (xr_fieldAddr (p := 0) (q := 1) rfl fl110_1 ((hk 1 rfl).trans e1)) rfl rfl
     ·intro ρz wz hz hk hd
      exact sk_val (v := (pt G1 5)) (xr_fieldAddr (p := 1) (q := 4) rfl fl108_2 (hd 0 rfl 53 rfl)) rfl rfl
     ·intro ρz wz hz hk hd
      exact sk_val (v := .int .i64 a0.Tickets.High) (xr_load1 (v := .int .i64 a0.Tickets.High) rfl ag3 (hd 1 rfl 54 rfl) ((b2.gr hz).seg 5 rfl rfl)) rfl rfl
     ·intro ρz wz hz hk hd
      exact sk_val (v := .bool (decide (a0.Tickets.High = 0))) (xr_eqI rfl Try.underlying3 rfl (hd 2 rfl 55 rfl) rfl) rfl rfl
     ·intro ρz wz hz hk hd
      exact sk_val (v := .bool (decide (a0.Tickets.High = 0))) (xr_move rfl (hd 3 rfl 56 rfl)) rfl rfl
     ·intro ρz wz hz hk hd
      exact sk_gval (v := (pt G1 1)) (xr_fieldAddr (p := 0) (q := 1) rfl fl110_1 ((hk 1 rfl).trans e1)) rfl rfl (hd 4 rfl 57 rfl) c25 rfl
     ·intro ρz wz hz hk hd
      exact sk_gval (v := (pt G1 4)) (xr_fieldAddr (p := 1) (q := 3) rfl fl108_1 (hd 5 rfl 58 rfl)) rfl rfl (hd 4 rfl 57 rfl) c25 rfl
     ·intro ρz wz hz hk hd
      exact sk_gval (v := .int .i64 a0.Tickets.Top) (xr_load1 (v := .int .i64 a0.Tickets.Top) rfl ag3 (hd 6 rfl 59 rfl) ((b2.gr hz).seg 4 rfl rfl)) rfl rfl (hd 4 rfl 57 rfl) c25 rfl
     ·intro ρz wz hz hk hd
      exact sk_gval (v := .bool (!decide (a0.Tickets.Top = 0))) (xr_neI rfl Try.underlying3 rfl (hd 7 rfl 60 rfl) rfl) rfl rfl (hd 4 rfl 57 rfl) c25 rfl
     ·intro ρz wz hz hk hd
      exact sk_val (v := .bool (!decide (a0.Tickets.Top = 0))) (xr_pickT rfl (hd 4 rfl 57 rfl) c25 (hd 8 rfl 61 rfl)) rfl rfl
     ·intro ρz wz hz hk hd
      exact sk_val (v := .bool (!decide (a0.Tickets.Top = 0))) (xr_move rfl (hd 9 rfl 62 rfl)) rfl rfl
     ·intro ρz wz hz hk hd
      exact sk_gval (v := (pt G1 1)) (xr_fieldAddr (p := 0) (q := 1) rfl fl110_1 ((hk 1 rfl).trans e1)) rfl rfl (hd 10 rfl 63 rfl) c26 rfl
     ·intro ρz wz hz hk hd
      exact sk_gval (v := (pt G1 5)) (xr_fieldAddr (p := 1) (q := 4) rfl fl108_2 (hd 11 rfl 64 rfl)) rfl rfl (hd 10 rfl 63 rfl) c26 rfl
     ·intro ρz wz hz hk hd
      exact sk_gval (v := .int .i64 a0.Tickets.High) (xr_load1 (v := .int .i64 a0.Tickets.High) rfl ag3 (hd 12 rfl 65 rfl) ((b2.gr hz).seg 5 rfl rfl)) rfl rfl (hd 10 rfl 63 rfl) c26 rfl
     ·intro ρz wz hz hk hd
      exact sk_gval (v := .bool (decide (a0.Tickets.High > 0))) (xr_gtr rfl (hd 13 rfl 66 rfl) rfl) rfl rfl (hd 10 rfl 63 rfl) c26 rfl
     ·intro ρz wz hz hk hd
      exact sk_gval (v := .bool (decide (a0.Tickets.High > 0))) (xr_move rfl (hd 14 rfl 67 rfl)) rfl rfl (hd 10 rfl 63 rfl) c26 rfl
     ·intro ρz wz hz hk hd
      exact sk_gval (v := Value.func (.func 144) #[] #[(pt G1 0)]) (xr_move rfl ((hk 3 rfl).trans rfl)) rfl rfl (hd 15 rfl 68 rfl) c30 rfl
     ·intro ρz wz hz hk hd
      exact sk_gval (v := (pt G1 1)) (xr_fieldAddr (p := 0) (q := 1) rfl fl110_1 ((hk 1 rfl).trans e1)) rfl rfl (hd 15 rfl 68 rfl) c30 rfl
     ·intro ρz wz hz hk hd
      exact sk_gval (v := (pt G1 4)) (xr_fieldAddr (p := 1) (q := 3) rfl fl108_1 (hd 17 rfl 70 rfl)) rfl rfl (hd 15 rfl 68 rfl) c30 rfl
     ·intro ρz wz hz hk hd
      exact sk_gval (v := .int .i64 a0.Tickets.Top) (xr_load1 (v := .int .i64 a0.Tickets.Top) rfl ag3 (hd 18 rfl 71 rfl) ((b2.gr hz).seg 4 rfl rfl)) rfl rfl (hd 15 rfl 68 rfl) c30 rfl
     ·intro ρz wz hz hk hd
      refine sk_gop (opv_callV (C := [(pt G1 0)]) rfl (hd 16 rfl 69 rfl) cal144 (ac (hd 19 rfl 72 rfl) an) (super_Right_1__c.ok fu _ a0.Tickets.Top a0 G1 V0_0 (R0_0.gr (fB.gr hz)) (b2.gr hz) _ k32)) rfl rfl (hd 15 rfl 68 rfl) c30 ?_
      rintro _ wy ⟨rfl, q33⟩
      exact ⟨rfl, q33⟩
     ·intro ρz wz hz hk hd
      exact sk_gval (v := .bool (!t31)) (xr_not rfl (hd 20 rfl 73 rfl)) rfl rfl (hd 15 rfl 68 rfl) c30 rfl
     ·intro ρz wz hz hk hd
      exact sk_gval (v := .bool (!t31)) (xr_pickT rfl (hd 15 rfl 68 rfl) c30 (hd 21 rfl 74 rfl)) rfl rfl (hd 10 rfl 63 rfl) c26 rfl
     ·intro ρz wz hz hk hd
      exact sk_val (v := .bool (!t31)) (xr_pickF rfl (hd 10 rfl 63 rfl) c26 (hd 22 rfl 75 rfl)) rfl rfl
     ·intro ρz wz hz hk hd
      exact sk_val (v := .bool (!t31)) (xr_move rfl (hd 23 rfl 76 rfl)) rfl rfl
     ·intro ρz wz hz hk hd
      exact sk_gval (v := (pt G1 7)) (xr_fieldAddr (p := 0) (q := 7) rfl fl110_2 ((hk 1 rfl).trans e1)) rfl rfl (hd 24 rfl 77 rfl) c34 rfl
     ·intro ρz wz hz hk hd
      exact sk_gval (v := .int .i64 a0.Dir) (xr_load1 (v := .int .i64 a0.Dir) rfl ag3 (hd 25 rfl 78 rfl) ((b2.gr hz).seg 7 rfl rfl)) rfl rfl (hd 24 rfl 77 rfl) c34 rfl
     ·intro ρz wz hz hk hd
      exact sk_gval (v := .bool (!decide (a0.Dir = 0))) (xr_neI rfl Try.underlying3 rfl (hd 26 rfl 79 rfl) rfl) rfl rfl (hd 24 rfl 77 rfl) c34 rfl
     ·intro ρz wz hz hk hd
      exact sk_gval (v := .bool (!decide (a0.Dir = 0))) (xr_move rfl (hd 27 rfl 80 rfl)) rfl rfl (hd 24 rfl 77 rfl) c34 rfl
     ·intro ρz wz hz hk hd
      exact sk_skip rfl rfl (hd 28 rfl 81 rfl) c38 rfl
     ·intro ρz wz hz hk hd
      exact sk_skip rfl rfl (hd 28 rfl 81 rfl) c38 rfl
     ·intro ρz wz hz hk hd
      exact sk_skip rfl rfl (hd 28 rfl 81 rfl) c38 rfl
     ·intro ρz wz hz hk hd
      exact sk_skip rfl rfl (hd 28 rfl 81 rfl) c38 rfl
     ·intro ρz wz hz hk hd
      exact sk_skip rfl rfl (hd 28 rfl 81 rfl) c38 rfl
     ·intro ρz wz hz hk hd
      exact sk_gval (v := .bool false) (xr_pickF rfl (hd 28 rfl 81 rfl) c38 rfl) rfl rfl (hd 24 rfl 77 rfl) c34 rfl
     ·intro ρz wz hz hk hd
      exact sk_val (v := .bool false) (xr_pickF rfl (hd 24 rfl 77 rfl) c34 (hd 34 rfl 87 rfl)) rfl rfl
     ·intro ρz wz hz hk hd
      exact sk_val (v := .bool false) (xr_move rfl (hd 35 rfl 88 rfl)) rfl rfl
     ·intro ρz wz hz hk hd
      exact sk_gval (v := (pt G1 8)) (xr_fieldAddr (p := 0) (q := 8) rfl fl110_3 ((hk 1 rfl).trans e1)) rfl rfl (hd 36 rfl 89 rfl) rfl rfl
     ·intro ρz wz hz hk hd
      exact sk_gval (v := V0_0) (xr_load1 (v := V0_0) rfl ag25 (hd 37 rfl 90 rfl) ((b2.gr hz).seg 8 rfl rfl)) rfl rfl (hd 36 rfl 89 rfl) rfl rfl
     ·intro ρz wz hz hk hd
      exact sk_gval (v := .int .i64 (List.length a0.Charts : Int)) (xr_lenR rfl Try.underlying25 (hd 38 rfl 91 rfl) (R0_0.gr (fB.gr hz))) rfl rfl (hd 36 rfl 89 rfl) rfl rfl
     ·intro ρz wz hz hk hd
      exact sk_gval (v := (pt G1 1)) (xr_fieldAddr (p := 0) (q := 1) rfl fl110_1 ((hk 1 rfl).trans e1)) rfl rfl (hd 36 rfl 89 rfl) rfl rfl
     ·intro ρz wz hz hk hd
      exact sk_gval (v := (pt G1 1)) (xr_fieldAddr (p := 1) (q := 0) rfl fl108_0 (hd 40 rfl 93 rfl)) rfl rfl (hd 36 rfl 89 rfl) rfl rfl
     ·intro ρz wz hz hk hd
      exact sk_gval (xr_loadS (ss := [(sI a0.Tickets.Geometry.Blocks), (sI a0.Tickets.Geometry.Slots), (sI a0.Tickets.Geometry.Gens)]) rfl ag106 sz106 rfl (hd 41 rfl 94 rfl) ((b2.gr hz).segs 1 3 rfl)) rfl rfl (hd 36 rfl 89 rfl) rfl rfl
     ·intro ρz wz hz hk hd
      refine sk_gop (opv_call rfl cal145 (ac (hd 42 rfl 95 rfl) an) (geom_Charts.ok fu _ a0.Tickets.Geometry _ k53)) rfl rfl (hd 36 rfl 89 rfl) rfl ?_
      rintro _ wy ⟨rfl, q54⟩
      exact ⟨rfl, q54⟩
     intro ρz wz hz hk hd
     exact sk_gval (v := .bool (!decide ((List.length a0.Charts : Int) = t52))) (xr_neI rfl Try.underlying3 rfl (hd 39 rfl 92 rfl) (hd 43 rfl 96 rfl)) rfl rfl (hd 36 rfl 89 rfl) rfl rfl
    intro ρ55 w56 q57 hk hd
    have e1 := (hk 1 rfl).trans e1
    have e3 := (hk 3 rfl).trans rfl
    have e89 := hd 36 rfl 89 rfl
    have e97 := hd 44 rfl 97 rfl
    have b2 := b2.gr q57
    have fB := fB.gr q57
    refine ol_val (v := .bool (!decide ((List.length a0.Charts : Int) = t52))) (xr_pickF rfl e89 rfl e97) rfl rfl rfl ?_
    refine ol_nil ?_
    obtain rfl := Option.some.inj j24
    refine thn_i ?_
    exact ⟨e1, e3, rfl, q57⟩
   rcases is j24 with ⟨c58, j24⟩ | ⟨c58, j24⟩
   ·skip
    obtain ⟨t59, k60, j24⟩ := bs j24
    rcases is j24 with ⟨c62, j24⟩ | ⟨c62, j24⟩
    ·skip
     refine cw_drawL 45 [fun vz wz => vz = ((pt G1 1) : Value), fun vz wz => vz = ((pt G1 5) : Value), fun vz wz => vz = (.int .i64 a0.Tickets.High : Value), fun vz wz => vz = (.bool (decide (a0.Tickets.High = 0)) : Value), fun vz wz => vz = (.bool (decide (a0.Tickets.High = 0)) : Value), fun vz wz => vz = ((pt G1 1) : Value), fun vz wz => vz = ((pt G1 4) : Value), fun vz wz => vz = (.int .i64 a0.Tickets.Top : Value), fun vz wz => vz = (.bool (!decide (a0.Tickets.Top = 0)) : Value), fun vz wz => vz = (.bool (!decide (a0.Tickets.Top = 0)) : Value), fun vz wz => vz = (.bool (!decide (a0.Tickets.Top = 0)) : Value), fun vz wz => vz = ((pt G1 1) : Value), fun vz wz => vz = ((pt G1 5) : Value), fun vz wz => vz = (.int .i64 a0.Tickets.High : Value), fun vz wz => vz = (.bool (decide (a0.Tickets.High > 0)) : Value), fun vz wz => vz = (.bool (decide (a0.Tickets.High > 0)) : Value), fun vz _ => vz = undef, fun vz _ => vz = undef, fun vz _ => vz = undef, fun vz _ => vz = undef, fun vz _ => vz = undef, fun vz _ => vz = undef, fun vz wz => vz = (.bool false : Value), fun vz wz => vz = (.bool false : Value), fun vz wz => vz = (.bool false : Value), fun vz wz => vz = ((pt G1 7) : Value), fun vz wz => vz = (.int .i64 a0.Dir : Value), fun vz wz => vz = (.bool (!decide (a0.Dir = 0)) : Value), fun vz wz => vz = (.bool (!decide (a0.Dir = 0)) : Value), fun vz wz => vz = (Value.func (.func 144) #[] #[(pt G1 0)] : Value), fun vz wz => vz = ((pt G1 7) : Value), fun vz wz => vz = (.int .i64 a0.Dir : Value), fun vz wz => vz = (.bool t59 : Value), fun vz wz => vz = (.bool (!t59) : Value), fun vz wz => vz = (.bool (!t59) : Value), fun vz wz => vz = (.bool (!t59) : Value), fun vz wz => vz = (.bool (!t59) : Value), fun vz _ => vz = undef, fun vz _ => vz = undef, fun vz _ => vz = undef, fun vz _ => vz = undef, fun vz _ => vz = undef, fun vz _ => vz = undef, fun vz _ => vz = undef, fun vz _ => vz = undef] mo rfl ⟨fun _ _ _ h _ => h, fun _ _ _ h _ => h, fun _ _ _ h _ => h, fun _ _ _ h _ => h, fun _ _ _ h _ => h, fun _ _ _ h _ => h, fun _ _ _ h _ => h, fun _ _ _ h _ => h, fun _ _ _ h _ => h, fun _ _ _ h _ => h, fun _ _ _ h _ => h, fun _ _ _ h _ => h, fun _ _ _ h _ => h, fun _ _ _ h _ => h, fun _ _ _ h _ => h, fun _ _ _ h _ => h, fun _ _ _ h _ => h, fun _ _ _ h _ => h, fun _ _ _ h _ => h, fun _ _ _ h _ => h, fun _ _ _ h _ => h, fun _ _ _ h _ => h, fun _ _ _ h _ => h, fun _ _ _ h _ => h, fun _ _ _ h _ => h, fun _ _ _ h _ => h, fun _ _ _ h _ => h, fun _ _ _ h _ => h, fun _ _ _ h _ => h, fun _ _ _ h _ => h, fun _ _ _ h _ => h, fun _ _ _ h _ => h, fun _ _ _ h _ => h, fun _ _ _ h _ => h, fun _ _ _ h _ => h, fun _ _ _ h _ => h, fun _ _ _ h _ => h, fun _ _ _ h _ => h, fun _ _ _ h _ => h, fun _ _ _ h _ => h, fun _ _ _ h _ => h, fun _ _ _ h _ => h, fun _ _ _ h _ => h, fun _ _ _ h _ => h, fun _ _ _ h _ => h, trivial⟩ ?_ ?_
     ·refine ⟨?_, ?_, ?_, ?_, ?_, ?_, ?_, ?_, ?_, ?_, ?_, ?_, ?_, ?_, ?_, ?_, ?_, ?_, ?_, ?_, ?_, ?_, ?_, ?_, ?_, ?_, ?_, ?_, ?_, ?_, ?_, ?_, ?_, ?_, ?_, ?_, ?_, ?_, ?_, ?_, ?_, ?_, ?_, ?_, ?_, trivial⟩
      ·intro ρz wz hz hk hd
       exact sk_val (v := (pt G1 1)) (xr_fieldAddr (p := 0) (q := 1) rfl fl110_1 ((hk 1 rfl).trans e1)) rfl rfl
      ·intro ρz wz hz hk hd
       exact sk_val (v := (pt G1 5)) (xr_fieldAddr (p := 1) (q := 4) rfl fl108_2 (hd 0 rfl 53 rfl)) rfl rfl
      ·intro ρz wz hz hk hd
       exact sk_val (v := .int .i64 a0.Tickets.High) (xr_load1 (v := .int .i64 a0.Tickets.High) rfl ag3 (hd 1 rfl 54 rfl) ((b2.gr hz).seg 5 rfl rfl)) rfl rfl
      ·intro ρz wz hz hk hd
       exact sk_val (v := .bool (decide (a0.Tickets.High = 0))) (xr_eqI rfl Try.underlying3 rfl (hd 2 rfl 55 rfl) rfl) rfl rfl
      ·intro ρz wz hz hk hd
       exact sk_val (v := .bool (decide (a0.Tickets.High = 0))) (xr_move rfl (hd 3 rfl 56 rfl)) rfl rfl
      ·intro ρz wz hz hk hd
       exact sk_gval (v := (pt G1 1)) (xr_fieldAddr (p := 0) (q := 1) rfl fl110_1 ((hk 1 rfl).trans e1)) rfl rfl (hd 4 rfl 57 rfl) c25 rfl
      ·intro ρz wz hz hk hd
       exact sk_gval (v := (pt G1 4)) (xr_fieldAddr (p := 1) (q := 3) rfl fl108_1 (hd 5 rfl 58 rfl)) rfl rfl (hd 4 rfl 57 rfl) c25 rfl
      ·intro ρz wz hz hk hd
       exact sk_gval (v := .int .i64 a0.Tickets.Top) (xr_load1 (v := .int .i64 a0.Tickets.Top) rfl ag3 (hd 6 rfl 59 rfl) ((b2.gr hz).seg 4 rfl rfl)) rfl rfl (hd 4 rfl 57 rfl) c25 rfl
      ·intro ρz wz hz hk hd
       exact sk_gval (v := .bool (!decide (a0.Tickets.Top = 0))) (xr_neI rfl Try.underlying3 rfl (hd 7 rfl 60 rfl) rfl) rfl rfl (hd 4 rfl 57 rfl) c25 rfl
      ·intro ρz wz hz hk hd
       exact sk_val (v := .bool (!decide (a0.Tickets.Top = 0))) (xr_pickT rfl (hd 4 rfl 57 rfl) c25 (hd 8 rfl 61 rfl)) rfl rfl
      ·intro ρz wz hz hk hd
       exact sk_val (v := .bool (!decide (a0.Tickets.Top = 0))) (xr_move rfl (hd 9 rfl 62 rfl)) rfl rfl
      ·intro ρz wz hz hk hd
       exact sk_gval (v := (pt G1 1)) (xr_fieldAddr (p := 0) (q := 1) rfl fl110_1 ((hk 1 rfl).trans e1)) rfl rfl (hd 10 rfl 63 rfl) c26 rfl
      ·intro ρz wz hz hk hd
       exact sk_gval (v := (pt G1 5)) (xr_fieldAddr (p := 1) (q := 4) rfl fl108_2 (hd 11 rfl 64 rfl)) rfl rfl (hd 10 rfl 63 rfl) c26 rfl
      ·intro ρz wz hz hk hd
       exact sk_gval (v := .int .i64 a0.Tickets.High) (xr_load1 (v := .int .i64 a0.Tickets.High) rfl ag3 (hd 12 rfl 65 rfl) ((b2.gr hz).seg 5 rfl rfl)) rfl rfl (hd 10 rfl 63 rfl) c26 rfl
      ·intro ρz wz hz hk hd
       exact sk_gval (v := .bool (decide (a0.Tickets.High > 0))) (xr_gtr rfl (hd 13 rfl 66 rfl) rfl) rfl rfl (hd 10 rfl 63 rfl) c26 rfl
      ·intro ρz wz hz hk hd
       exact sk_gval (v := .bool (decide (a0.Tickets.High > 0))) (xr_move rfl (hd 14 rfl 67 rfl)) rfl rfl (hd 10 rfl 63 rfl) c26 rfl
      ·intro ρz wz hz hk hd
       exact sk_skip rfl rfl (hd 15 rfl 68 rfl) c30 rfl
      ·intro ρz wz hz hk hd
       exact sk_skip rfl rfl (hd 15 rfl 68 rfl) c30 rfl
      ·intro ρz wz hz hk hd
       exact sk_skip rfl rfl (hd 15 rfl 68 rfl) c30 rfl
      ·intro ρz wz hz hk hd
       exact sk_skip rfl rfl (hd 15 rfl 68 rfl) c30 rfl
      ·intro ρz wz hz hk hd
       exact sk_skip rfl rfl (hd 15 rfl 68 rfl) c30 rfl
      ·intro ρz wz hz hk hd
       exact sk_skip rfl rfl (hd 15 rfl 68 rfl) c30 rfl
      ·intro ρz wz hz hk hd
       exact sk_gval (v := .bool false) (xr_pickF rfl (hd 15 rfl 68 rfl) c30 rfl) rfl rfl (hd 10 rfl 63 rfl) c26 rfl
      ·intro ρz wz hz hk hd
       exact sk_val (v := .bool false) (xr_pickF rfl (hd 10 rfl 63 rfl) c26 (hd 22 rfl 75 rfl)) rfl rfl
      ·intro ρz wz hz hk hd
       exact sk_val (v := .bool false) (xr_move rfl (hd 23 rfl 76 rfl)) rfl rfl
      ·intro ρz wz hz hk hd
       exact sk_gval (v := (pt G1 7)) (xr_fieldAddr (p := 0) (q := 7) rfl fl110_2 ((hk 1 rfl).trans e1)) rfl rfl (hd 24 rfl 77 rfl) rfl rfl
      ·intro ρz wz hz hk hd
       exact sk_gval (v := .int .i64 a0.Dir) (xr_load1 (v := .int .i64 a0.Dir) rfl ag3 (hd 25 rfl 78 rfl) ((b2.gr hz).seg 7 rfl rfl)) rfl rfl (hd 24 rfl 77 rfl) rfl rfl
      ·intro ρz wz hz hk hd
       exact sk_gval (v := .bool (!decide (a0.Dir = 0))) (xr_neI rfl Try.underlying3 rfl (hd 26 rfl 79 rfl) rfl) rfl rfl (hd 24 rfl 77 rfl) rfl rfl
      ·intro ρz wz hz hk hd
       exact sk_gval (v := .bool (!decide (a0.Dir = 0))) (xr_move rfl (hd 27 rfl 80 rfl)) rfl rfl (hd 24 rfl 77 rfl) rfl rfl
      ·intro ρz wz hz hk hd
       exact sk_gval (v := Value.func (.func 144) #[] #[(pt G1 0)]) (xr_move rfl ((hk 3 rfl).trans rfl)) rfl rfl (hd 28 rfl 81 rfl) c58 rfl
      ·intro ρz wz hz hk hd
       exact sk_gval (v := (pt G1 7)) (xr_fieldAddr (p := 0) (q := 7) rfl fl110_2 ((hk 1 rfl).trans e1)) rfl rfl (hd 28 rfl 81 rfl) c58 rfl
      ·intro ρz wz hz hk hd
       exact sk_gval (v := .int .i64 a0.Dir) (xr_load1 (v := .int .i64 a0.Dir) rfl ag3 (hd 30 rfl 83 rfl) ((b2.gr hz).seg 7 rfl rfl)) rfl rfl (hd 28 rfl 81 rfl) c58 rfl
      ·intro ρz wz hz hk hd
       refine sk_gop (opv_callV (C := [(pt G1 0)]) rfl (hd 29 rfl 82 rfl) cal144 (ac (hd 31 rfl 84 rfl) an) (super_Right_1__c.ok fu _ a0.Dir a0 G1 V0_0 (R0_0.gr (fB.gr hz)) (b2.gr hz) _ k60)) rfl rfl (hd 28 rfl 81 rfl) c58 ?_
       rintro _ wy ⟨rfl, q61⟩
       exact ⟨rfl, q61⟩
      ·intro ρz wz hz hk hd
       exact sk_gval (v := .bool (!t59)) (xr_not rfl (hd 32 rfl 85 rfl)) rfl rfl (hd 28 rfl 81 rfl) c58 rfl
      ·intro ρz wz hz hk hd
       exact sk_gval (v := .bool (!t59)) (xr_pickT rfl (hd 28 rfl 81 rfl) c58 (hd 33 rfl 86 rfl)) rfl rfl (hd 24 rfl 77 rfl) rfl rfl
      ·intro ρz wz hz hk hd
       exact sk_val (v := .bool (!t59)) (xr_pickF rfl (hd 24 rfl 77 rfl) rfl (hd 34 rfl 87 rfl)) rfl rfl
      ·intro ρz wz hz hk hd
       exact sk_val (v := .bool (!t59)) (xr_move rfl (hd 35 rfl 88 rfl)) rfl rfl
      ·intro ρz wz hz hk hd
       exact sk_skip rfl rfl (hd 36 rfl 89 rfl) c62 rfl
      ·intro ρz wz hz hk hd
       exact sk_skip rfl rfl (hd 36 rfl 89 rfl) c62 rfl
      ·intro ρz wz hz hk hd
       exact sk_skip rfl rfl (hd 36 rfl 89 rfl) c62 rfl
      ·intro ρz wz hz hk hd
       exact sk_skip rfl rfl (hd 36 rfl 89 rfl) c62 rfl
      ·intro ρz wz hz hk hd
       exact sk_skip rfl rfl (hd 36 rfl 89 rfl) c62 rfl
      ·intro ρz wz hz hk hd
       exact sk_skip rfl rfl (hd 36 rfl 89 rfl) c62 rfl
      ·intro ρz wz hz hk hd
       exact sk_skip rfl rfl (hd 36 rfl 89 rfl) c62 rfl
      intro ρz wz hz hk hd
      exact sk_skip rfl rfl (hd 36 rfl 89 rfl) c62 rfl
     intro ρ63 w64 q65 hk hd
     have e1 := (hk 1 rfl).trans e1
     have e3 := (hk 3 rfl).trans rfl
     have e89 := hd 36 rfl 89 rfl
     have b2 := b2.gr q65
     have fB := fB.gr q65
     refine ol_val (v := .bool true) (xr_pickT rfl e89 c62 rfl) rfl rfl rfl ?_
     refine ol_nil ?_
     obtain rfl := Option.some.inj j24
     refine thn_i ?_
     exact ⟨e1, e3, rfl, q65⟩
    obtain ⟨t66, k67, j24⟩ := bs j24
    refine cw_drawL 45 [fun vz wz => vz = ((pt G1 1) : Value), fun vz wz => vz = ((pt G1 5) : Value), fun vz wz => vz = (.int .i64 a0.Tickets.High : Value), fun vz wz => vz = (.bool (decide (a0.Tickets.High = 0)) : Value), fun vz wz => vz = (.bool (decide (a0.Tickets.High = 0)) : Value), fun vz wz => vz = ((pt G1 1) : Value), fun vz wz => vz = ((pt G1 4) : Value), fun vz wz => vz = (.int .i64 a0.Tickets.Top : Value), fun vz wz => vz = (.bool (!decide (a0.Tickets.Top = 0)) : Value), fun vz wz => vz = (.bool (!decide (a0.Tickets.Top = 0)) : Value), fun vz wz => vz = (.bool (!decide (a0.Tickets.Top = 0)) : Value), fun vz wz => vz = ((pt G1 1) : Value), fun vz wz => vz = ((pt G1 5) : Value), fun vz wz => vz = (.int .i64 a0.Tickets.High : Value), fun vz wz => vz = (.bool (decide (a0.Tickets.High > 0)) : Value), fun vz wz => vz = (.bool (decide (a0.Tickets.High > 0)) : Value), fun vz _ => vz = undef, fun vz _ => vz = undef, fun vz _ => vz = undef, fun vz _ => vz = undef, fun vz _ => vz = undef, fun vz _ => vz = undef, fun vz wz => vz = (.bool false : Value), fun vz wz => vz = (.bool false : Value), fun vz wz => vz = (.bool false : Value), fun vz wz => vz = ((pt G1 7) : Value), fun vz wz => vz = (.int .i64 a0.Dir : Value), fun vz wz => vz = (.bool (!decide (a0.Dir = 0)) : Value), fun vz wz => vz = (.bool (!decide (a0.Dir = 0)) : Value), fun vz wz => vz = (Value.func (.func 144) #[] #[(pt G1 0)] : Value), fun vz wz => vz = ((pt G1 7) : Value), fun vz wz => vz = (.int .i64 a0.Dir : Value), fun vz wz => vz = (.bool t59 : Value), fun vz wz => vz = (.bool (!t59) : Value), fun vz wz => vz = (.bool (!t59) : Value), fun vz wz => vz = (.bool (!t59) : Value), fun vz wz => vz = (.bool (!t59) : Value), fun vz wz => vz = ((pt G1 8) : Value), fun vz wz => vz = (V0_0 : Value), fun vz wz => vz = (.int .i64 (List.length a0.Charts : Int) : Value), fun vz wz => vz = ((pt G1 1) : Value), fun vz wz => vz = ((pt G1 1) : Value), fun vz wz => vz = (aggV [(sI a0.Tickets.Geometry.Blocks), (sI a0.Tickets.Geometry.Slots), (sI a0.Tickets.Geometry.Gens)] : Value), fun vz wz => vz = (.int .i64 t66 : Value), fun vz wz => vz = (.bool (!decide ((List.length a0.Charts : Int) = t66)) : Value)] mo rfl ⟨fun _ _ _ h _ => h, fun _ _ _ h _ => h, fun _ _ _ h _ => h, fun _ _ _ h _ => h, fun _ _ _ h _ => h, fun _ _ _ h _ => h, fun _ _ _ h _ => h, fun _ _ _ h _ => h, fun _ _ _ h _ => h, fun _ _ _ h _ => h, fun _ _ _ h _ => h, fun _ _ _ h _ => h, fun _ _ _ h _ => h, fun _ _ _ h _ => h, fun _ _ _ h _ => h, fun _ _ _ h _ => h, fun _ _ _ h _ => h, fun _ _ _ h _ => h, fun _ _ _ h _ => h, fun _ _ _ h _ => h, fun _ _ _ h _ => h, fun _ _ _ h _ => h, fun _ _ _ h _ => h, fun _ _ _ h _ => h, fun _ _ _ h _ => h, fun _ _ _ h _ => h, fun _ _ _ h _ => h, fun _ _ _ h _ => h, fun _ _ _ h _ => h, fun _ _ _ h _ => h, fun _ _ _ h _ => h, fun _ _ _ h _ => h, fun _ _ _ h _ => h, fun _ _ _ h _ => h, fun _ _ _ h _ => h, fun _ _ _ h _ => h, fun _ _ _ h _ => h, fun _ _ _ h _ => h, fun _ _ _ h _ => h, fun _ _ _ h _ => h, fun _ _ _ h _ => h, fun _ _ _ h _ => h, fun _ _ _ h _ => h, fun _ _ _ h _ => h, fun _ _ _ h _ => h, trivial⟩ ?_ ?_
    ·refine ⟨?_, ?_, ?_, ?_, ?_, ?_, ?_, ?_, ?_, ?_, ?_, ?_, ?_, ?_, ?_, ?_, ?_, ?_, ?_, ?_, ?_, ?_, ?_, ?_, ?_, ?_, ?_, ?_, ?_, ?_, ?_, ?_, ?_, ?_, ?_, ?_, ?_, ?_, ?_, ?_, ?_, ?_, ?_, ?_, ?_, trivial⟩
     ·intro ρz wz hz hk hd
      exact sk_val (v := (pt G1 1)) (xr_fieldAddr (p := 0) (q := 1) rfl fl110_1 ((hk 1 rfl).trans e1)) rfl rfl
     ·intro ρz wz hz hk hd
      exact sk_val (v := (pt G1 5)) (xr_fieldAddr (p := 1) (q := 4) rfl fl108_2 (hd 0 rfl 53 rfl)) rfl rfl
     ·intro ρz wz hz hk hd
      exact sk_val (v := .int .i64 a0.Tickets.High) (xr_load1 (v := .int .i64 a0.Tickets.High) rfl ag3 (hd 1 rfl 54 rfl) ((b2.gr hz).seg 5 rfl rfl)) rfl rfl
     ·intro ρz wz hz hk hd
      exact sk_val (v := .bool (decide (a0.Tickets.High = 0))) (xr_eqI rfl Try.underlying3 rfl (hd 2 rfl 55 rfl) rfl) rfl rfl
     ·intro ρz wz hz hk hd
      exact sk_val (v := .bool (decide (a0.Tickets.High = 0))) (xr_move rfl (hd 3 rfl 56 rfl)) rfl rfl
     ·intro ρz wz hz hk hd
      exact sk_gval (v := (pt G1 1)) (xr_fieldAddr (p := 0) (q := 1) rfl fl110_1 ((hk 1 rfl).trans e1)) rfl rfl (hd 4 rfl 57 rfl) c25 rfl
     ·intro ρz wz hz hk hd
      exact sk_gval (v := (pt G1 4)) (xr_fieldAddr (p := 1) (q := 3) rfl fl108_1 (hd 5 rfl 58 rfl)) rfl rfl (hd 4 rfl 57 rfl) c25 rfl
     ·intro ρz wz hz hk hd
      exact sk_gval (v := .int .i64 a0.Tickets.Top) (xr_load1 (v := .int .i64 a0.Tickets.Top) rfl ag3 (hd 6 rfl 59 rfl) ((b2.gr hz).seg 4 rfl rfl)) rfl rfl (hd 4 rfl 57 rfl) c25 rfl
     ·intro ρz wz hz hk hd
      exact sk_gval (v := .bool (!decide (a0.Tickets.Top = 0))) (xr_neI rfl Try.underlying3 rfl (hd 7 rfl 60 rfl) rfl) rfl rfl (hd 4 rfl 57 rfl) c25 rfl
     ·intro ρz wz hz hk hd
      exact sk_val (v := .bool (!decide (a0.Tickets.Top = 0))) (xr_pickT rfl (hd 4 rfl 57 rfl) c25 (hd 8 rfl 61 rfl)) rfl rfl
     ·intro ρz wz hz hk hd
      exact sk_val (v := .bool (!decide (a0.Tickets.Top = 0))) (xr_move rfl (hd 9 rfl 62 rfl)) rfl rfl
     ·intro ρz wz hz hk hd
      exact sk_gval (v := (pt G1 1)) (xr_fieldAddr (p := 0) (q := 1) rfl fl110_1 ((hk 1 rfl).trans e1)) rfl rfl (hd 10 rfl 63 rfl) c26 rfl
     ·intro ρz wz hz hk hd
      exact sk_gval (v := (pt G1 5)) (xr_fieldAddr (p := 1) (q := 4) rfl fl108_2 (hd 11 rfl 64 rfl)) rfl rfl (hd 10 rfl 63 rfl) c26 rfl
     ·intro ρz wz hz hk hd
      exact sk_gval (v := .int .i64 a0.Tickets.High) (xr_load1 (v := .int .i64 a0.Tickets.High) rfl ag3 (hd 12 rfl 65 rfl) ((b2.gr hz).seg 5 rfl rfl)) rfl rfl (hd 10 rfl 63 rfl) c26 rfl
     ·intro ρz wz hz hk hd
      exact sk_gval (v := .bool (decide (a0.Tickets.High > 0))) (xr_gtr rfl (hd 13 rfl 66 rfl) rfl) rfl rfl (hd 10 rfl 63 rfl) c26 rfl
     ·intro ρz wz hz hk hd
      exact sk_gval (v := .bool (decide (a0.Tickets.High > 0))) (xr_move rfl (hd 14 rfl 67 rfl)) rfl rfl (hd 10 rfl 63 rfl) c26 rfl
     ·intro ρz wz hz hk hd
      exact sk_skip rfl rfl (hd 15 rfl 68 rfl) c30 rfl
     ·intro ρz wz hz hk hd
      exact sk_skip rfl rfl (hd 15 rfl 68 rfl) c30 rfl
     ·intro ρz wz hz hk hd
      exact sk_skip rfl rfl (hd 15 rfl 68 rfl) c30 rfl
     ·intro ρz wz hz hk hd
      exact sk_skip rfl rfl (hd 15 rfl 68 rfl) c30 rfl
     ·intro ρz wz hz hk hd
      exact sk_skip rfl rfl (hd 15 rfl 68 rfl) c30 rfl
     ·intro ρz wz hz hk hd
      exact sk_skip rfl rfl (hd 15 rfl 68 rfl) c30 rfl
     ·intro ρz wz hz hk hd
      exact sk_gval (v := .bool false) (xr_pickF rfl (hd 15 rfl 68 rfl) c30 rfl) rfl rfl (hd 10 rfl 63 rfl) c26 rfl
     ·intro ρz wz hz hk hd
      exact sk_val (v := .bool false) (xr_pickF rfl (hd 10 rfl 63 rfl) c26 (hd 22 rfl 75 rfl)) rfl rfl
     ·intro ρz wz hz hk hd
      exact sk_val (v := .bool false) (xr_move rfl (hd 23 rfl 76 rfl)) rfl rfl
     ·intro ρz wz hz hk hd
      exact sk_gval (v := (pt G1 7)) (xr_fieldAddr (p := 0) (q := 7) rfl fl110_2 ((hk 1 rfl).trans e1)) rfl rfl (hd 24 rfl 77 rfl) rfl rfl
     ·intro ρz wz hz hk hd
      exact sk_gval (v := .int .i64 a0.Dir) (xr_load1 (v := .int .i64 a0.Dir) rfl ag3 (hd 25 rfl 78 rfl) ((b2.gr hz).seg 7 rfl rfl)) rfl rfl (hd 24 rfl 77 rfl) rfl rfl
     ·intro ρz wz hz hk hd
      exact sk_gval (v := .bool (!decide (a0.Dir = 0))) (xr_neI rfl Try.underlying3 rfl (hd 26 rfl 79 rfl) rfl) rfl rfl (hd 24 rfl 77 rfl) rfl rfl
     ·intro ρz wz hz hk hd
      exact sk_gval (v := .bool (!decide (a0.Dir = 0))) (xr_move rfl (hd 27 rfl 80 rfl)) rfl rfl (hd 24 rfl 77 rfl) rfl rfl
     ·intro ρz wz hz hk hd
      exact sk_gval (v := Value.func (.func 144) #[] #[(pt G1 0)]) (xr_move rfl ((hk 3 rfl).trans rfl)) rfl rfl (hd 28 rfl 81 rfl) c58 rfl
     ·intro ρz wz hz hk hd
      exact sk_gval (v := (pt G1 7)) (xr_fieldAddr (p := 0) (q := 7) rfl fl110_2 ((hk 1 rfl).trans e1)) rfl rfl (hd 28 rfl 81 rfl) c58 rfl
     ·intro ρz wz hz hk hd
      exact sk_gval (v := .int .i64 a0.Dir) (xr_load1 (v := .int .i64 a0.Dir) rfl ag3 (hd 30 rfl 83 rfl) ((b2.gr hz).seg 7 rfl rfl)) rfl rfl (hd 28 rfl 81 rfl) c58 rfl
     ·intro ρz wz hz hk hd
      refine sk_gop (opv_callV (C := [(pt G1 0)]) rfl (hd 29 rfl 82 rfl) cal144 (ac (hd 31 rfl 84 rfl) an) (super_Right_1__c.ok fu _ a0.Dir a0 G1 V0_0 (R0_0.gr (fB.gr hz)) (b2.gr hz) _ k60)) rfl rfl (hd 28 rfl 81 rfl) c58 ?_
      rintro _ wy ⟨rfl, q61⟩
      exact ⟨rfl, q61⟩
     ·intro ρz wz hz hk hd
      exact sk_gval (v := .bool (!t59)) (xr_not rfl (hd 32 rfl 85 rfl)) rfl rfl (hd 28 rfl 81 rfl) c58 rfl
     ·intro ρz wz hz hk hd
      exact sk_gval (v := .bool (!t59)) (xr_pickT rfl (hd 28 rfl 81 rfl) c58 (hd 33 rfl 86 rfl)) rfl rfl (hd 24 rfl 77 rfl) rfl rfl
     ·intro ρz wz hz hk hd
      exact sk_val (v := .bool (!t59)) (xr_pickF rfl (hd 24 rfl 77 rfl) rfl (hd 34 rfl 87 rfl)) rfl rfl
     ·intro ρz wz hz hk hd
      exact sk_val (v := .bool (!t59)) (xr_move rfl (hd 35 rfl 88 rfl)) rfl rfl
     ·intro ρz wz hz hk hd
      exact sk_gval (v := (pt G1 8)) (xr_fieldAddr (p := 0) (q := 8) rfl fl110_3 ((hk 1 rfl).trans e1)) rfl rfl (hd 36 rfl 89 rfl) c62 rfl
     ·intro ρz wz hz hk hd
      exact sk_gval (v := V0_0) (xr_load1 (v := V0_0) rfl ag25 (hd 37 rfl 90 rfl) ((b2.gr hz).seg 8 rfl rfl)) rfl rfl (hd 36 rfl 89 rfl) c62 rfl
     ·intro ρz wz hz hk hd
      exact sk_gval (v := .int .i64 (List.length a0.Charts : Int)) (xr_lenR rfl Try.underlying25 (hd 38 rfl 91 rfl) (R0_0.gr (fB.gr hz))) rfl rfl (hd 36 rfl 89 rfl) c62 rfl
     ·intro ρz wz hz hk hd
      exact sk_gval (v := (pt G1 1)) (xr_fieldAddr (p := 0) (q := 1) rfl fl110_1 ((hk 1 rfl).trans e1)) rfl rfl (hd 36 rfl 89 rfl) c62 rfl
     ·intro ρz wz hz hk hd
      exact sk_gval (v := (pt G1 1)) (xr_fieldAddr (p := 1) (q := 0) rfl fl108_0 (hd 40 rfl 93 rfl)) rfl rfl (hd 36 rfl 89 rfl) c62 rfl
     ·intro ρz wz hz hk hd
      exact sk_gval (xr_loadS (ss := [(sI a0.Tickets.Geometry.Blocks), (sI a0.Tickets.Geometry.Slots), (sI a0.Tickets.Geometry.Gens)]) rfl ag106 sz106 rfl (hd 41 rfl 94 rfl) ((b2.gr hz).segs 1 3 rfl)) rfl rfl (hd 36 rfl 89 rfl) c62 rfl
     ·intro ρz wz hz hk hd
      refine sk_gop (opv_call rfl cal145 (ac (hd 42 rfl 95 rfl) an) (geom_Charts.ok fu _ a0.Tickets.Geometry _ k67)) rfl rfl (hd 36 rfl 89 rfl) c62 ?_
      rintro _ wy ⟨rfl, q68⟩
      exact ⟨rfl, q68⟩
     intro ρz wz hz hk hd
     exact sk_gval (v := .bool (!decide ((List.length a0.Charts : Int) = t66))) (xr_neI rfl Try.underlying3 rfl (hd 39 rfl 92 rfl) (hd 43 rfl 96 rfl)) rfl rfl (hd 36 rfl 89 rfl) c62 rfl
    intro ρ69 w70 q71 hk hd
    have e1 := (hk 1 rfl).trans e1
    have e3 := (hk 3 rfl).trans rfl
    have e89 := hd 36 rfl 89 rfl
    have e97 := hd 44 rfl 97 rfl
    have b2 := b2.gr q71
    have fB := fB.gr q71
    refine ol_val (v := .bool (!decide ((List.length a0.Charts : Int) = t66))) (xr_pickF rfl e89 c62 e97) rfl rfl rfl ?_
    refine ol_nil ?_
    obtain rfl := Option.some.inj j24
    refine thn_i ?_
    exact ⟨e1, e3, rfl, q71⟩
   obtain ⟨t72, k73, j24⟩ := bs j24
   refine cw_drawL 45 [fun vz wz => vz = ((pt G1 1) : Value), fun vz wz => vz = ((pt G1 5) : Value), fun vz wz => vz = (.int .i64 a0.Tickets.High : Value), fun vz wz => vz = (.bool (decide (a0.Tickets.High = 0)) : Value), fun vz wz => vz = (.bool (decide (a0.Tickets.High = 0)) : Value), fun vz wz => vz = ((pt G1 1) : Value), fun vz wz => vz = ((pt G1 4) : Value), fun vz wz => vz = (.int .i64 a0.Tickets.Top : Value), fun vz wz => vz = (.bool (!decide (a0.Tickets.Top = 0)) : Value), fun vz wz => vz = (.bool (!decide (a0.Tickets.Top = 0)) : Value), fun vz wz => vz = (.bool (!decide (a0.Tickets.Top = 0)) : Value), fun vz wz => vz = ((pt G1 1) : Value), fun vz wz => vz = ((pt G1 5) : Value), fun vz wz => vz = (.int .i64 a0.Tickets.High : Value), fun vz wz => vz = (.bool (decide (a0.Tickets.High > 0)) : Value), fun vz wz => vz = (.bool (decide (a0.Tickets.High > 0)) : Value), fun vz _ => vz = undef, fun vz _ => vz = undef, fun vz _ => vz = undef, fun vz _ => vz = undef, fun vz _ => vz = undef, fun vz _ => vz = undef, fun vz wz => vz = (.bool false : Value), fun vz wz => vz = (.bool false : Value), fun vz wz => vz = (.bool false : Value), fun vz wz => vz = ((pt G1 7) : Value), fun vz wz => vz = (.int .i64 a0.Dir : Value), fun vz wz => vz = (.bool (!decide (a0.Dir = 0)) : Value), fun vz wz => vz = (.bool (!decide (a0.Dir = 0)) : Value), fun vz _ => vz = undef, fun vz _ => vz = undef, fun vz _ => vz = undef, fun vz _ => vz = undef, fun vz _ => vz = undef, fun vz wz => vz = (.bool false : Value), fun vz wz => vz = (.bool false : Value), fun vz wz => vz = (.bool false : Value), fun vz wz => vz = ((pt G1 8) : Value), fun vz wz => vz = (V0_0 : Value), fun vz wz => vz = (.int .i64 (List.length a0.Charts : Int) : Value), fun vz wz => vz = ((pt G1 1) : Value), fun vz wz => vz = ((pt G1 1) : Value), fun vz wz => vz = (aggV [(sI a0.Tickets.Geometry.Blocks), (sI a0.Tickets.Geometry.Slots), (sI a0.Tickets.Geometry.Gens)] : Value), fun vz wz => vz = (.int .i64 t72 : Value), fun vz wz => vz = (.bool (!decide ((List.length a0.Charts : Int) = t72)) : Value)] mo rfl ⟨fun _ _ _ h _ => h, fun _ _ _ h _ => h, fun _ _ _ h _ => h, fun _ _ _ h _ => h, fun _ _ _ h _ => h, fun _ _ _ h _ => h, fun _ _ _ h _ => h, fun _ _ _ h _ => h, fun _ _ _ h _ => h, fun _ _ _ h _ => h, fun _ _ _ h _ => h, fun _ _ _ h _ => h, fun _ _ _ h _ => h, fun _ _ _ h _ => h, fun _ _ _ h _ => h, fun _ _ _ h _ => h, fun _ _ _ h _ => h, fun _ _ _ h _ => h, fun _ _ _ h _ => h, fun _ _ _ h _ => h, fun _ _ _ h _ => h, fun _ _ _ h _ => h, fun _ _ _ h _ => h, fun _ _ _ h _ => h, fun _ _ _ h _ => h, fun _ _ _ h _ => h, fun _ _ _ h _ => h, fun _ _ _ h _ => h, fun _ _ _ h _ => h, fun _ _ _ h _ => h, fun _ _ _ h _ => h, fun _ _ _ h _ => h, fun _ _ _ h _ => h, fun _ _ _ h _ => h, fun _ _ _ h _ => h, fun _ _ _ h _ => h, fun _ _ _ h _ => h, fun _ _ _ h _ => h, fun _ _ _ h _ => h, fun _ _ _ h _ => h, fun _ _ _ h _ => h, fun _ _ _ h _ => h, fun _ _ _ h _ => h, fun _ _ _ h _ => h, fun _ _ _ h _ => h, trivial⟩ ?_ ?_
   ·refine ⟨?_, ?_, ?_, ?_, ?_, ?_, ?_, ?_, ?_, ?_, ?_, ?_, ?_, ?_, ?_, ?_, ?_, ?_, ?_, ?_, ?_, ?_, ?_, ?_, ?_, ?_, ?_, ?_, ?_, ?_, ?_, ?_, ?_, ?_, ?_, ?_, ?_, ?_, ?_, ?_, ?_, ?_, ?_, ?_, ?_, trivial⟩
    ·intro ρz wz hz hk hd
     exact sk_val (v := (pt G1 1)) (xr_fieldAddr (p := 0) (q := 1) rfl fl110_1 ((hk 1 rfl).trans e1)) rfl rfl
    ·intro ρz wz hz hk hd
     exact sk_val (v := (pt G1 5)) (xr_fieldAddr (p := 1) (q := 4) rfl fl108_2 (hd 0 rfl 53 rfl)) rfl rfl
    ·intro ρz wz hz hk hd
     exact sk_val (v := .int .i64 a0.Tickets.High) (xr_load1 (v := .int .i64 a0.Tickets.High) rfl ag3 (hd 1 rfl 54 rfl) ((b2.gr hz).seg 5 rfl rfl)) rfl rfl
    ·intro ρz wz hz hk hd
     exact sk_val (v := .bool (decide (a0.Tickets.High = 0))) (xr_eqI rfl Try.underlying3 rfl (hd 2 rfl 55 rfl) rfl) rfl rfl
    ·intro ρz wz hz hk hd
     exact sk_val (v := .bool (decide (a0.Tickets.High = 0))) (xr_move rfl (hd 3 rfl 56 rfl)) rfl rfl
    ·intro ρz wz hz hk hd
     exact sk_gval (v := (pt G1 1)) (xr_fieldAddr (p := 0) (q := 1) rfl fl110_1 ((hk 1 rfl).trans e1)) rfl rfl (hd 4 rfl 57 rfl) c25 rfl
    ·intro ρz wz hz hk hd
     exact sk_gval (v := (pt G1 4)) (xr_fieldAddr (p := 1) (q := 3) rfl fl108_1 (hd 5 rfl 58 rfl)) rfl rfl (hd 4 rfl 57 rfl) c25 rfl
    ·intro ρz wz hz hk hd
     exact sk_gval (v := .int .i64 a0.Tickets.Top) (xr_load1 (v := .int .i64 a0.Tickets.Top) rfl ag3 (hd 6 rfl 59 rfl) ((b2.gr hz).seg 4 rfl rfl)) rfl rfl (hd 4 rfl 57 rfl) c25 rfl
    ·intro ρz wz hz hk hd
     exact sk_gval (v := .bool (!decide (a0.Tickets.Top = 0))) (xr_neI rfl Try.underlying3 rfl (hd 7 rfl 60 rfl) rfl) rfl rfl (hd 4 rfl 57 rfl) c25 rfl
    ·intro ρz wz hz hk hd
     exact sk_val (v := .bool (!decide (a0.Tickets.Top = 0))) (xr_pickT rfl (hd 4 rfl 57 rfl) c25 (hd 8 rfl 61 rfl)) rfl rfl
    ·intro ρz wz hz hk hd
     exact sk_val (v := .bool (!decide (a0.Tickets.Top = 0))) (xr_move rfl (hd 9 rfl 62 rfl)) rfl rfl
    ·intro ρz wz hz hk hd
     exact sk_gval (v := (pt G1 1)) (xr_fieldAddr (p := 0) (q := 1) rfl fl110_1 ((hk 1 rfl).trans e1)) rfl rfl (hd 10 rfl 63 rfl) c26 rfl
    ·intro ρz wz hz hk hd
     exact sk_gval (v := (pt G1 5)) (xr_fieldAddr (p := 1) (q := 4) rfl fl108_2 (hd 11 rfl 64 rfl)) rfl rfl (hd 10 rfl 63 rfl) c26 rfl
    ·intro ρz wz hz hk hd
     exact sk_gval (v := .int .i64 a0.Tickets.High) (xr_load1 (v := .int .i64 a0.Tickets.High) rfl ag3 (hd 12 rfl 65 rfl) ((b2.gr hz).seg 5 rfl rfl)) rfl rfl (hd 10 rfl 63 rfl) c26 rfl
    ·intro ρz wz hz hk hd
     exact sk_gval (v := .bool (decide (a0.Tickets.High > 0))) (xr_gtr rfl (hd 13 rfl 66 rfl) rfl) rfl rfl (hd 10 rfl 63 rfl) c26 rfl
    ·intro ρz wz hz hk hd
     exact sk_gval (v := .bool (decide (a0.Tickets.High > 0))) (xr_move rfl (hd 14 rfl 67 rfl)) rfl rfl (hd 10 rfl 63 rfl) c26 rfl
    ·intro ρz wz hz hk hd
     exact sk_skip rfl rfl (hd 15 rfl 68 rfl) c30 rfl
    ·intro ρz wz hz hk hd
     exact sk_skip rfl rfl (hd 15 rfl 68 rfl) c30 rfl
    ·intro ρz wz hz hk hd
     exact sk_skip rfl rfl (hd 15 rfl 68 rfl) c30 rfl
    ·intro ρz wz hz hk hd
     exact sk_skip rfl rfl (hd 15 rfl 68 rfl) c30 rfl
    ·intro ρz wz hz hk hd
     exact sk_skip rfl rfl (hd 15 rfl 68 rfl) c30 rfl
    ·intro ρz wz hz hk hd
     exact sk_skip rfl rfl (hd 15 rfl 68 rfl) c30 rfl
    ·intro ρz wz hz hk hd
     exact sk_gval (v := .bool false) (xr_pickF rfl (hd 15 rfl 68 rfl) c30 rfl) rfl rfl (hd 10 rfl 63 rfl) c26 rfl
    ·intro ρz wz hz hk hd
     exact sk_val (v := .bool false) (xr_pickF rfl (hd 10 rfl 63 rfl) c26 (hd 22 rfl 75 rfl)) rfl rfl
    ·intro ρz wz hz hk hd
     exact sk_val (v := .bool false) (xr_move rfl (hd 23 rfl 76 rfl)) rfl rfl
    ·intro ρz wz hz hk hd
     exact sk_gval (v := (pt G1 7)) (xr_fieldAddr (p := 0) (q := 7) rfl fl110_2 ((hk 1 rfl).trans e1)) rfl rfl (hd 24 rfl 77 rfl) rfl rfl
    ·intro ρz wz hz hk hd
     exact sk_gval (v := .int .i64 a0.Dir) (xr_load1 (v := .int .i64 a0.Dir) rfl ag3 (hd 25 rfl 78 rfl) ((b2.gr hz).seg 7 rfl rfl)) rfl rfl (hd 24 rfl 77 rfl) rfl rfl
    ·intro ρz wz hz hk hd
     exact sk_gval (v := .bool (!decide (a0.Dir = 0))) (xr_neI rfl Try.underlying3 rfl (hd 26 rfl 79 rfl) rfl) rfl rfl (hd 24 rfl 77 rfl) rfl rfl
    ·intro ρz wz hz hk hd
     exact sk_gval (v := .bool (!decide (a0.Dir = 0))) (xr_move rfl (hd 27 rfl 80 rfl)) rfl rfl (hd 24 rfl 77 rfl) rfl rfl
    ·intro ρz wz hz hk hd
     exact sk_skip rfl rfl (hd 28 rfl 81 rfl) c58 rfl
    ·intro ρz wz hz hk hd
     exact sk_skip rfl rfl (hd 28 rfl 81 rfl) c58 rfl
    ·intro ρz wz hz hk hd
     exact sk_skip rfl rfl (hd 28 rfl 81 rfl) c58 rfl
    ·intro ρz wz hz hk hd
     exact sk_skip rfl rfl (hd 28 rfl 81 rfl) c58 rfl
    ·intro ρz wz hz hk hd
     exact sk_skip rfl rfl (hd 28 rfl 81 rfl) c58 rfl
    ·intro ρz wz hz hk hd
     exact sk_gval (v := .bool false) (xr_pickF rfl (hd 28 rfl 81 rfl) c58 rfl) rfl rfl (hd 24 rfl 77 rfl) rfl rfl
    ·intro ρz wz hz hk hd
     exact sk_val (v := .bool false) (xr_pickF rfl (hd 24 rfl 77 rfl) rfl (hd 34 rfl 87 rfl)) rfl rfl
    ·intro ρz wz hz hk hd
     exact sk_val (v := .bool false) (xr_move rfl (hd 35 rfl 88 rfl)) rfl rfl
    ·intro ρz wz hz hk hd
     exact sk_gval (v := (pt G1 8)) (xr_fieldAddr (p := 0) (q := 8) rfl fl110_3 ((hk 1 rfl).trans e1)) rfl rfl (hd 36 rfl 89 rfl) rfl rfl
    ·intro ρz wz hz hk hd
     exact sk_gval (v := V0_0) (xr_load1 (v := V0_0) rfl ag25 (hd 37 rfl 90 rfl) ((b2.gr hz).seg 8 rfl rfl)) rfl rfl (hd 36 rfl 89 rfl) rfl rfl
    ·intro ρz wz hz hk hd
     exact sk_gval (v := .int .i64 (List.length a0.Charts : Int)) (xr_lenR rfl Try.underlying25 (hd 38 rfl 91 rfl) (R0_0.gr (fB.gr hz))) rfl rfl (hd 36 rfl 89 rfl) rfl rfl
    ·intro ρz wz hz hk hd
     exact sk_gval (v := (pt G1 1)) (xr_fieldAddr (p := 0) (q := 1) rfl fl110_1 ((hk 1 rfl).trans e1)) rfl rfl (hd 36 rfl 89 rfl) rfl rfl
    ·intro ρz wz hz hk hd
     exact sk_gval (v := (pt G1 1)) (xr_fieldAddr (p := 1) (q := 0) rfl fl108_0 (hd 40 rfl 93 rfl)) rfl rfl (hd 36 rfl 89 rfl) rfl rfl
    ·intro ρz wz hz hk hd
     exact sk_gval (xr_loadS (ss := [(sI a0.Tickets.Geometry.Blocks), (sI a0.Tickets.Geometry.Slots), (sI a0.Tickets.Geometry.Gens)]) rfl ag106 sz106 rfl (hd 41 rfl 94 rfl) ((b2.gr hz).segs 1 3 rfl)) rfl rfl (hd 36 rfl 89 rfl) rfl rfl
    ·intro ρz wz hz hk hd
     refine sk_gop (opv_call rfl cal145 (ac (hd 42 rfl 95 rfl) an) (geom_Charts.ok fu _ a0.Tickets.Geometry _ k73)) rfl rfl (hd 36 rfl 89 rfl) rfl ?_
     rintro _ wy ⟨rfl, q74⟩
     exact ⟨rfl, q74⟩
    intro ρz wz hz hk hd
    exact sk_gval (v := .bool (!decide ((List.length a0.Charts : Int) = t72))) (xr_neI rfl Try.underlying3 rfl (hd 39 rfl 92 rfl) (hd 43 rfl 96 rfl)) rfl rfl (hd 36 rfl 89 rfl) rfl rfl
   intro ρ75 w76 q77 hk hd
   have e1 := (hk 1 rfl).trans e1
   have e3 := (hk 3 rfl).trans rfl
   have e89 := hd 36 rfl 89 rfl
   have e97 := hd 44 rfl 97 rfl
   have b2 := b2.gr q77
   have fB := fB.gr q77
   refine ol_val (v := .bool (!decide ((List.length a0.Charts : Int) = t72))) (xr_pickF rfl e89 rfl e97) rfl rfl rfl ?_
   refine ol_nil ?_
   obtain rfl := Option.some.inj j24
   refine thn_i ?_
   exact ⟨e1, e3, rfl, q77⟩
  rcases is j24 with ⟨c78, j24⟩ | ⟨c78, j24⟩
  ·skip
   obtain ⟨t79, k80, j24⟩ := bs j24
   rcases is j24 with ⟨c82, j24⟩ | ⟨c82, j24⟩
   ·skip
    refine cw_drawL 45 [fun vz wz => vz = ((pt G1 1) : Value), fun vz wz => vz = ((pt G1 5) : Value), fun vz wz => vz = (.int .i64 a0.Tickets.High : Value), fun vz wz => vz = (.bool (decide (a0.Tickets.High = 0)) : Value), fun vz wz => vz = (.bool (decide (a0.Tickets.High = 0)) : Value), fun vz _ => vz = undef, fun vz _ => vz = undef, fun vz _ => vz = undef, fun vz _ => vz = undef, fun vz wz => vz = (.bool false : Value), fun vz wz => vz = (.bool false : Value), fun vz wz => vz = ((pt G1 1) : Value), fun vz wz => vz = ((pt G1 5) : Value), fun vz wz => vz = (.int .i64 a0.Tickets.High : Value), fun vz wz => vz = (.bool (decide (a0.Tickets.High > 0)) : Value), fun vz wz => vz = (.bool (decide (a0.Tickets.High > 0)) : Value), fun vz wz => vz = (Value.func (.func 144) #[] #[(pt G1 0)] : Value), fun vz wz => vz = ((pt G1 1) : Value), fun vz wz => vz = ((pt G1 4) : Value), fun vz wz => vz = (.int .i64 a0.Tickets.Top : Value), fun vz wz => vz = (.bool t79 : Value), fun vz wz => vz = (.bool (!t79) : Value), fun vz wz => vz = (.bool (!t79) : Value), fun vz wz => vz = (.bool (!t79) : Value), fun vz wz => vz = (.bool (!t79) : Value), fun vz _ => vz = undef, fun vz _ => vz = undef, fun vz _ => vz = undef, fun vz _ => vz = undef, fun vz _ => vz = undef, fun vz _ => vz = undef, fun vz _ => vz = undef, fun vz _ => vz = undef, fun vz _ => vz = undef, fun vz _ => vz = undef, fun vz wz => vz = (.bool true : Value), fun vz wz => vz = (.bool true : Value), fun vz _ => vz = undef, fun vz _ => vz = undef, fun vz _ => vz = undef, fun vz _ => vz = undef, fun vz _ => vz = undef, fun vz _ => vz = undef, fun vz _ => vz = undef, fun vz _ => vz = undef] mo rfl ⟨fun _ _ _ h _ => h, fun _ _ _ h _ => h, fun _ _ _ h _ => h, fun _ _ _ h _ => h, fun _ _ _ h _ => h, fun _ _ _ h _ => h, fun _ _ _ h _ => h, fun _ _ _ h _ => h, fun _ _ _ h _ => h, fun _ _ _ h _ => h, fun _ _ _ h _ => h, fun _ _ _ h _ => h, fun _ _ _ h _ => h, fun _ _ _ h _ => h, fun _ _ _ h _ => h, fun _ _ _ h _ => h, fun _ _ _ h _ => h, fun _ _ _ h _ => h, fun _ _ _ h _ => h, fun _ _ _ h _ => h, fun _ _ _ h _ => h, fun _ _ _ h _ => h, fun _ _ _ h _ => h, fun _ _ _ h _ => h, fun _ _ _ h _ => h, fun _ _ _ h _ => h, fun _ _ _ h _ => h, fun _ _ _ h _ => h, fun _ _ _ h _ => h, fun _ _ _ h _ => h, fun _ _ _ h _ => h, fun _ _ _ h _ => h, fun _ _ _ h _ => h, fun _ _ _ h _ => h, fun _ _ _ h _ => h, fun _ _ _ h _ => h, fun _ _ _ h _ => h, fun _ _ _ h _ => h, fun _ _ _ h _ => h, fun _ _ _ h _ => h, fun _ _ _ h _ => h, fun _ _ _ h _ => h, fun _ _ _ h _ => h, fun _ _ _ h _ => h, fun _ _ _ h _ => h, trivial⟩ ?_ ?_
    ·refine ⟨?_, ?_, ?_, ?_, ?_, ?_, ?_, ?_, ?_, ?_, ?_, ?_, ?_, ?_, ?_, ?_, ?_, ?_, ?_, ?_, ?_, ?_, ?_, ?_, ?_, ?_, ?_, ?_, ?_, ?_, ?_, ?_, ?_, ?_, ?_, ?_, ?_, ?_, ?_, ?_, ?_, ?_, ?_, ?_, ?_, trivial⟩
     ·intro ρz wz hz hk hd
      exact sk_val (v := (pt G1 1)) (xr_fieldAddr (p := 0) (q := 1) rfl fl110_1 ((hk 1 rfl).trans e1)) rfl rfl
     ·intro ρz wz hz hk hd
      exact sk_val (v := (pt G1 5)) (xr_fieldAddr (p := 1) (q := 4) rfl fl108_2 (hd 0 rfl 53 rfl)) rfl rfl
     ·intro ρz wz hz hk hd
      exact sk_val (v := .int .i64 a0.Tickets.High) (xr_load1 (v := .int .i64 a0.Tickets.High) rfl ag3 (hd 1 rfl 54 rfl) ((b2.gr hz).seg 5 rfl rfl)) rfl rfl
     ·intro ρz wz hz hk hd
      exact sk_val (v := .bool (decide (a0.Tickets.High = 0))) (xr_eqI rfl Try.underlying3 rfl (hd 2 rfl 55 rfl) rfl) rfl rfl
     ·intro ρz wz hz hk hd
      exact sk_val (v := .bool (decide (a0.Tickets.High = 0))) (xr_move rfl (hd 3 rfl 56 rfl)) rfl rfl
     ·intro ρz wz hz hk hd
      exact sk_skip rfl rfl (hd 4 rfl 57 rfl) c25 rfl
     ·intro ρz wz hz hk hd
      exact sk_skip rfl rfl (hd 4 rfl 57 rfl) c25 rfl
     ·intro ρz wz hz hk hd
      exact sk_skip rfl rfl (hd 4 rfl 57 rfl) c25 rfl
     ·intro ρz wz hz hk hd
      exact sk_skip rfl rfl (hd 4 rfl 57 rfl) c25 rfl
     ·intro ρz wz hz hk hd
      exact sk_val (v := .bool false) (xr_pickF rfl (hd 4 rfl 57 rfl) c25 rfl) rfl rfl
     ·intro ρz wz hz hk hd
      exact sk_val (v := .bool false) (xr_move rfl (hd 9 rfl 62 rfl)) rfl rfl
     ·intro ρz wz hz hk hd
      exact sk_gval (v := (pt G1 1)) (xr_fieldAddr (p := 0) (q := 1) rfl fl110_1 ((hk 1 rfl).trans e1)) rfl rfl (hd 10 rfl 63 rfl) rfl rfl
     ·intro ρz wz hz hk hd
      exact sk_gval (v := (pt G1 5)) (xr_fieldAddr (p := 1) (q := 4) rfl fl108_2 (hd 11 rfl 64 rfl)) rfl rfl (hd 10 rfl 63 rfl) rfl rfl
     ·intro ρz wz hz hk hd
      exact sk_gval (v := .int .i64 a0.Tickets.High) (xr_load1 (v := .int .i64 a0.Tickets.High) rfl ag3 (hd 12 rfl 65 rfl) ((b2.gr hz).seg 5 rfl rfl)) rfl rfl (hd 10 rfl 63 rfl) rfl rfl
     ·intro ρz wz hz hk hd
      exact sk_gval (v := .bool (decide (a0.Tickets.High > 0))) (xr_gtr rfl (hd 13 rfl 66 rfl) rfl) rfl rfl (hd 10 rfl 63 rfl) rfl rfl
     ·intro ρz wz hz hk hd
      exact sk_gval (v := .bool (decide (a0.Tickets.High > 0))) (xr_move rfl (hd 14 rfl 67 rfl)) rfl rfl (hd 10 rfl 63 rfl) rfl rfl
     ·intro ρz wz hz hk hd
      exact sk_gval (v := Value.func (.func 144) #[] #[(pt G1 0)]) (xr_move rfl ((hk 3 rfl).trans rfl)) rfl rfl (hd 15 rfl 68 rfl) c78 rfl
     ·intro ρz wz hz hk hd
      exact sk_gval (v := (pt G1 1)) (xr_fieldAddr (p := 0) (q := 1) rfl fl110_1 ((hk 1 rfl).trans e1)) rfl rfl (hd 15 rfl 68 rfl) c78 rfl
     ·intro ρz wz hz hk hd
      exact sk_gval (v := (pt G1 4)) (xr_fieldAddr (p := 1) (q := 3) rfl fl108_1 (hd 17 rfl 70 rfl)) rfl rfl (hd 15 rfl 68 rfl) c78 rfl
     ·intro ρz wz hz hk hd
      exact sk_gval (v := .int .i64 a0.Tickets.Top) (xr_load1 (v := .int .i64 a0.Tickets.Top) rfl ag3 (hd 18 rfl 71 rfl) ((b2.gr hz).seg 4 rfl rfl)) rfl rfl (hd 15 rfl 68 rfl) c78 rfl
     ·intro ρz wz hz hk hd
      refine sk_gop (opv_callV (C := [(pt G1 0)]) rfl (hd 16 rfl 69 rfl) cal144 (ac (hd 19 rfl 72 rfl) an) (super_Right_1__c.ok fu _ a0.Tickets.Top a0 G1 V0_0 (R0_0.gr (fB.gr hz)) (b2.gr hz) _ k80)) rfl rfl (hd 15 rfl 68 rfl) c78 ?_
      rintro _ wy ⟨rfl, q81⟩
      exact ⟨rfl, q81⟩
     ·intro ρz wz hz hk hd
      exact sk_gval (v := .bool (!t79)) (xr_not rfl (hd 20 rfl 73 rfl)) rfl rfl (hd 15 rfl 68 rfl) c78 rfl
     ·intro ρz wz hz hk hd
      exact sk_gval (v := .bool (!t79)) (xr_pickT rfl (hd 15 rfl 68 rfl) c78 (hd 21 rfl 74 rfl)) rfl rfl (hd 10 rfl 63 rfl) rfl rfl
     ·intro ρz wz hz hk hd
      exact sk_val (v := .bool (!t79)) (xr_pickF rfl (hd 10 rfl 63 rfl) rfl (hd 22 rfl 75 rfl)) rfl rfl
     ·intro ρz wz hz hk hd
      exact sk_val (v := .bool (!t79)) (xr_move rfl (hd 23 rfl 76 rfl)) rfl rfl
     ·intro ρz wz hz hk hd
      exact sk_skip rfl rfl (hd 24 rfl 77 rfl) c82 rfl
     ·intro ρz wz hz hk hd
      exact sk_skip rfl rfl (hd 24 rfl 77 rfl) c82 rfl
     ·intro ρz wz hz hk hd
      exact sk_skip rfl rfl (hd 24 rfl 77 rfl) c82 rfl
     ·intro ρz wz hz hk hd
      exact sk_skip rfl rfl (hd 24 rfl 77 rfl) c82 rfl
     ·intro ρz wz hz hk hd
      exact sk_uskip rfl rfl (hd 28 rfl 81 rfl) rfl
     ·intro ρz wz hz hk hd
      exact sk_uskip rfl rfl (hd 28 rfl 81 rfl) rfl
     ·intro ρz wz hz hk hd
      exact sk_uskip rfl rfl (hd 28 rfl 81 rfl) rfl
     ·intro ρz wz hz hk hd
      exact sk_uskip rfl rfl (hd 28 rfl 81 rfl) rfl
     ·intro ρz wz hz hk hd
      exact sk_uskip rfl rfl (hd 28 rfl 81 rfl) rfl
     ·intro ρz wz hz hk hd
      exact sk_skip rfl rfl (hd 24 rfl 77 rfl) c82 rfl
     ·intro ρz wz hz hk hd
      exact sk_val (v := .bool true) (xr_pickT rfl (hd 24 rfl 77 rfl) c82 rfl) rfl rfl
     ·intro ρz wz hz hk hd
      exact sk_val (v := .bool true) (xr_move rfl (hd 35 rfl 88 rfl)) rfl rfl
     ·intro ρz wz hz hk hd
      exact sk_skip rfl rfl (hd 36 rfl 89 rfl) rfl rfl
     ·intro ρz wz hz hk hd
      exact sk_skip rfl rfl (hd 36 rfl 89 rfl) rfl rfl
     ·intro ρz wz hz hk hd
      exact sk_skip rfl rfl (hd 36 rfl 89 rfl) rfl rfl
     ·intro ρz wz hz hk hd
      exact sk_skip rfl rfl (hd 36 rfl 89 rfl) rfl rfl
     ·intro ρz wz hz hk hd
      exact sk_skip rfl rfl (hd 36 rfl 89 rfl) rfl rfl
     ·intro ρz wz hz hk hd
      exact sk_skip rfl rfl (hd 36 rfl 89 rfl) rfl rfl
     ·intro ρz wz hz hk hd
      exact sk_skip rfl rfl (hd 36 rfl 89 rfl) rfl rfl
     intro ρz wz hz hk hd
     exact sk_skip rfl rfl (hd 36 rfl 89 rfl) rfl rfl
    intro ρ83 w84 q85 hk hd
    have e1 := (hk 1 rfl).trans e1
    have e3 := (hk 3 rfl).trans rfl
    have e89 := hd 36 rfl 89 rfl
    have b2 := b2.gr q85
    have fB := fB.gr q85
    refine ol_val (v := .bool true) (xr_pickT rfl e89 rfl rfl) rfl rfl rfl ?_
    refine ol_nil ?_
    obtain rfl := Option.some.inj j24
    refine thn_i ?_
    exact ⟨e1, e3, rfl, q85⟩
   rcases is j24 with ⟨c86, j24⟩ | ⟨c86, j24⟩
   ·skip
    obtain ⟨t87, k88, j24⟩ := bs j24
    rcases is j24 with ⟨c90, j24⟩ | ⟨c90, j24⟩
    ·skip
     refine cw_drawL 45 [fun vz wz => vz = ((pt G1 1) : Value), fun vz wz => vz = ((pt G1 5) : Value), fun vz wz => vz = (.int .i64 a0.Tickets.High : Value), fun vz wz => vz = (.bool (decide (a0.Tickets.High = 0)) : Value), fun vz wz => vz = (.bool (decide (a0.Tickets.High = 0)) : Value), fun vz _ => vz = undef, fun vz _ => vz = undef, fun vz _ => vz = undef, fun vz _ => vz = undef, fun vz wz => vz = (.bool false : Value), fun vz wz => vz = (.bool false : Value), fun vz wz => vz = ((pt G1 1) : Value), fun vz wz => vz = ((pt G1 5) : Value), fun vz wz => vz = (.int .i64 a0.Tickets.High : Value), fun vz wz => vz = (.bool (decide (a0.Tickets.High > 0)) : Value), fun vz wz => vz = (.bool (decide (a0.Tickets.High > 0)) : Value), fun vz wz => vz = (Value.func (.func 144) #[] #[(pt G1 0)] : Value), fun vz wz => vz = ((pt G1 1) : Value), fun vz wz => vz = ((pt G1 4) : Value), fun vz wz => vz = (.int .i64 a0.Tickets.Top : Value), fun vz wz => vz = (.bool t79 : Value), fun vz wz => vz = (.bool (!t79) : Value), fun vz wz => vz = (.bool (!t79) : Value), fun vz wz => vz = (.bool (!t79) : Value), fun vz wz => vz = (.bool (!t79) : Value), fun vz wz => vz = ((pt G1 7) : Value), fun vz wz => vz = (.int .i64 a0.Dir : Value), fun vz wz => vz = (.bool (!decide (a0.Dir = 0)) : Value), fun vz wz => vz = (.bool (!decide (a0.Dir = 0)) : Value), fun vz wz => vz = (Value.func (.func 144) #[] #[(pt G1 0)] : Value), fun vz wz => vz = ((pt G1 7) : Value), fun vz wz => vz = (.int .i64 a0.Dir : Value), fun vz wz => vz = (.bool t87 : Value), fun vz wz => vz = (.bool (!t87) : Value), fun vz wz => vz = (.bool (!t87) : Value), fun vz wz => vz = (.bool (!t87) : Value), fun vz wz => vz = (.bool (!t87) : Value), fun vz _ => vz = undef, fun vz _ => vz = undef, fun vz _ => vz = undef, fun vz _ => vz = undef, fun vz _ => vz = undef, fun vz _ => vz = undef, fun vz _ => vz = undef, fun vz _ => vz = undef] mo rfl ⟨fun _ _ _ h _ => h, fun _ _ _ h _ => h, fun _ _ _ h _ => h, fun _ _ _ h _ => h, fun _ _ _ h _ => h, fun _ _ _ h _ => h, fun _ _ _ h _ => h, fun _ _ _ h _ => h, fun _ _ _ h _ => h, fun _ _ _ h _ => h, fun _ _ _ h _ => h, fun _ _ _ h _ => h, fun _ _ _ h _ => h, fun _ _ _ h _ => h, fun _ _ _ h _ => h, fun _ _ _ h _ => h, fun _ _ _ h _ => h, fun _ _ _ h _ => h, fun _ _ _ h _ => h, fun _ _ _ h _ => h, fun _ _ _ h _ => h, fun _ _ _ h _ => h, fun _ _ _ h _ => h, fun _ _ _ h _ => h, fun _ _ _ h _ => h, fun _ _ _ h _ => h, fun _ _ _ h _ => h, fun _ _ _ h _ => h, fun _ _ _ h _ => h, fun _ _ _ h _ => h, fun _ _ _ h _ => h, fun _ _ _ h _ => h, fun _ _ _ h _ => h, fun _ _ _ h _ => h, fun _ _ _ h _ => h, fun _ _ _ h _ => h, fun _ _ _ h _ => h, fun _ _ _ h _ => h, fun _ _ _ h _ => h, fun _ _ _ h _ => h, fun _ _ _ h _ => h, fun _ _ _ h _ => h, fun _ _ _ h _ => h, fun _ _ _ h _ => h, fun _ _ _ h _ => h, trivial⟩ ?_ ?_
     ·refine ⟨?_, ?_, ?_, ?_, ?_, ?_, ?_, ?_, ?_, ?_, ?_, ?_, ?_, ?_, ?_, ?_, ?_, ?_, ?_, ?_, ?_, ?_, ?_, ?_, ?_, ?_, ?_, ?_, ?_, ?_, ?_, ?_, ?_, ?_, ?_, ?_, ?_, ?_, ?_, ?_, ?_, ?_, ?_, ?_, ?_, trivial⟩
      ·intro ρz wz hz hk hd
       exact sk_val (v := (pt G1 1)) (xr_fieldAddr (p := 0) (q := 1) rfl fl110_1 ((hk 1 rfl).trans e1)) rfl rfl
      ·intro ρz wz hz hk hd
       exact sk_val (v := (pt G1 5)) (xr_fieldAddr (p := 1) (q := 4) rfl fl108_2 (hd 0 rfl 53 rfl)) rfl rfl
      ·intro ρz wz hz hk hd
       exact sk_val (v := .int .i64 a0.Tickets.High) (xr_load1 (v := .int .i64 a0.Tickets.High) rfl ag3 (hd 1 rfl 54 rfl) ((b2.gr hz).seg 5 rfl rfl)) rfl rfl
      ·intro ρz wz hz hk hd
       exact sk_val (v := .bool (decide (a0.Tickets.High = 0))) (xr_eqI rfl Try.underlying3 rfl (hd 2 rfl 55 rfl) rfl) rfl rfl
      ·intro ρz wz hz hk hd
       exact sk_val (v := .bool (decide (a0.Tickets.High = 0))) (xr_move rfl (hd 3 rfl 56 rfl)) rfl rfl
      ·intro ρz wz hz hk hd
       exact sk_skip rfl rfl (hd 4 rfl 57 rfl) c25 rfl
      ·intro ρz wz hz hk hd
       exact sk_skip rfl rfl (hd 4 rfl 57 rfl) c25 rfl
      ·intro ρz wz hz hk hd
       exact sk_skip rfl rfl (hd 4 rfl 57 rfl) c25 rfl
      ·intro ρz wz hz hk hd
       exact sk_skip rfl rfl (hd 4 rfl 57 rfl) c25 rfl
      ·intro ρz wz hz hk hd
       exact sk_val (v := .bool false) (xr_pickF rfl (hd 4 rfl 57 rfl) c25 rfl) rfl rfl
      ·intro ρz wz hz hk hd
       exact sk_val (v := .bool false) (xr_move rfl (hd 9 rfl 62 rfl)) rfl rfl
      ·intro ρz wz hz hk hd
       exact sk_gval (v := (pt G1 1)) (xr_fieldAddr (p := 0) (q := 1) rfl fl110_1 ((hk 1 rfl).trans e1)) rfl rfl (hd 10 rfl 63 rfl) rfl rfl
      ·intro ρz wz hz hk hd
       exact sk_gval (v := (pt G1 5)) (xr_fieldAddr (p := 1) (q := 4) rfl fl108_2 (hd 11 rfl 64 rfl)) rfl rfl (hd 10 rfl 63 rfl) rfl rfl
      ·intro ρz wz hz hk hd
       exact sk_gval (v := .int .i64 a0.Tickets.High) (xr_load1 (v := .int .i64 a0.Tickets.High) rfl ag3 (hd 12 rfl 65 rfl) ((b2.gr hz).seg 5 rfl rfl)) rfl rfl (hd 10 rfl 63 rfl) rfl rfl
      ·intro ρz wz hz hk hd
       exact sk_gval (v := .bool (decide (a0.Tickets.High > 0))) (xr_gtr rfl (hd 13 rfl 66 rfl) rfl) rfl rfl (hd 10 rfl 63 rfl) rfl rfl
      ·intro ρz wz hz hk hd
       exact sk_gval (v := .bool (decide (a0.Tickets.High > 0))) (xr_move rfl (hd 14 rfl 67 rfl)) rfl rfl (hd 10 rfl 63 rfl) rfl rfl
      ·intro ρz wz hz hk hd
       exact sk_gval (v := Value.func (.func 144) #[] #[(pt G1 0)]) (xr_move rfl ((hk 3 rfl).trans rfl)) rfl rfl (hd 15 rfl 68 rfl) c78 rfl
      ·intro ρz wz hz hk hd
       exact sk_gval (v := (pt G1 1)) (xr_fieldAddr (p := 0) (q := 1) rfl fl110_1 ((hk 1 rfl).trans e1)) rfl rfl (hd 15 rfl 68 rfl) c78 rfl
      ·intro ρz wz hz hk hd
       exact sk_gval (v := (pt G1 4)) (xr_fieldAddr (p := 1) (q := 3) rfl fl108_1 (hd 17 rfl 70 rfl)) rfl rfl (hd 15 rfl 68 rfl) c78 rfl
      ·intro ρz wz hz hk hd
       exact sk_gval (v := .int .i64 a0.Tickets.Top) (xr_load1 (v := .int .i64 a0.Tickets.Top) rfl ag3 (hd 18 rfl 71 rfl) ((b2.gr hz).seg 4 rfl rfl)) rfl rfl (hd 15 rfl 68 rfl) c78 rfl
      ·intro ρz wz hz hk hd
       refine sk_gop (opv_callV (C := [(pt G1 0)]) rfl (hd 16 rfl 69 rfl) cal144 (ac (hd 19 rfl 72 rfl) an) (super_Right_1__c.ok fu _ a0.Tickets.Top a0 G1 V0_0 (R0_0.gr (fB.gr hz)) (b2.gr hz) _ k80)) rfl rfl (hd 15 rfl 68 rfl) c78 ?_
       rintro _ wy ⟨rfl, q81⟩
       exact ⟨rfl, q81⟩
      ·intro ρz wz hz hk hd
       exact sk_gval (v := .bool (!t79)) (xr_not rfl (hd 20 rfl 73 rfl)) rfl rfl (hd 15 rfl 68 rfl) c78 rfl
      ·intro ρz wz hz hk hd
       exact sk_gval (v := .bool (!t79)) (xr_pickT rfl (hd 15 rfl 68 rfl) c78 (hd 21 rfl 74 rfl)) rfl rfl (hd 10 rfl 63 rfl) rfl rfl
      ·intro ρz wz hz hk hd
       exact sk_val (v := .bool (!t79)) (xr_pickF rfl (hd 10 rfl 63 rfl) rfl (hd 22 rfl 75 rfl)) rfl rfl
      ·intro ρz wz hz hk hd
       exact sk_val (v := .bool (!t79)) (xr_move rfl (hd 23 rfl 76 rfl)) rfl rfl
      ·intro ρz wz hz hk hd
       exact sk_gval (v := (pt G1 7)) (xr_fieldAddr (p := 0) (q := 7) rfl fl110_2 ((hk 1 rfl).trans e1)) rfl rfl (hd 24 rfl 77 rfl) c82 rfl
      ·intro ρz wz hz hk hd
       exact sk_gval (v := .int .i64 a0.Dir) (xr_load1 (v := .int .i64 a0.Dir) rfl ag3 (hd 25 rfl 78 rfl) ((b2.gr hz).seg 7 rfl rfl)) rfl rfl (hd 24 rfl 77 rfl) c82 rfl
      ·intro ρz wz hz hk hd
       exact sk_gval (v := .bool (!decide (a0.Dir = 0))) (xr_neI rfl Try.underlying3 rfl (hd 26 rfl 79 rfl) rfl) rfl rfl (hd 24 rfl 77 rfl) c82 rfl
      ·intro ρz wz hz hk hd
       exact sk_gval (v := .bool (!decide (a0.Dir = 0))) (xr_move rfl (hd 27 rfl 80 rfl)) rfl rfl (hd 24 rfl 77 rfl) c82 rfl
      ·intro ρz wz hz hk hd
       exact sk_gval (v := Value.func (.func 144) #[] #[(pt G1 0)]) (xr_move rfl ((hk 3 rfl).trans rfl)) rfl rfl (hd 28 rfl 81 rfl) c86 rfl
      ·intro ρz wz hz hk hd
       exact sk_gval (v := (pt G1 7)) (xr_fieldAddr (p := 0) (q := 7) rfl fl110_2 ((hk 1 rfl).trans e1)) rfl rfl (hd 28 rfl 81 rfl) c86 rfl
      ·intro ρz wz hz hk hd
       exact sk_gval (v := .int .i64 a0.Dir) (xr_load1 (v := .int .i64 a0.Dir) rfl ag3 (hd 30 rfl 83 rfl) ((b2.gr hz).seg 7 rfl rfl)) rfl rfl (hd 28 rfl 81 rfl) c86 rfl
      ·intro ρz wz hz hk hd
       refine sk_gop (opv_callV (C := [(pt G1 0)]) rfl (hd 29 rfl 82 rfl) cal144 (ac (hd 31 rfl 84 rfl) an) (super_Right_1__c.ok fu _ a0.Dir a0 G1 V0_0 (R0_0.gr (fB.gr hz)) (b2.gr hz) _ k88)) rfl rfl (hd 28 rfl 81 rfl) c86 ?_
       rintro _ wy ⟨rfl, q89⟩
       exact ⟨rfl, q89⟩
      ·intro ρz wz hz hk hd
       exact sk_gval (v := .bool (!t87)) (xr_not rfl (hd 32 rfl 85 rfl)) rfl rfl (hd 28 rfl 81 rfl) c86 rfl
      ·intro ρz wz hz hk hd
       exact sk_gval (v := .bool (!t87)) (xr_pickT rfl (hd 28 rfl 81 rfl) c86 (hd 33 rfl 86 rfl)) rfl rfl (hd 24 rfl 77 rfl) c82 rfl
      ·intro ρz wz hz hk hd
       exact sk_val (v := .bool (!t87)) (xr_pickF rfl (hd 24 rfl 77 rfl) c82 (hd 34 rfl 87 rfl)) rfl rfl
      ·intro ρz wz hz hk hd
       exact sk_val (v := .bool (!t87)) (xr_move rfl (hd 35 rfl 88 rfl)) rfl rfl
      ·intro ρz wz hz hk hd
       exact sk_skip rfl rfl (hd 36 rfl 89 rfl) c90 rfl
      ·intro ρz wz hz hk hd
       exact sk_skip rfl rfl (hd 36 rfl 89 rfl) c90 rfl
      ·intro ρz wz hz hk hd
       exact sk_skip rfl rfl (hd 36 rfl 89 rfl) c90 rfl
      ·intro ρz wz hz hk hd
       exact sk_skip rfl rfl (hd 36 rfl 89 rfl) c90 rfl
      ·intro ρz wz hz hk hd
       exact sk_skip rfl rfl (hd 36 rfl 89 rfl) c90 rfl
      ·intro ρz wz hz hk hd
       exact sk_skip rfl rfl (hd 36 rfl 89 rfl) c90 rfl
      ·intro ρz wz hz hk hd
       exact sk_skip rfl rfl (hd 36 rfl 89 rfl) c90 rfl
      intro ρz wz hz hk hd
      exact sk_skip rfl rfl (hd 36 rfl 89 rfl) c90 rfl
     intro ρ91 w92 q93 hk hd
     have e1 := (hk 1 rfl).trans e1
     have e3 := (hk 3 rfl).trans rfl
     have e89 := hd 36 rfl 89 rfl
     have b2 := b2.gr q93
     have fB := fB.gr q93
     refine ol_val (v := .bool true) (xr_pickT rfl e89 c90 rfl) rfl rfl rfl ?_
     refine ol_nil ?_
     obtain rfl := Option.some.inj j24
     refine thn_i ?_
     exact ⟨e1, e3, rfl, q93⟩
    obtain ⟨t94, k95, j24⟩ := bs j24
    refine cw_drawL 45 [fun vz wz => vz = ((pt G1 1) : Value), fun vz wz => vz = ((pt G1 5) : Value), fun vz wz => vz = (.int .i64 a0.Tickets.High : Value), fun vz wz => vz = (.bool (decide (a0.Tickets.High = 0)) : Value), fun vz wz => vz = (.bool (decide (a0.Tickets.High = 0)) : Value), fun vz _ => vz = undef, fun vz _ => vz = undef, fun vz _ => vz = undef, fun vz _ => vz = undef, fun vz wz => vz = (.bool false : Value), fun vz wz => vz = (.bool false : Value), fun vz wz => vz = ((pt G1 1) : Value), fun vz wz => vz = ((pt G1 5) : Value), fun vz wz => vz = (.int .i64 a0.Tickets.High : Value), fun vz wz => vz = (.bool (decide (a0.Tickets.High > 0)) : Value), fun vz wz => vz = (.bool (decide (a0.Tickets.High > 0)) : Value), fun vz wz => vz = (Value.func (.func 144) #[] #[(pt G1 0)] : Value), fun vz wz => vz = ((pt G1 1) : Value), fun vz wz => vz = ((pt G1 4) : Value), fun vz wz => vz = (.int .i64 a0.Tickets.Top : Value), fun vz wz => vz = (.bool t79 : Value), fun vz wz => vz = (.bool (!t79) : Value), fun vz wz => vz = (.bool (!t79) : Value), fun vz wz => vz = (.bool (!t79) : Value), fun vz wz => vz = (.bool (!t79) : Value), fun vz wz => vz = ((pt G1 7) : Value), fun vz wz => vz = (.int .i64 a0.Dir : Value), fun vz wz => vz = (.bool (!decide (a0.Dir = 0)) : Value), fun vz wz => vz = (.bool (!decide (a0.Dir = 0)) : Value), fun vz wz => vz = (Value.func (.func 144) #[] #[(pt G1 0)] : Value), fun vz wz => vz = ((pt G1 7) : Value), fun vz wz => vz = (.int .i64 a0.Dir : Value), fun vz wz => vz = (.bool t87 : Value), fun vz wz => vz = (.bool (!t87) : Value), fun vz wz => vz = (.bool (!t87) : Value), fun vz wz => vz = (.bool (!t87) : Value), fun vz wz => vz = (.bool (!t87) : Value), fun vz wz => vz = ((pt G1 8) : Value), fun vz wz => vz = (V0_0 : Value), fun vz wz => vz = (.int .i64 (List.length a0.Charts : Int) : Value), fun vz wz => vz = ((pt G1 1) : Value), fun vz wz => vz = ((pt G1 1) : Value), fun vz wz => vz = (aggV [(sI a0.Tickets.Geometry.Blocks), (sI a0.Tickets.Geometry.Slots), (sI a0.Tickets.Geometry.Gens)] : Value), fun vz wz => vz = (.int .i64 t94 : Value), fun vz wz => vz = (.bool (!decide ((List.length a0.Charts : Int) = t94)) : Value)] mo rfl ⟨fun _ _ _ h _ => h, fun _ _ _ h _ => h, fun _ _ _ h _ => h, fun _ _ _ h _ => h, fun _ _ _ h _ => h, fun _ _ _ h _ => h, fun _ _ _ h _ => h, fun _ _ _ h _ => h, fun _ _ _ h _ => h, fun _ _ _ h _ => h, fun _ _ _ h _ => h, fun _ _ _ h _ => h, fun _ _ _ h _ => h, fun _ _ _ h _ => h, fun _ _ _ h _ => h, fun _ _ _ h _ => h, fun _ _ _ h _ => h, fun _ _ _ h _ => h, fun _ _ _ h _ => h, fun _ _ _ h _ => h, fun _ _ _ h _ => h, fun _ _ _ h _ => h, fun _ _ _ h _ => h, fun _ _ _ h _ => h, fun _ _ _ h _ => h, fun _ _ _ h _ => h, fun _ _ _ h _ => h, fun _ _ _ h _ => h, fun _ _ _ h _ => h, fun _ _ _ h _ => h, fun _ _ _ h _ => h, fun _ _ _ h _ => h, fun _ _ _ h _ => h, fun _ _ _ h _ => h, fun _ _ _ h _ => h, fun _ _ _ h _ => h, fun _ _ _ h _ => h, fun _ _ _ h _ => h, fun _ _ _ h _ => h, fun _ _ _ h _ => h, fun _ _ _ h _ => h, fun _ _ _ h _ => h, fun _ _ _ h _ => h, fun _ _ _ h _ => h, fun _ _ _ h _ => h, trivial⟩ ?_ ?_
    ·refine ⟨?_, ?_, ?_, ?_, ?_, ?_, ?_, ?_, ?_, ?_, ?_, ?_, ?_, ?_, ?_, ?_, ?_, ?_, ?_, ?_, ?_, ?_, ?_, ?_, ?_, ?_, ?_, ?_, ?_, ?_, ?_, ?_, ?_, ?_, ?_, ?_, ?_, ?_, ?_, ?_, ?_, ?_, ?_, ?_, ?_, trivial⟩
     ·intro ρz wz hz hk hd
      exact sk_val (v := (pt G1 1)) (xr_fieldAddr (p := 0) (q := 1) rfl fl110_1 ((hk 1 rfl).trans e1)) rfl rfl
     ·intro ρz wz hz hk hd
      exact sk_val (v := (pt G1 5)) (xr_fieldAddr (p := 1) (q := 4) rfl fl108_2 (hd 0 rfl 53 rfl)) rfl rfl
     ·intro ρz wz hz hk hd
      exact sk_val (v := .int .i64 a0.Tickets.High) (xr_load1 (v := .int .i64 a0.Tickets.High) rfl ag3 (hd 1 rfl 54 rfl) ((b2.gr hz).seg 5 rfl rfl)) rfl rfl
     ·intro ρz wz hz hk hd
      exact sk_val (v := .bool (decide (a0.Tickets.High = 0))) (xr_eqI rfl Try.underlying3 rfl (hd 2 rfl 55 rfl) rfl) rfl rfl
     ·intro ρz wz hz hk hd
      exact sk_val (v := .bool (decide (a0.Tickets.High = 0))) (xr_move rfl (hd 3 rfl 56 rfl)) rfl rfl
     ·intro ρz wz hz hk hd
      exact sk_skip rfl rfl (hd 4 rfl 57 rfl) c25 rfl
     ·intro ρz wz hz hk hd
      exact sk_skip rfl rfl (hd 4 rfl 57 rfl) c25 rfl
     ·intro ρz wz hz hk hd
      exact sk_skip rfl rfl (hd 4 rfl 57 rfl) c25 rfl
     ·intro ρz wz hz hk hd
      exact sk_skip rfl rfl (hd 4 rfl 57 rfl) c25 rfl
     ·intro ρz wz hz hk hd
      exact sk_val (v := .bool false) (xr_pickF rfl (hd 4 rfl 57 rfl) c25 rfl) rfl rfl
     ·intro ρz wz hz hk hd
      exact sk_val (v := .bool false) (xr_move rfl (hd 9 rfl 62 rfl)) rfl rfl
     ·intro ρz wz hz hk hd
      exact sk_gval (v := (pt G1 1)) (xr_fieldAddr (p := 0) (q := 1) rfl fl110_1 ((hk 1 rfl).trans e1)) rfl rfl (hd 10 rfl 63 rfl) rfl rfl
     ·intro ρz wz hz hk hd
      exact sk_gval (v := (pt G1 5)) (xr_fieldAddr (p := 1) (q := 4) rfl fl108_2 (hd 11 rfl 64 rfl)) rfl rfl (hd 10 rfl 63 rfl) rfl rfl
     ·intro ρz wz hz hk hd
      exact sk_gval (v := .int .i64 a0.Tickets.High) (xr_load1 (v := .int .i64 a0.Tickets.High) rfl ag3 (hd 12 rfl 65 rfl) ((b2.gr hz).seg 5 rfl rfl)) rfl rfl (hd 10 rfl 63 rfl) rfl rfl
     ·intro ρz wz hz hk hd
      exact sk_gval (v := .bool (decide (a0.Tickets.High > 0))) (xr_gtr rfl (hd 13 rfl 66 rfl) rfl) rfl rfl (hd 10 rfl 63 rfl) rfl rfl
     ·intro ρz wz hz hk hd
      exact sk_gval (v := .bool (decide (a0.Tickets.High > 0))) (xr_move rfl (hd 14 rfl 67 rfl)) rfl rfl (hd 10 rfl 63 rfl) rfl rfl
     ·intro ρz wz hz hk hd
      exact sk_gval (v := Value.func (.func 144) #[] #[(pt G1 0)]) (xr_move rfl ((hk 3 rfl).trans rfl)) rfl rfl (hd 15 rfl 68 rfl) c78 rfl
     ·intro ρz wz hz hk hd
      exact sk_gval (v := (pt G1 1)) (xr_fieldAddr (p := 0) (q := 1) rfl fl110_1 ((hk 1 rfl).trans e1)) rfl rfl (hd 15 rfl 68 rfl) c78 rfl
     ·intro ρz wz hz hk hd
      exact sk_gval (v := (pt G1 4)) (xr_fieldAddr (p := 1) (q := 3) rfl fl108_1 (hd 17 rfl 70 rfl)) rfl rfl (hd 15 rfl 68 rfl) c78 rfl
     ·intro ρz wz hz hk hd
      exact sk_gval (v := .int .i64 a0.Tickets.Top) (xr_load1 (v := .int .i64 a0.Tickets.Top) rfl ag3 (hd 18 rfl 71 rfl) ((b2.gr hz).seg 4 rfl rfl)) rfl rfl (hd 15 rfl 68 rfl) c78 rfl
     ·intro ρz wz hz hk hd
      refine sk_gop (opv_callV (C := [(pt G1 0)]) rfl (hd 16 rfl 69 rfl) cal144 (ac (hd 19 rfl 72 rfl) an) (super_Right_1__c.ok fu _ a0.Tickets.Top a0 G1 V0_0 (R0_0.gr (fB.gr hz)) (b2.gr hz) _ k80)) rfl rfl (hd 15 rfl 68 rfl) c78 ?_
      rintro _ wy ⟨rfl, q81⟩
      exact ⟨rfl, q81⟩
     ·intro ρz wz hz hk hd
      exact sk_gval (v := .bool (!t79)) (xr_not rfl (hd 20 rfl 73 rfl)) rfl rfl (hd 15 rfl 68 rfl) c78 rfl
     ·intro ρz wz hz hk hd
      exact sk_gval (v := .bool (!t79)) (xr_pickT rfl (hd 15 rfl 68 rfl) c78 (hd 21 rfl 74 rfl)) rfl rfl (hd 10 rfl 63 rfl) rfl rfl
     ·intro ρz wz hz hk hd
      exact sk_val (v := .bool (!t79)) (xr_pickF rfl (hd 10 rfl 63 rfl) rfl (hd 22 rfl 75 rfl)) rfl rfl
     ·intro ρz wz hz hk hd
      exact sk_val (v := .bool (!t79)) (xr_move rfl (hd 23 rfl 76 rfl)) rfl rfl
     ·intro ρz wz hz hk hd
      exact sk_gval (v := (pt G1 7)) (xr_fieldAddr (p := 0) (q := 7) rfl fl110_2 ((hk 1 rfl).trans e1)) rfl rfl (hd 24 rfl 77 rfl) c82 rfl
     ·intro ρz wz hz hk hd
      exact sk_gval (v := .int .i64 a0.Dir) (xr_load1 (v := .int .i64 a0.Dir) rfl ag3 (hd 25 rfl 78 rfl) ((b2.gr hz).seg 7 rfl rfl)) rfl rfl (hd 24 rfl 77 rfl) c82 rfl
     ·intro ρz wz hz hk hd
      exact sk_gval (v := .bool (!decide (a0.Dir = 0))) (xr_neI rfl Try.underlying3 rfl (hd 26 rfl 79 rfl) rfl) rfl rfl (hd 24 rfl 77 rfl) c82 rfl
     ·intro ρz wz hz hk hd
      exact sk_gval (v := .bool (!decide (a0.Dir = 0))) (xr_move rfl (hd 27 rfl 80 rfl)) rfl rfl (hd 24 rfl 77 rfl) c82 rfl
     ·intro ρz wz hz hk hd
      exact sk_gval (v := Value.func (.func 144) #[] #[(pt G1 0)]) (xr_move rfl ((hk 3 rfl).trans rfl)) rfl rfl (hd 28 rfl 81 rfl) c86 rfl
     ·intro ρz wz hz hk hd
      exact sk_gval (v := (pt G1 7)) (xr_fieldAddr (p := 0) (q := 7) rfl fl110_2 ((hk 1 rfl).trans e1)) rfl rfl (hd 28 rfl 81 rfl) c86 rfl
     ·intro ρz wz hz hk hd
      exact sk_gval (v := .int .i64 a0.Dir) (xr_load1 (v := .int .i64 a0.Dir) rfl ag3 (hd 30 rfl 83 rfl) ((b2.gr hz).seg 7 rfl rfl)) rfl rfl (hd 28 rfl 81 rfl) c86 rfl
     ·intro ρz wz hz hk hd
      refine sk_gop (opv_callV (C := [(pt G1 0)]) rfl (hd 29 rfl 82 rfl) cal144 (ac (hd 31 rfl 84 rfl) an) (super_Right_1__c.ok fu _ a0.Dir a0 G1 V0_0 (R0_0.gr (fB.gr hz)) (b2.gr hz) _ k88)) rfl rfl (hd 28 rfl 81 rfl) c86 ?_
      rintro _ wy ⟨rfl, q89⟩
      exact ⟨rfl, q89⟩
     ·intro ρz wz hz hk hd
      exact sk_gval (v := .bool (!t87)) (xr_not rfl (hd 32 rfl 85 rfl)) rfl rfl (hd 28 rfl 81 rfl) c86 rfl
     ·intro ρz wz hz hk hd
      exact sk_gval (v := .bool (!t87)) (xr_pickT rfl (hd 28 rfl 81 rfl) c86 (hd 33 rfl 86 rfl)) rfl rfl (hd 24 rfl 77 rfl) c82 rfl
     ·intro ρz wz hz hk hd
      exact sk_val (v := .bool (!t87)) (xr_pickF rfl (hd 24 rfl 77 rfl) c82 (hd 34 rfl 87 rfl)) rfl rfl
     ·intro ρz wz hz hk hd
      exact sk_val (v := .bool (!t87)) (xr_move rfl (hd 35 rfl 88 rfl)) rfl rfl
     ·intro ρz wz hz hk hd
      exact sk_gval (v := (pt G1 8)) (xr_fieldAddr (p := 0) (q := 8) rfl fl110_3 ((hk 1 rfl).trans e1)) rfl rfl (hd 36 rfl 89 rfl) c90 rfl
     ·intro ρz wz hz hk hd
      exact sk_gval (v := V0_0) (xr_load1 (v := V0_0) rfl ag25 (hd 37 rfl 90 rfl) ((b2.gr hz).seg 8 rfl rfl)) rfl rfl (hd 36 rfl 89 rfl) c90 rfl
     ·intro ρz wz hz hk hd
      exact sk_gval (v := .int .i64 (List.length a0.Charts : Int)) (xr_lenR rfl Try.underlying25 (hd 38 rfl 91 rfl) (R0_0.gr (fB.gr hz))) rfl rfl (hd 36 rfl 89 rfl) c90 rfl
     ·intro ρz wz hz hk hd
      exact sk_gval (v := (pt G1 1)) (xr_fieldAddr (p := 0) (q := 1) rfl fl110_1 ((hk 1 rfl).trans e1)) rfl rfl (hd 36 rfl 89 rfl) c90 rfl
     ·intro ρz wz hz hk hd
      exact sk_gval (v := (pt G1 1)) (xr_fieldAddr (p := 1) (q := 0) rfl fl108_0 (hd 40 rfl 93 rfl)) rfl rfl (hd 36 rfl 89 rfl) c90 rfl
     ·intro ρz wz hz hk hd
      exact sk_gval (xr_loadS (ss := [(sI a0.Tickets.Geometry.Blocks), (sI a0.Tickets.Geometry.Slots), (sI a0.Tickets.Geometry.Gens)]) rfl ag106 sz106 rfl (hd 41 rfl 94 rfl) ((b2.gr hz).segs 1 3 rfl)) rfl rfl (hd 36 rfl 89 rfl) c90 rfl
     ·intro ρz wz hz hk hd
      refine sk_gop (opv_call rfl cal145 (ac (hd 42 rfl 95 rfl) an) (geom_Charts.ok fu _ a0.Tickets.Geometry _ k95)) rfl rfl (hd 36 rfl 89 rfl) c90 ?_
      rintro _ wy ⟨rfl, q96⟩
      exact ⟨rfl, q96⟩
     intro ρz wz hz hk hd
     exact sk_gval (v := .bool (!decide ((List.length a0.Charts : Int) = t94))) (xr_neI rfl Try.underlying3 rfl (hd 39 rfl 92 rfl) (hd 43 rfl 96 rfl)) rfl rfl (hd 36 rfl 89 rfl) c90 rfl
    intro ρ97 w98 q99 hk hd
    have e1 := (hk 1 rfl).trans e1
    have e3 := (hk 3 rfl).trans rfl
    have e89 := hd 36 rfl 89 rfl
    have e97 := hd 44 rfl 97 rfl
    have b2 := b2.gr q99
    have fB := fB.gr q99
    refine ol_val (v := .bool (!decide ((List.length a0.Charts : Int) = t94))) (xr_pickF rfl e89 c90 e97) rfl rfl rfl ?_
    refine ol_nil ?_
    obtain rfl := Option.some.inj j24
    refine thn_i ?_
    exact ⟨e1, e3, rfl, q99⟩
   obtain ⟨t100, k101, j24⟩ := bs j24
   refine cw_drawL 45 [fun vz wz => vz = ((pt G1 1) : Value), fun vz wz => vz = ((pt G1 5) : Value), fun vz wz => vz = (.int .i64 a0.Tickets.High : Value), fun vz wz => vz = (.bool (decide (a0.Tickets.High = 0)) : Value), fun vz wz => vz = (.bool (decide (a0.Tickets.High = 0)) : Value), fun vz _ => vz = undef, fun vz _ => vz = undef, fun vz _ => vz = undef, fun vz _ => vz = undef, fun vz wz => vz = (.bool false : Value), fun vz wz => vz = (.bool false : Value), fun vz wz => vz = ((pt G1 1) : Value), fun vz wz => vz = ((pt G1 5) : Value), fun vz wz => vz = (.int .i64 a0.Tickets.High : Value), fun vz wz => vz = (.bool (decide (a0.Tickets.High > 0)) : Value), fun vz wz => vz = (.bool (decide (a0.Tickets.High > 0)) : Value), fun vz wz => vz = (Value.func (.func 144) #[] #[(pt G1 0)] : Value), fun vz wz => vz = ((pt G1 1) : Value), fun vz wz => vz = ((pt G1 4) : Value), fun vz wz => vz = (.int .i64 a0.Tickets.Top : Value), fun vz wz => vz = (.bool t79 : Value), fun vz wz => vz = (.bool (!t79) : Value), fun vz wz => vz = (.bool (!t79) : Value), fun vz wz => vz = (.bool (!t79) : Value), fun vz wz => vz = (.bool (!t79) : Value), fun vz wz => vz = ((pt G1 7) : Value), fun vz wz => vz = (.int .i64 a0.Dir : Value), fun vz wz => vz = (.bool (!decide (a0.Dir = 0)) : Value), fun vz wz => vz = (.bool (!decide (a0.Dir = 0)) : Value), fun vz _ => vz = undef, fun vz _ => vz = undef, fun vz _ => vz = undef, fun vz _ => vz = undef, fun vz _ => vz = undef, fun vz wz => vz = (.bool false : Value), fun vz wz => vz = (.bool false : Value), fun vz wz => vz = (.bool false : Value), fun vz wz => vz = ((pt G1 8) : Value), fun vz wz => vz = (V0_0 : Value), fun vz wz => vz = (.int .i64 (List.length a0.Charts : Int) : Value), fun vz wz => vz = ((pt G1 1) : Value), fun vz wz => vz = ((pt G1 1) : Value), fun vz wz => vz = (aggV [(sI a0.Tickets.Geometry.Blocks), (sI a0.Tickets.Geometry.Slots), (sI a0.Tickets.Geometry.Gens)] : Value), fun vz wz => vz = (.int .i64 t100 : Value), fun vz wz => vz = (.bool (!decide ((List.length a0.Charts : Int) = t100)) : Value)] mo rfl ⟨fun _ _ _ h _ => h, fun _ _ _ h _ => h, fun _ _ _ h _ => h, fun _ _ _ h _ => h, fun _ _ _ h _ => h, fun _ _ _ h _ => h, fun _ _ _ h _ => h, fun _ _ _ h _ => h, fun _ _ _ h _ => h, fun _ _ _ h _ => h, fun _ _ _ h _ => h, fun _ _ _ h _ => h, fun _ _ _ h _ => h, fun _ _ _ h _ => h, fun _ _ _ h _ => h, fun _ _ _ h _ => h, fun _ _ _ h _ => h, fun _ _ _ h _ => h, fun _ _ _ h _ => h, fun _ _ _ h _ => h, fun _ _ _ h _ => h, fun _ _ _ h _ => h, fun _ _ _ h _ => h, fun _ _ _ h _ => h, fun _ _ _ h _ => h, fun _ _ _ h _ => h, fun _ _ _ h _ => h, fun _ _ _ h _ => h, fun _ _ _ h _ => h, fun _ _ _ h _ => h, fun _ _ _ h _ => h, fun _ _ _ h _ => h, fun _ _ _ h _ => h, fun _ _ _ h _ => h, fun _ _ _ h _ => h, fun _ _ _ h _ => h, fun _ _ _ h _ => h, fun _ _ _ h _ => h, fun _ _ _ h _ => h, fun _ _ _ h _ => h, fun _ _ _ h _ => h, fun _ _ _ h _ => h, fun _ _ _ h _ => h, fun _ _ _ h _ => h, fun _ _ _ h _ => h, trivial⟩ ?_ ?_
   ·refine ⟨?_, ?_, ?_, ?_, ?_, ?_, ?_, ?_, ?_, ?_, ?_, ?_, ?_, ?_, ?_, ?_, ?_, ?_, ?_, ?_, ?_, ?_, ?_, ?_, ?_, ?_, ?_, ?_, ?_, ?_, ?_, ?_, ?_, ?_, ?_, ?_, ?_, ?_, ?_, ?_, ?_, ?_, ?_, ?_, ?_, trivial⟩
    ·intro ρz wz hz hk hd
     exact sk_val (v := (pt G1 1)) (xr_fieldAddr (p := 0) (q := 1) rfl fl110_1 ((hk 1 rfl).trans e1)) rfl rfl
    ·intro ρz wz hz hk hd
     exact sk_val (v := (pt G1 5)) (xr_fieldAddr (p := 1) (q := 4) rfl fl108_2 (hd 0 rfl 53 rfl)) rfl rfl
    ·intro ρz wz hz hk hd
     exact sk_val (v := .int .i64 a0.Tickets.High) (xr_load1 (v := .int .i64 a0.Tickets.High) rfl ag3 (hd 1 rfl 54 rfl) ((b2.gr hz).seg 5 rfl rfl)) rfl rfl
    ·intro ρz wz hz hk hd
     exact sk_val (v := .bool (decide (a0.Tickets.High = 0))) (xr_eqI rfl Try.underlying3 rfl (hd 2 rfl 55 rfl) rfl) rfl rfl
    ·intro ρz wz hz hk hd
     exact sk_val (v := .bool (decide (a0.Tickets.High = 0))) (xr_move rfl (hd 3 rfl 56 rfl)) rfl rfl
    ·intro ρz wz hz hk hd
     exact sk_skip rfl rfl (hd 4 rfl 57 rfl) c25 rfl
    ·intro ρz wz hz hk hd
     exact sk_skip rfl rfl (hd 4 rfl 57 rfl) c25 rfl
    ·intro ρz wz hz hk hd
     exact sk_skip rfl rfl (hd 4 rfl 57 rfl) c25 rfl
    ·intro ρz wz hz hk hd
     exact sk_skip rfl rfl (hd 4 rfl 57 rfl) c25 rfl
    ·intro ρz wz hz hk hd
     exact sk_val (v := .bool false) (xr_pickF rfl (hd 4 rfl 57 rfl) c25 rfl) rfl rfl
    ·intro ρz wz hz hk hd
     exact sk_val (v := .bool false) (xr_move rfl (hd 9 rfl 62 rfl)) rfl rfl
    ·intro ρz wz hz hk hd
     exact sk_gval (v := (pt G1 1)) (xr_fieldAddr (p := 0) (q := 1) rfl fl110_1 ((hk 1 rfl).trans e1)) rfl rfl (hd 10 rfl 63 rfl) rfl rfl
    ·intro ρz wz hz hk hd
     exact sk_gval (v := (pt G1 5)) (xr_fieldAddr (p := 1) (q := 4) rfl fl108_2 (hd 11 rfl 64 rfl)) rfl rfl (hd 10 rfl 63 rfl) rfl rfl
    ·intro ρz wz hz hk hd
     exact sk_gval (v := .int .i64 a0.Tickets.High) (xr_load1 (v := .int .i64 a0.Tickets.High) rfl ag3 (hd 12 rfl 65 rfl) ((b2.gr hz).seg 5 rfl rfl)) rfl rfl (hd 10 rfl 63 rfl) rfl rfl
    ·intro ρz wz hz hk hd
     exact sk_gval (v := .bool (decide (a0.Tickets.High > 0))) (xr_gtr rfl (hd 13 rfl 66 rfl) rfl) rfl rfl (hd 10 rfl 63 rfl) rfl rfl
    ·intro ρz wz hz hk hd
     exact sk_gval (v := .bool (decide (a0.Tickets.High > 0))) (xr_move rfl (hd 14 rfl 67 rfl)) rfl rfl (hd 10 rfl 63 rfl) rfl rfl
    ·intro ρz wz hz hk hd
     exact sk_gval (v := Value.func (.func 144) #[] #[(pt G1 0)]) (xr_move rfl ((hk 3 rfl).trans rfl)) rfl rfl (hd 15 rfl 68 rfl) c78 rfl
    ·intro ρz wz hz hk hd
     exact sk_gval (v := (pt G1 1)) (xr_fieldAddr (p := 0) (q := 1) rfl fl110_1 ((hk 1 rfl).trans e1)) rfl rfl (hd 15 rfl 68 rfl) c78 rfl
    ·intro ρz wz hz hk hd
     exact sk_gval (v := (pt G1 4)) (xr_fieldAddr (p := 1) (q := 3) rfl fl108_1 (hd 17 rfl 70 rfl)) rfl rfl (hd 15 rfl 68 rfl) c78 rfl
    ·intro ρz wz hz hk hd
     exact sk_gval (v := .int .i64 a0.Tickets.Top) (xr_load1 (v := .int .i64 a0.Tickets.Top) rfl ag3 (hd 18 rfl 71 rfl) ((b2.gr hz).seg 4 rfl rfl)) rfl rfl (hd 15 rfl 68 rfl) c78 rfl
    ·intro ρz wz hz hk hd
     refine sk_gop (opv_callV (C := [(pt G1 0)]) rfl (hd 16 rfl 69 rfl) cal144 (ac (hd 19 rfl 72 rfl) an) (super_Right_1__c.ok fu _ a0.Tickets.Top a0 G1 V0_0 (R0_0.gr (fB.gr hz)) (b2.gr hz) _ k80)) rfl rfl (hd 15 rfl 68 rfl) c78 ?_
     rintro _ wy ⟨rfl, q81⟩
     exact ⟨rfl, q81⟩
    ·intro ρz wz hz hk hd
     exact sk_gval (v := .bool (!t79)) (xr_not rfl (hd 20 rfl 73 rfl)) rfl rfl (hd 15 rfl 68 rfl) c78 rfl
    ·intro ρz wz hz hk hd
     exact sk_gval (v := .bool (!t79)) (xr_pickT rfl (hd 15 rfl 68 rfl) c78 (hd 21 rfl 74 rfl)) rfl rfl (hd 10 rfl 63 rfl) rfl rfl
    ·intro ρz wz hz hk hd
     exact sk_val (v := .bool (!t79)) (xr_pickF rfl (hd 10 rfl 63 rfl) rfl (hd 22 rfl 75 rfl)) rfl rfl
    ·intro ρz wz hz hk hd
     exact sk_val (v := .bool (!t79)) (xr_move rfl (hd 23 rfl 76 rfl)) rfl rfl
    ·intro ρz wz hz hk hd
     exact sk_gval (v := (pt G1 7)) (xr_fieldAddr (p := 0) (q := 7) rfl fl110_2 ((hk 1 rfl).trans e1)) rfl rfl (hd 24 rfl 77 rfl) c82 rfl
    ·intro ρz wz hz hk hd
     exact sk_gval (v := .int .i64 a0.Dir) (xr_load1 (v := .int .i64 a0.Dir) rfl ag3 (hd 25 rfl 78 rfl) ((b2.gr hz).seg 7 rfl rfl)) rfl rfl (hd 24 rfl 77 rfl) c82 rfl
    ·intro ρz wz hz hk hd
     exact sk_gval (v := .bool (!decide (a0.Dir = 0))) (xr_neI rfl Try.underlying3 rfl (hd 26 rfl 79 rfl) rfl) rfl rfl (hd 24 rfl 77 rfl) c82 rfl
    ·intro ρz wz hz hk hd
     exact sk_gval (v := .bool (!decide (a0.Dir = 0))) (xr_move rfl (hd 27 rfl 80 rfl)) rfl rfl (hd 24 rfl 77 rfl) c82 rfl
    ·intro ρz wz hz hk hd
     exact sk_skip rfl rfl (hd 28 rfl 81 rfl) c86 rfl
    ·intro ρz wz hz hk hd
     exact sk_skip rfl rfl (hd 28 rfl 81 rfl) c86 rfl
    ·intro ρz wz hz hk hd
     exact sk_skip rfl rfl (hd 28 rfl 81 rfl) c86 rfl
    ·intro ρz wz hz hk hd
     exact sk_skip rfl rfl (hd 28 rfl 81 rfl) c86 rfl
    ·intro ρz wz hz hk hd
     exact sk_skip rfl rfl (hd 28 rfl 81 rfl) c86 rfl
    ·intro ρz wz hz hk hd
     exact sk_gval (v := .bool false) (xr_pickF rfl (hd 28 rfl 81 rfl) c86 rfl) rfl rfl (hd 24 rfl 77 rfl) c82 rfl
    ·intro ρz wz hz hk hd
     exact sk_val (v := .bool false) (xr_pickF rfl (hd 24 rfl 77 rfl) c82 (hd 34 rfl 87 rfl)) rfl rfl
    ·intro ρz wz hz hk hd
     exact sk_val (v := .bool false) (xr_move rfl (hd 35 rfl 88 rfl)) rfl rfl
    ·intro ρz wz hz hk hd
     exact sk_gval (v := (pt G1 8)) (xr_fieldAddr (p := 0) (q := 8) rfl fl110_3 ((hk 1 rfl).trans e1)) rfl rfl (hd 36 rfl 89 rfl) rfl rfl
    ·intro ρz wz hz hk hd
     exact sk_gval (v := V0_0) (xr_load1 (v := V0_0) rfl ag25 (hd 37 rfl 90 rfl) ((b2.gr hz).seg 8 rfl rfl)) rfl rfl (hd 36 rfl 89 rfl) rfl rfl
    ·intro ρz wz hz hk hd
     exact sk_gval (v := .int .i64 (List.length a0.Charts : Int)) (xr_lenR rfl Try.underlying25 (hd 38 rfl 91 rfl) (R0_0.gr (fB.gr hz))) rfl rfl (hd 36 rfl 89 rfl) rfl rfl
    ·intro ρz wz hz hk hd
     exact sk_gval (v := (pt G1 1)) (xr_fieldAddr (p := 0) (q := 1) rfl fl110_1 ((hk 1 rfl).trans e1)) rfl rfl (hd 36 rfl 89 rfl) rfl rfl
    ·intro ρz wz hz hk hd
     exact sk_gval (v := (pt G1 1)) (xr_fieldAddr (p := 1) (q := 0) rfl fl108_0 (hd 40 rfl 93 rfl)) rfl rfl (hd 36 rfl 89 rfl) rfl rfl
    ·intro ρz wz hz hk hd
     exact sk_gval (xr_loadS (ss := [(sI a0.Tickets.Geometry.Blocks), (sI a0.Tickets.Geometry.Slots), (sI a0.Tickets.Geometry.Gens)]) rfl ag106 sz106 rfl (hd 41 rfl 94 rfl) ((b2.gr hz).segs 1 3 rfl)) rfl rfl (hd 36 rfl 89 rfl) rfl rfl
    ·intro ρz wz hz hk hd
     refine sk_gop (opv_call rfl cal145 (ac (hd 42 rfl 95 rfl) an) (geom_Charts.ok fu _ a0.Tickets.Geometry _ k101)) rfl rfl (hd 36 rfl 89 rfl) rfl ?_
     rintro _ wy ⟨rfl, q102⟩
     exact ⟨rfl, q102⟩
    intro ρz wz hz hk hd
    exact sk_gval (v := .bool (!decide ((List.length a0.Charts : Int) = t100))) (xr_neI rfl Try.underlying3 rfl (hd 39 rfl 92 rfl) (hd 43 rfl 96 rfl)) rfl rfl (hd 36 rfl 89 rfl) rfl rfl
   intro ρ103 w104 q105 hk hd
   have e1 := (hk 1 rfl).trans e1
   have e3 := (hk 3 rfl).trans rfl
   have e89 := hd 36 rfl 89 rfl
   have e97 := hd 44 rfl 97 rfl
   have b2 := b2.gr q105
   have fB := fB.gr q105
   refine ol_val (v := .bool (!decide ((List.length a0.Charts : Int) = t100))) (xr_pickF rfl e89 rfl e97) rfl rfl rfl ?_
   refine ol_nil ?_
   obtain rfl := Option.some.inj j24
   refine thn_i ?_
   exact ⟨e1, e3, rfl, q105⟩
  rcases is j24 with ⟨c106, j24⟩ | ⟨c106, j24⟩
  ·skip
   obtain ⟨t107, k108, j24⟩ := bs j24
   rcases is j24 with ⟨c110, j24⟩ | ⟨c110, j24⟩
   ·skip
    refine cw_drawL 45 [fun vz wz => vz = ((pt G1 1) : Value), fun vz wz => vz = ((pt G1 5) : Value), fun vz wz => vz = (.int .i64 a0.Tickets.High : Value), fun vz wz => vz = (.bool (decide (a0.Tickets.High = 0)) : Value), fun vz wz => vz = (.bool (decide (a0.Tickets.High = 0)) : Value), fun vz _ => vz = undef, fun vz _ => vz = undef, fun vz _ => vz = undef, fun vz _ => vz = undef, fun vz wz => vz = (.bool false : Value), fun vz wz => vz = (.bool false : Value), fun vz wz => vz = ((pt G1 1) : Value), fun vz wz => vz = ((pt G1 5) : Value), fun vz wz => vz = (.int .i64 a0.Tickets.High : Value), fun vz wz => vz = (.bool (decide (a0.Tickets.High > 0)) : Value), fun vz wz => vz = (.bool (decide (a0.Tickets.High > 0)) : Value), fun vz _ => vz = undef, fun vz _ => vz = undef, fun vz _ => vz = undef, fun vz _ => vz = undef, fun vz _ => vz = undef, fun vz _ => vz = undef, fun vz wz => vz = (.bool false : Value), fun vz wz => vz = (.bool false : Value), fun vz wz => vz = (.bool false : Value), fun vz wz => vz = ((pt G1 7) : Value), fun vz wz => vz = (.int .i64 a0.Dir : Value), fun vz wz => vz = (.bool (!decide (a0.Dir = 0)) : Value), fun vz wz => vz = (.bool (!decide (a0.Dir = 0)) : Value), fun vz wz => vz = (Value.func (.func 144) #[] #[(pt G1 0)] : Value), fun vz wz => vz = ((pt G1 7) : Value), fun vz wz => vz = (.int .i64 a0.Dir : Value), fun vz wz => vz = (.bool t107 : Value), fun vz wz => vz = (.bool (!t107) : Value), fun vz wz => vz = (.bool (!t107) : Value), fun vz wz => vz = (.bool (!t107) : Value), fun vz wz => vz = (.bool (!t107) : Value), fun vz _ => vz = undef, fun vz _ => vz = undef, fun vz _ => vz = undef, fun vz _ => vz = undef, fun vz _ => vz = undef, fun vz _ => vz = undef, fun vz _ => vz = undef, fun vz _ => vz = undef] mo rfl ⟨fun _ _ _ h _ => h, fun _ _ _ h _ => h, fun _ _ _ h _ => h, fun _ _ _ h _ => h, fun _ _ _ h _ => h, fun _ _ _ h _ => h, fun _ _ _ h _ => h, fun _ _ _ h _ => h, fun _ _ _ h _ => h, fun _ _ _ h _ => h, fun _ _ _ h _ => h, fun _ _ _ h _ => h, fun _ _ _ h _ => h, fun _ _ _ h _ => h, fun _ _ _ h _ => h, fun _ _ _ h _ => h, fun _ _ _ h _ => h, fun _ _ _ h _ => h, fun _ _ _ h _ => h, fun _ _ _ h _ => h, fun _ _ _ h _ => h, fun _ _ _ h _ => h, fun _ _ _ h _ => h, fun _ _ _ h _ => h, fun _ _ _ h _ => h, fun _ _ _ h _ => h, fun _ _ _ h _ => h, fun _ _ _ h _ => h, fun _ _ _ h _ => h, fun _ _ _ h _ => h, fun _ _ _ h _ => h, fun _ _ _ h _ => h, fun _ _ _ h _ => h, fun _ _ _ h _ => h, fun _ _ _ h _ => h, fun _ _ _ h _ => h, fun _ _ _ h _ => h, fun _ _ _ h _ => h, fun _ _ _ h _ => h, fun _ _ _ h _ => h, fun _ _ _ h _ => h, fun _ _ _ h _ => h, fun _ _ _ h _ => h, fun _ _ _ h _ => h, fun _ _ _ h _ => h, trivial⟩ ?_ ?_
    ·refine ⟨?_, ?_, ?_, ?_, ?_, ?_, ?_, ?_, ?_, ?_, ?_, ?_, ?_, ?_, ?_, ?_, ?_, ?_, ?_, ?_, ?_, ?_, ?_, ?_, ?_, ?_, ?_, ?_, ?_, ?_, ?_, ?_, ?_, ?_, ?_, ?_, ?_, ?_, ?_, ?_, ?_, ?_, ?_, ?_, ?_, trivial⟩
     ·intro ρz wz hz hk hd
      exact sk_val (v := (pt G1 1)) (xr_fieldAddr (p := 0) (q := 1) rfl fl110_1 ((hk 1 rfl).trans e1)) rfl rfl
     ·intro ρz wz hz hk hd
      exact sk_val (v := (pt G1 5)) (xr_fieldAddr (p := 1) (q := 4) rfl fl108_2 (hd 0 rfl 53 rfl)) rfl rfl
     ·intro ρz wz hz hk hd
      exact sk_val (v := .int .i64 a0.Tickets.High) (xr_load1 (v := .int .i64 a0.Tickets.High) rfl ag3 (hd 1 rfl 54 rfl) ((b2.gr hz).seg 5 rfl rfl)) rfl rfl
     ·intro ρz wz hz hk hd
      exact sk_val (v := .bool (decide (a0.Tickets.High = 0))) (xr_eqI rfl Try.underlying3 rfl (hd 2 rfl 55 rfl) rfl) rfl rfl
     ·intro ρz wz hz hk hd
      exact sk_val (v := .bool (decide (a0.Tickets.High = 0))) (xr_move rfl (hd 3 rfl 56 rfl)) rfl rfl
     ·intro ρz wz hz hk hd
      exact sk_skip rfl rfl (hd 4 rfl 57 rfl) c25 rfl
     ·intro ρz wz hz hk hd
      exact sk_skip rfl rfl (hd 4 rfl 57 rfl) c25 rfl
     ·intro ρz wz hz hk hd
      exact sk_skip rfl rfl (hd 4 rfl 57 rfl) c25 rfl
     ·intro ρz wz hz hk hd
      exact sk_skip rfl rfl (hd 4 rfl 57 rfl) c25 rfl
     ·intro ρz wz hz hk hd
      exact sk_val (v := .bool false) (xr_pickF rfl (hd 4 rfl 57 rfl) c25 rfl) rfl rfl
     ·intro ρz wz hz hk hd
      exact sk_val (v := .bool false) (xr_move rfl (hd 9 rfl 62 rfl)) rfl rfl
     ·intro ρz wz hz hk hd
      exact sk_gval (v := (pt G1 1)) (xr_fieldAddr (p := 0) (q := 1) rfl fl110_1 ((hk 1 rfl).trans e1)) rfl rfl (hd 10 rfl 63 rfl) rfl rfl
     ·intro ρz wz hz hk hd
      exact sk_gval (v := (pt G1 5)) (xr_fieldAddr (p := 1) (q := 4) rfl fl108_2 (hd 11 rfl 64 rfl)) rfl rfl (hd 10 rfl 63 rfl) rfl rfl
     ·intro ρz wz hz hk hd
      exact sk_gval (v := .int .i64 a0.Tickets.High) (xr_load1 (v := .int .i64 a0.Tickets.High) rfl ag3 (hd 12 rfl 65 rfl) ((b2.gr hz).seg 5 rfl rfl)) rfl rfl (hd 10 rfl 63 rfl) rfl rfl
     ·intro ρz wz hz hk hd
      exact sk_gval (v := .bool (decide (a0.Tickets.High > 0))) (xr_gtr rfl (hd 13 rfl 66 rfl) rfl) rfl rfl (hd 10 rfl 63 rfl) rfl rfl
     ·intro ρz wz hz hk hd
      exact sk_gval (v := .bool (decide (a0.Tickets.High > 0))) (xr_move rfl (hd 14 rfl 67 rfl)) rfl rfl (hd 10 rfl 63 rfl) rfl rfl
     ·intro ρz wz hz hk hd
      exact sk_skip rfl rfl (hd 15 rfl 68 rfl) c78 rfl
     ·intro ρz wz hz hk hd
      exact sk_skip rfl rfl (hd 15 rfl 68 rfl) c78 rfl
     ·intro ρz wz hz hk hd
      exact sk_skip rfl rfl (hd 15 rfl 68 rfl) c78 rfl
     ·intro ρz wz hz hk hd
      exact sk_skip rfl rfl (hd 15 rfl 68 rfl) c78 rfl
     ·intro ρz wz hz hk hd
      exact sk_skip rfl rfl (hd 15 rfl 68 rfl) c78 rfl
     ·intro ρz wz hz hk hd
      exact sk_skip rfl rfl (hd 15 rfl 68 rfl) c78 rfl
     ·intro ρz wz hz hk hd
      exact sk_gval (v := .bool false) (xr_pickF rfl (hd 15 rfl 68 rfl) c78 rfl) rfl rfl (hd 10 rfl 63 rfl) rfl rfl
     ·intro ρz wz hz hk hd
      exact sk_val (v := .bool false) (xr_pickF rfl (hd 10 rfl 63 rfl) rfl (hd 22 rfl 75 rfl)) rfl rfl
     ·intro ρz wz hz hk hd
      exact sk_val (v := .bool false) (xr_move rfl (hd 23 rfl 76 rfl)) rfl rfl
     ·intro ρz wz hz hk hd
      exact sk_gval (v := (pt G1 7)) (xr_fieldAddr (p := 0) (q := 7) rfl fl110_2 ((hk 1 rfl).trans e1)) rfl rfl (hd 24 rfl 77 rfl) rfl rfl
     ·intro ρz wz hz hk hd
      exact sk_gval (v := .int .i64 a0.Dir) (xr_load1 (v := .int .i64 a0.Dir) rfl ag3 (hd 25 rfl 78 rfl) ((b2.gr hz).seg 7 rfl rfl)) rfl rfl (hd 24 rfl 77 rfl) rfl rfl
     ·intro ρz wz hz hk hd
      exact sk_gval (v := .bool (!decide (a0.Dir = 0))) (xr_neI rfl Try.underlying3 rfl (hd 26 rfl 79 rfl) rfl) rfl rfl (hd 24 rfl 77 rfl) rfl rfl
     ·intro ρz wz hz hk hd
      exact sk_gval (v := .bool (!decide (a0.Dir = 0))) (xr_move rfl (hd 27 rfl 80 rfl)) rfl rfl (hd 24 rfl 77 rfl) rfl rfl
     ·intro ρz wz hz hk hd
      exact sk_gval (v := Value.func (.func 144) #[] #[(pt G1 0)]) (xr_move rfl ((hk 3 rfl).trans rfl)) rfl rfl (hd 28 rfl 81 rfl) c106 rfl
     ·intro ρz wz hz hk hd
      exact sk_gval (v := (pt G1 7)) (xr_fieldAddr (p := 0) (q := 7) rfl fl110_2 ((hk 1 rfl).trans e1)) rfl rfl (hd 28 rfl 81 rfl) c106 rfl
     ·intro ρz wz hz hk hd
      exact sk_gval (v := .int .i64 a0.Dir) (xr_load1 (v := .int .i64 a0.Dir) rfl ag3 (hd 30 rfl 83 rfl) ((b2.gr hz).seg 7 rfl rfl)) rfl rfl (hd 28 rfl 81 rfl) c106 rfl
     ·intro ρz wz hz hk hd
      refine sk_gop (opv_callV (C := [(pt G1 0)]) rfl (hd 29 rfl 82 rfl) cal144 (ac (hd 31 rfl 84 rfl) an) (super_Right_1__c.ok fu _ a0.Dir a0 G1 V0_0 (R0_0.gr (fB.gr hz)) (b2.gr hz) _ k108)) rfl rfl (hd 28 rfl 81 rfl) c106 ?_
      rintro _ wy ⟨rfl, q109⟩
      exact ⟨rfl, q109⟩
     ·intro ρz wz hz hk hd
      exact sk_gval (v := .bool (!t107)) (xr_not rfl (hd 32 rfl 85 rfl)) rfl rfl (hd 28 rfl 81 rfl) c106 rfl
     ·intro ρz wz hz hk hd
      exact sk_gval (v := .bool (!t107)) (xr_pickT rfl (hd 28 rfl 81 rfl) c106 (hd 33 rfl 86 rfl)) rfl rfl (hd 24 rfl 77 rfl) rfl rfl
     ·intro ρz wz hz hk hd
      exact sk_val (v := .bool (!t107)) (xr_pickF rfl (hd 24 rfl 77 rfl) rfl (hd 34 rfl 87 rfl)) rfl rfl
     ·intro ρz wz hz hk hd
      exact sk_val (v := .bool (!t107)) (xr_move rfl (hd 35 rfl 88 rfl)) rfl rfl
     ·intro ρz wz hz hk hd
      exact sk_skip rfl rfl (hd 36 rfl 89 rfl) c110 rfl
     ·intro ρz wz hz hk hd
      exact sk_skip rfl rfl (hd 36 rfl 89 rfl) c110 rfl
     ·intro ρz wz hz hk hd
      exact sk_skip rfl rfl (hd 36 rfl 89 rfl) c110 rfl
     ·intro ρz wz hz hk hd
      exact sk_skip rfl rfl (hd 36 rfl 89 rfl) c110 rfl
     ·intro ρz wz hz hk hd
      exact sk_skip rfl rfl (hd 36 rfl 89 rfl) c110 rfl
     ·intro ρz wz hz hk hd
      exact sk_skip rfl rfl (hd 36 rfl 89 rfl) c110 rfl
     ·intro ρz wz hz hk hd
      exact sk_skip rfl rfl (hd 36 rfl 89 rfl) c110 rfl
     intro ρz wz hz hk hd
     exact sk_skip rfl rfl (hd 36 rfl 89 rfl) c110 rfl
    intro ρ111 w112 q113 hk hd
    have e1 := (hk 1 rfl).trans e1
    have e3 := (hk 3 rfl).trans rfl
    have e89 := hd 36 rfl 89 rfl
    have b2 := b2.gr q113
    have fB := fB.gr q113
    refine ol_val (v := .bool true) (xr_pickT rfl e89 c110 rfl) rfl rfl rfl ?_
    refine ol_nil ?_
    obtain rfl := Option.some.inj j24
    refine thn_i ?_
    exact ⟨e1, e3, rfl, q113⟩
   obtain ⟨t114, k115, j24⟩ := bs j24
   refine cw_drawL 45 [fun vz wz => vz = ((pt G1 1) : Value), fun vz wz => vz = ((pt G1 5) : Value), fun vz wz => vz = (.int .i64 a0.Tickets.High : Value), fun vz wz => vz = (.bool (decide (a0.Tickets.High = 0)) : Value), fun vz wz => vz = (.bool (decide (a0.Tickets.High = 0)) : Value), fun vz _ => vz = undef, fun vz _ => vz = undef, fun vz _ => vz = undef, fun vz _ => vz = undef, fun vz wz => vz = (.bool false : Value), fun vz wz => vz = (.bool false : Value), fun vz wz => vz = ((pt G1 1) : Value), fun vz wz => vz = ((pt G1 5) : Value), fun vz wz => vz = (.int .i64 a0.Tickets.High : Value), fun vz wz => vz = (.bool (decide (a0.Tickets.High > 0)) : Value), fun vz wz => vz = (.bool (decide (a0.Tickets.High > 0)) : Value), fun vz _ => vz = undef, fun vz _ => vz = undef, fun vz _ => vz = undef, fun vz _ => vz = undef, fun vz _ => vz = undef, fun vz _ => vz = undef, fun vz wz => vz = (.bool false : Value), fun vz wz => vz = (.bool false : Value), fun vz wz => vz = (.bool false : Value), fun vz wz => vz = ((pt G1 7) : Value), fun vz wz => vz = (.int .i64 a0.Dir : Value), fun vz wz => vz = (.bool (!decide (a0.Dir = 0)) : Value), fun vz wz => vz = (.bool (!decide (a0.Dir = 0)) : Value), fun vz wz => vz = (Value.func (.func 144) #[] #[(pt G1 0)] : Value), fun vz wz => vz = ((pt G1 7) : Value), fun vz wz => vz = (.int .i64 a0.Dir : Value), fun vz wz => vz = (.bool t107 : Value), fun vz wz => vz = (.bool (!t107) : Value), fun vz wz => vz = (.bool (!t107) : Value), fun vz wz => vz = (.bool (!t107) : Value), fun vz wz => vz = (.bool (!t107) : Value), fun vz wz => vz = ((pt G1 8) : Value), fun vz wz => vz = (V0_0 : Value), fun vz wz => vz = (.int .i64 (List.length a0.Charts : Int) : Value), fun vz wz => vz = ((pt G1 1) : Value), fun vz wz => vz = ((pt G1 1) : Value), fun vz wz => vz = (aggV [(sI a0.Tickets.Geometry.Blocks), (sI a0.Tickets.Geometry.Slots), (sI a0.Tickets.Geometry.Gens)] : Value), fun vz wz => vz = (.int .i64 t114 : Value), fun vz wz => vz = (.bool (!decide ((List.length a0.Charts : Int) = t114)) : Value)] mo rfl ⟨fun _ _ _ h _ => h, fun _ _ _ h _ => h, fun _ _ _ h _ => h, fun _ _ _ h _ => h, fun _ _ _ h _ => h, fun _ _ _ h _ => h, fun _ _ _ h _ => h, fun _ _ _ h _ => h, fun _ _ _ h _ => h, fun _ _ _ h _ => h, fun _ _ _ h _ => h, fun _ _ _ h _ => h, fun _ _ _ h _ => h, fun _ _ _ h _ => h, fun _ _ _ h _ => h, fun _ _ _ h _ => h, fun _ _ _ h _ => h, fun _ _ _ h _ => h, fun _ _ _ h _ => h, fun _ _ _ h _ => h, fun _ _ _ h _ => h, fun _ _ _ h _ => h, fun _ _ _ h _ => h, fun _ _ _ h _ => h, fun _ _ _ h _ => h, fun _ _ _ h _ => h, fun _ _ _ h _ => h, fun _ _ _ h _ => h, fun _ _ _ h _ => h, fun _ _ _ h _ => h, fun _ _ _ h _ => h, fun _ _ _ h _ => h, fun _ _ _ h _ => h, fun _ _ _ h _ => h, fun _ _ _ h _ => h, fun _ _ _ h _ => h, fun _ _ _ h _ => h, fun _ _ _ h _ => h, fun _ _ _ h _ => h, fun _ _ _ h _ => h, fun _ _ _ h _ => h, fun _ _ _ h _ => h, fun _ _ _ h _ => h, fun _ _ _ h _ => h, fun _ _ _ h _ => h, trivial⟩ ?_ ?_
   ·refine ⟨?_, ?_, ?_, ?_, ?_, ?_, ?_, ?_, ?_, ?_, ?_, ?_, ?_, ?_, ?_, ?_, ?_, ?_, ?_, ?_, ?_, ?_, ?_, ?_, ?_, ?_, ?_, ?_, ?_, ?_, ?_, ?_, ?_, ?_, ?_, ?_, ?_, ?_, ?_, ?_, ?_, ?_, ?_, ?_, ?_, trivial⟩
    ·intro ρz wz hz hk hd
     exact sk_val (v := (pt G1 1)) (xr_fieldAddr (p := 0) (q := 1) rfl fl110_1 ((hk 1 rfl).trans e1)) rfl rfl
    ·intro ρz wz hz hk hd
     exact sk_val (v := (pt G1 5)) (xr_fieldAddr (p := 1) (q := 4) rfl fl108_2 (hd 0 rfl 53 rfl)) rfl rfl
    ·intro ρz wz hz hk hd
     exact sk_val (v := .int .i64 a0.Tickets.High) (xr_load1 (v := .int .i64 a0.Tickets.High) rfl ag3 (hd 1 rfl 54 rfl) ((b2.gr hz).seg 5 rfl rfl)) rfl rfl
    ·intro ρz wz hz hk hd
     exact sk_val (v := .bool (decide (a0.Tickets.High = 0))) (xr_eqI rfl Try.underlying3 rfl (hd 2 rfl 55 rfl) rfl) rfl rfl
    ·intro ρz wz hz hk hd
     exact sk_val (v := .bool (decide (a0.Tickets.High = 0))) (xr_move rfl (hd 3 rfl 56 rfl)) rfl rfl
    ·intro ρz wz hz hk hd
     exact sk_skip rfl rfl (hd 4 rfl 57 rfl) c25 rfl
    ·intro ρz wz hz hk hd
     exact sk_skip rfl rfl (hd 4 rfl 57 rfl) c25 rfl
    ·intro ρz wz hz hk hd
     exact sk_skip rfl rfl (hd 4 rfl 57 rfl) c25 rfl
    ·intro ρz wz hz hk hd
     exact sk_skip rfl rfl (hd 4 rfl 57 rfl) c25 rfl
    ·intro ρz wz hz hk hd
     exact sk_val (v := .bool false) (xr_pickF rfl (hd 4 rfl 57 rfl) c25 rfl) rfl rfl
    ·intro ρz wz hz hk hd
     exact sk_val (v := .bool false) (xr_move rfl (hd 9 rfl 62 rfl)) rfl rfl
    ·intro ρz wz hz hk hd
     exact sk_gval (v := (pt G1 1)) (xr_fieldAddr (p := 0) (q := 1) rfl fl110_1 ((hk 1 rfl).trans e1)) rfl rfl (hd 10 rfl 63 rfl) rfl rfl
    ·intro ρz wz hz hk hd
     exact sk_gval (v := (pt G1 5)) (xr_fieldAddr (p := 1) (q := 4) rfl fl108_2 (hd 11 rfl 64 rfl)) rfl rfl (hd 10 rfl 63 rfl) rfl rfl
    ·intro ρz wz hz hk hd
     exact sk_gval (v := .int .i64 a0.Tickets.High) (xr_load1 (v := .int .i64 a0.Tickets.High) rfl ag3 (hd 12 rfl 65 rfl) ((b2.gr hz).seg 5 rfl rfl)) rfl rfl (hd 10 rfl 63 rfl) rfl rfl
    ·intro ρz wz hz hk hd
     exact sk_gval (v := .bool (decide (a0.Tickets.High > 0))) (xr_gtr rfl (hd 13 rfl 66 rfl) rfl) rfl rfl (hd 10 rfl 63 rfl) rfl rfl
    ·intro ρz wz hz hk hd
     exact sk_gval (v := .bool (decide (a0.Tickets.High > 0))) (xr_move rfl (hd 14 rfl 67 rfl)) rfl rfl (hd 10 rfl 63 rfl) rfl rfl
    ·intro ρz wz hz hk hd
     exact sk_skip rfl rfl (hd 15 rfl 68 rfl) c78 rfl
    ·intro ρz wz hz hk hd
     exact sk_skip rfl rfl (hd 15 rfl 68 rfl) c78 rfl
    ·intro ρz wz hz hk hd
     exact sk_skip rfl rfl (hd 15 rfl 68 rfl) c78 rfl
    ·intro ρz wz hz hk hd
     exact sk_skip rfl rfl (hd 15 rfl 68 rfl) c78 rfl
    ·intro ρz wz hz hk hd
     exact sk_skip rfl rfl (hd 15 rfl 68 rfl) c78 rfl
    ·intro ρz wz hz hk hd
     exact sk_skip rfl rfl (hd 15 rfl 68 rfl) c78 rfl
    ·intro ρz wz hz hk hd
     exact sk_gval (v := .bool false) (xr_pickF rfl (hd 15 rfl 68 rfl) c78 rfl) rfl rfl (hd 10 rfl 63 rfl) rfl rfl
    ·intro ρz wz hz hk hd
     exact sk_val (v := .bool false) (xr_pickF rfl (hd 10 rfl 63 rfl) rfl (hd 22 rfl 75 rfl)) rfl rfl
    ·intro ρz wz hz hk hd
     exact sk_val (v := .bool false) (xr_move rfl (hd 23 rfl 76 rfl)) rfl rfl
    ·intro ρz wz hz hk hd
     exact sk_gval (v := (pt G1 7)) (xr_fieldAddr (p := 0) (q := 7) rfl fl110_2 ((hk 1 rfl).trans e1)) rfl rfl (hd 24 rfl 77 rfl) rfl rfl
    ·intro ρz wz hz hk hd
     exact sk_gval (v := .int .i64 a0.Dir) (xr_load1 (v := .int .i64 a0.Dir) rfl ag3 (hd 25 rfl 78 rfl) ((b2.gr hz).seg 7 rfl rfl)) rfl rfl (hd 24 rfl 77 rfl) rfl rfl
    ·intro ρz wz hz hk hd
     exact sk_gval (v := .bool (!decide (a0.Dir = 0))) (xr_neI rfl Try.underlying3 rfl (hd 26 rfl 79 rfl) rfl) rfl rfl (hd 24 rfl 77 rfl) rfl rfl
    ·intro ρz wz hz hk hd
     exact sk_gval (v := .bool (!decide (a0.Dir = 0))) (xr_move rfl (hd 27 rfl 80 rfl)) rfl rfl (hd 24 rfl 77 rfl) rfl rfl
    ·intro ρz wz hz hk hd
     exact sk_gval (v := Value.func (.func 144) #[] #[(pt G1 0)]) (xr_move rfl ((hk 3 rfl).trans rfl)) rfl rfl (hd 28 rfl 81 rfl) c106 rfl
    ·intro ρz wz hz hk hd
     exact sk_gval (v := (pt G1 7)) (xr_fieldAddr (p := 0) (q := 7) rfl fl110_2 ((hk 1 rfl).trans e1)) rfl rfl (hd 28 rfl 81 rfl) c106 rfl
    ·intro ρz wz hz hk hd
     exact sk_gval (v := .int .i64 a0.Dir) (xr_load1 (v := .int .i64 a0.Dir) rfl ag3 (hd 30 rfl 83 rfl) ((b2.gr hz).seg 7 rfl rfl)) rfl rfl (hd 28 rfl 81 rfl) c106 rfl
    ·intro ρz wz hz hk hd
     refine sk_gop (opv_callV (C := [(pt G1 0)]) rfl (hd 29 rfl 82 rfl) cal144 (ac (hd 31 rfl 84 rfl) an) (super_Right_1__c.ok fu _ a0.Dir a0 G1 V0_0 (R0_0.gr (fB.gr hz)) (b2.gr hz) _ k108)) rfl rfl (hd 28 rfl 81 rfl) c106 ?_
     rintro _ wy ⟨rfl, q109⟩
     exact ⟨rfl, q109⟩
    ·intro ρz wz hz hk hd
     exact sk_gval (v := .bool (!t107)) (xr_not rfl (hd 32 rfl 85 rfl)) rfl rfl (hd 28 rfl 81 rfl) c106 rfl
    ·intro ρz wz hz hk hd
     exact sk_gval (v := .bool (!t107)) (xr_pickT rfl (hd 28 rfl 81 rfl) c106 (hd 33 rfl 86 rfl)) rfl rfl (hd 24 rfl 77 rfl) rfl rfl
    ·intro ρz wz hz hk hd
     exact sk_val (v := .bool (!t107)) (xr_pickF rfl (hd 24 rfl 77 rfl) rfl (hd 34 rfl 87 rfl)) rfl rfl
    ·intro ρz wz hz hk hd
     exact sk_val (v := .bool (!t107)) (xr_move rfl (hd 35 rfl 88 rfl)) rfl rfl
    ·intro ρz wz hz hk hd
     exact sk_gval (v := (pt G1 8)) (xr_fieldAddr (p := 0) (q := 8) rfl fl110_3 ((hk 1 rfl).trans e1)) rfl rfl (hd 36 rfl 89 rfl) c110 rfl
    ·intro ρz wz hz hk hd
     exact sk_gval (v := V0_0) (xr_load1 (v := V0_0) rfl ag25 (hd 37 rfl 90 rfl) ((b2.gr hz).seg 8 rfl rfl)) rfl rfl (hd 36 rfl 89 rfl) c110 rfl
    ·intro ρz wz hz hk hd
     exact sk_gval (v := .int .i64 (List.length a0.Charts : Int)) (xr_lenR rfl Try.underlying25 (hd 38 rfl 91 rfl) (R0_0.gr (fB.gr hz))) rfl rfl (hd 36 rfl 89 rfl) c110 rfl
    ·intro ρz wz hz hk hd
     exact sk_gval (v := (pt G1 1)) (xr_fieldAddr (p := 0) (q := 1) rfl fl110_1 ((hk 1 rfl).trans e1)) rfl rfl (hd 36 rfl 89 rfl) c110 rfl
    ·intro ρz wz hz hk hd
     exact sk_gval (v := (pt G1 1)) (xr_fieldAddr (p := 1) (q := 0) rfl fl108_0 (hd 40 rfl 93 rfl)) rfl rfl (hd 36 rfl 89 rfl) c110 rfl
    ·intro ρz wz hz hk hd
     exact sk_gval (xr_loadS (ss := [(sI a0.Tickets.Geometry.Blocks), (sI a0.Tickets.Geometry.Slots), (sI a0.Tickets.Geometry.Gens)]) rfl ag106 sz106 rfl (hd 41 rfl 94 rfl) ((b2.gr hz).segs 1 3 rfl)) rfl rfl (hd 36 rfl 89 rfl) c110 rfl
    ·intro ρz wz hz hk hd
     refine sk_gop (opv_call rfl cal145 (ac (hd 42 rfl 95 rfl) an) (geom_Charts.ok fu _ a0.Tickets.Geometry _ k115)) rfl rfl (hd 36 rfl 89 rfl) c110 ?_
     rintro _ wy ⟨rfl, q116⟩
     exact ⟨rfl, q116⟩
    intro ρz wz hz hk hd
    exact sk_gval (v := .bool (!decide ((List.length a0.Charts : Int) = t114))) (xr_neI rfl Try.underlying3 rfl (hd 39 rfl 92 rfl) (hd 43 rfl 96 rfl)) rfl rfl (hd 36 rfl 89 rfl) c110 rfl
   intro ρ117 w118 q119 hk hd
   have e1 := (hk 1 rfl).trans e1
   have e3 := (hk 3 rfl).trans rfl
   have e89 := hd 36 rfl 89 rfl
   have e97 := hd 44 rfl 97 rfl
   have b2 := b2.gr q119
   have fB := fB.gr q119
   refine ol_val (v := .bool (!decide ((List.length a0.Charts : Int) = t114))) (xr_pickF rfl e89 c110 e97) rfl rfl rfl ?_
   refine ol_nil ?_
   obtain rfl := Option.some.inj j24
   refine thn_i ?_
   exact ⟨e1, e3, rfl, q119⟩
  obtain ⟨t120, k121, j24⟩ := bs j24
  refine cw_drawL 45 [fun vz wz => vz = ((pt G1 1) : Value), fun vz wz => vz = ((pt G1 5) : Value), fun vz wz => vz = (.int .i64 a0.Tickets.High : Value), fun vz wz => vz = (.bool (decide (a0.Tickets.High = 0)) : Value), fun vz wz => vz = (.bool (decide (a0.Tickets.High = 0)) : Value), fun vz _ => vz = undef, fun vz _ => vz = undef, fun vz _ => vz = undef, fun vz _ => vz = undef, fun vz wz => vz = (.bool false : Value), fun vz wz => vz = (.bool false : Value), fun vz wz => vz = ((pt G1 1) : Value), fun vz wz => vz = ((pt G1 5) : Value), fun vz wz => vz = (.int .i64 a0.Tickets.High : Value), fun vz wz => vz = (.bool (decide (a0.Tickets.High > 0)) : Value), fun vz wz => vz = (.bool (decide (a0.Tickets.High > 0)) : Value), fun vz _ => vz = undef, fun vz _ => vz = undef, fun vz _ => vz = undef, fun vz _ => vz = undef, fun vz _ => vz = undef, fun vz _ => vz = undef, fun vz wz => vz = (.bool false : Value), fun vz wz => vz = (.bool false : Value), fun vz wz => vz = (.bool false : Value), fun vz wz => vz = ((pt G1 7) : Value), fun vz wz => vz = (.int .i64 a0.Dir : Value), fun vz wz => vz = (.bool (!decide (a0.Dir = 0)) : Value), fun vz wz => vz = (.bool (!decide (a0.Dir = 0)) : Value), fun vz _ => vz = undef, fun vz _ => vz = undef, fun vz _ => vz = undef, fun vz _ => vz = undef, fun vz _ => vz = undef, fun vz wz => vz = (.bool false : Value), fun vz wz => vz = (.bool false : Value), fun vz wz => vz = (.bool false : Value), fun vz wz => vz = ((pt G1 8) : Value), fun vz wz => vz = (V0_0 : Value), fun vz wz => vz = (.int .i64 (List.length a0.Charts : Int) : Value), fun vz wz => vz = ((pt G1 1) : Value), fun vz wz => vz = ((pt G1 1) : Value), fun vz wz => vz = (aggV [(sI a0.Tickets.Geometry.Blocks), (sI a0.Tickets.Geometry.Slots), (sI a0.Tickets.Geometry.Gens)] : Value), fun vz wz => vz = (.int .i64 t120 : Value), fun vz wz => vz = (.bool (!decide ((List.length a0.Charts : Int) = t120)) : Value)] mo rfl ⟨fun _ _ _ h _ => h, fun _ _ _ h _ => h, fun _ _ _ h _ => h, fun _ _ _ h _ => h, fun _ _ _ h _ => h, fun _ _ _ h _ => h, fun _ _ _ h _ => h, fun _ _ _ h _ => h, fun _ _ _ h _ => h, fun _ _ _ h _ => h, fun _ _ _ h _ => h, fun _ _ _ h _ => h, fun _ _ _ h _ => h, fun _ _ _ h _ => h, fun _ _ _ h _ => h, fun _ _ _ h _ => h, fun _ _ _ h _ => h, fun _ _ _ h _ => h, fun _ _ _ h _ => h, fun _ _ _ h _ => h, fun _ _ _ h _ => h, fun _ _ _ h _ => h, fun _ _ _ h _ => h, fun _ _ _ h _ => h, fun _ _ _ h _ => h, fun _ _ _ h _ => h, fun _ _ _ h _ => h, fun _ _ _ h _ => h, fun _ _ _ h _ => h, fun _ _ _ h _ => h, fun _ _ _ h _ => h, fun _ _ _ h _ => h, fun _ _ _ h _ => h, fun _ _ _ h _ => h, fun _ _ _ h _ => h, fun _ _ _ h _ => h, fun _ _ _ h _ => h, fun _ _ _ h _ => h, fun _ _ _ h _ => h, fun _ _ _ h _ => h, fun _ _ _ h _ => h, fun _ _ _ h _ => h, fun _ _ _ h _ => h, fun _ _ _ h _ => h, fun _ _ _ h _ => h, trivial⟩ ?_ ?_
  ·refine ⟨?_, ?_, ?_, ?_, ?_, ?_, ?_, ?_, ?_, ?_, ?_, ?_, ?_, ?_, ?_, ?_, ?_, ?_, ?_, ?_, ?_, ?_, ?_, ?_, ?_, ?_, ?_, ?_, ?_, ?_, ?_, ?_, ?_, ?_, ?_, ?_, ?_, ?_, ?_, ?_, ?_, ?_, ?_, ?_, ?_, trivial⟩
   ·intro ρz wz hz hk hd
    exact sk_val (v := (pt G1 1)) (xr_fieldAddr (p := 0) (q := 1) rfl fl110_1 ((hk 1 rfl).trans e1)) rfl rfl
   ·intro ρz wz hz hk hd
    exact sk_val (v := (pt G1 5)) (xr_fieldAddr (p := 1) (q := 4) rfl fl108_2 (hd 0 rfl 53 rfl)) rfl rfl
   ·intro ρz wz hz hk hd
    exact sk_val (v := .int .i64 a0.Tickets.High) (xr_load1 (v := .int .i64 a0.Tickets.High) rfl ag3 (hd 1 rfl 54 rfl) ((b2.gr hz).seg 5 rfl rfl)) rfl rfl
   ·intro ρz wz hz hk hd
    exact sk_val (v := .bool (decide (a0.Tickets.High = 0))) (xr_eqI rfl Try.underlying3 rfl (hd 2 rfl 55 rfl) rfl) rfl rfl
   ·intro ρz wz hz hk hd
    exact sk_val (v := .bool (decide (a0.Tickets.High = 0))) (xr_move rfl (hd 3 rfl 56 rfl)) rfl rfl
   ·intro ρz wz hz hk hd
    exact sk_skip rfl rfl (hd 4 rfl 57 rfl) c25 rfl
   ·intro ρz wz hz hk hd
    exact sk_skip rfl rfl (hd 4 rfl 57 rfl) c25 rfl
   ·intro ρz wz hz hk hd
    exact sk_skip rfl rfl (hd 4 rfl 57 rfl) c25 rfl
   ·intro ρz wz hz hk hd
    exact sk_skip rfl rfl (hd 4 rfl 57 rfl) c25 rfl
   ·intro ρz wz hz hk hd
    exact sk_val (v := .bool false) (xr_pickF rfl (hd 4 rfl 57 rfl) c25 rfl) rfl rfl
   ·intro ρz wz hz hk hd
    exact sk_val (v := .bool false) (xr_move rfl (hd 9 rfl 62 rfl)) rfl rfl
   ·intro ρz wz hz hk hd
    exact sk_gval (v := (pt G1 1)) (xr_fieldAddr (p := 0) (q := 1) rfl fl110_1 ((hk 1 rfl).trans e1)) rfl rfl (hd 10 rfl 63 rfl) rfl rfl
   ·intro ρz wz hz hk hd
    exact sk_gval (v := (pt G1 5)) (xr_fieldAddr (p := 1) (q := 4) rfl fl108_2 (hd 11 rfl 64 rfl)) rfl rfl (hd 10 rfl 63 rfl) rfl rfl
   ·intro ρz wz hz hk hd
    exact sk_gval (v := .int .i64 a0.Tickets.High) (xr_load1 (v := .int .i64 a0.Tickets.High) rfl ag3 (hd 12 rfl 65 rfl) ((b2.gr hz).seg 5 rfl rfl)) rfl rfl (hd 10 rfl 63 rfl) rfl rfl
   ·intro ρz wz hz hk hd
    exact sk_gval (v := .bool (decide (a0.Tickets.High > 0))) (xr_gtr rfl (hd 13 rfl 66 rfl) rfl) rfl rfl (hd 10 rfl 63 rfl) rfl rfl
   ·intro ρz wz hz hk hd
    exact sk_gval (v := .bool (decide (a0.Tickets.High > 0))) (xr_move rfl (hd 14 rfl 67 rfl)) rfl rfl (hd 10 rfl 63 rfl) rfl rfl
   ·intro ρz wz hz hk hd
    exact sk_skip rfl rfl (hd 15 rfl 68 rfl) c78 rfl
   ·intro ρz wz hz hk hd
    exact sk_skip rfl rfl (hd 15 rfl 68 rfl) c78 rfl
   ·intro ρz wz hz hk hd
    exact sk_skip rfl rfl (hd 15 rfl 68 rfl) c78 rfl
   ·intro ρz wz hz hk hd
    exact sk_skip rfl rfl (hd 15 rfl 68 rfl) c78 rfl
   ·intro ρz wz hz hk hd
    exact sk_skip rfl rfl (hd 15 rfl 68 rfl) c78 rfl
   ·intro ρz wz hz hk hd
    exact sk_skip rfl rfl (hd 15 rfl 68 rfl) c78 rfl
   ·intro ρz wz hz hk hd
    exact sk_gval (v := .bool false) (xr_pickF rfl (hd 15 rfl 68 rfl) c78 rfl) rfl rfl (hd 10 rfl 63 rfl) rfl rfl
   ·intro ρz wz hz hk hd
    exact sk_val (v := .bool false) (xr_pickF rfl (hd 10 rfl 63 rfl) rfl (hd 22 rfl 75 rfl)) rfl rfl
   ·intro ρz wz hz hk hd
    exact sk_val (v := .bool false) (xr_move rfl (hd 23 rfl 76 rfl)) rfl rfl
   ·intro ρz wz hz hk hd
    exact sk_gval (v := (pt G1 7)) (xr_fieldAddr (p := 0) (q := 7) rfl fl110_2 ((hk 1 rfl).trans e1)) rfl rfl (hd 24 rfl 77 rfl) rfl rfl
   ·intro ρz wz hz hk hd
    exact sk_gval (v := .int .i64 a0.Dir) (xr_load1 (v := .int .i64 a0.Dir) rfl ag3 (hd 25 rfl 78 rfl) ((b2.gr hz).seg 7 rfl rfl)) rfl rfl (hd 24 rfl 77 rfl) rfl rfl
   ·intro ρz wz hz hk hd
    exact sk_gval (v := .bool (!decide (a0.Dir = 0))) (xr_neI rfl Try.underlying3 rfl (hd 26 rfl 79 rfl) rfl) rfl rfl (hd 24 rfl 77 rfl) rfl rfl
   ·intro ρz wz hz hk hd
    exact sk_gval (v := .bool (!decide (a0.Dir = 0))) (xr_move rfl (hd 27 rfl 80 rfl)) rfl rfl (hd 24 rfl 77 rfl) rfl rfl
   ·intro ρz wz hz hk hd
    exact sk_skip rfl rfl (hd 28 rfl 81 rfl) c106 rfl
   ·intro ρz wz hz hk hd
    exact sk_skip rfl rfl (hd 28 rfl 81 rfl) c106 rfl
   ·intro ρz wz hz hk hd
    exact sk_skip rfl rfl (hd 28 rfl 81 rfl) c106 rfl
   ·intro ρz wz hz hk hd
    exact sk_skip rfl rfl (hd 28 rfl 81 rfl) c106 rfl
   ·intro ρz wz hz hk hd
    exact sk_skip rfl rfl (hd 28 rfl 81 rfl) c106 rfl
   ·intro ρz wz hz hk hd
    exact sk_gval (v := .bool false) (xr_pickF rfl (hd 28 rfl 81 rfl) c106 rfl) rfl rfl (hd 24 rfl 77 rfl) rfl rfl
   ·intro ρz wz hz hk hd
    exact sk_val (v := .bool false) (xr_pickF rfl (hd 24 rfl 77 rfl) rfl (hd 34 rfl 87 rfl)) rfl rfl
   ·intro ρz wz hz hk hd
    exact sk_val (v := .bool false) (xr_move rfl (hd 35 rfl 88 rfl)) rfl rfl
   ·intro ρz wz hz hk hd
    exact sk_gval (v := (pt G1 8)) (xr_fieldAddr (p := 0) (q := 8) rfl fl110_3 ((hk 1 rfl).trans e1)) rfl rfl (hd 36 rfl 89 rfl) rfl rfl
   ·intro ρz wz hz hk hd
    exact sk_gval (v := V0_0) (xr_load1 (v := V0_0) rfl ag25 (hd 37 rfl 90 rfl) ((b2.gr hz).seg 8 rfl rfl)) rfl rfl (hd 36 rfl 89 rfl) rfl rfl
   ·intro ρz wz hz hk hd
    exact sk_gval (v := .int .i64 (List.length a0.Charts : Int)) (xr_lenR rfl Try.underlying25 (hd 38 rfl 91 rfl) (R0_0.gr (fB.gr hz))) rfl rfl (hd 36 rfl 89 rfl) rfl rfl
   ·intro ρz wz hz hk hd
    exact sk_gval (v := (pt G1 1)) (xr_fieldAddr (p := 0) (q := 1) rfl fl110_1 ((hk 1 rfl).trans e1)) rfl rfl (hd 36 rfl 89 rfl) rfl rfl
   ·intro ρz wz hz hk hd
    exact sk_gval (v := (pt G1 1)) (xr_fieldAddr (p := 1) (q := 0) rfl fl108_0 (hd 40 rfl 93 rfl)) rfl rfl (hd 36 rfl 89 rfl) rfl rfl
   ·intro ρz wz hz hk hd
    exact sk_gval (xr_loadS (ss := [(sI a0.Tickets.Geometry.Blocks), (sI a0.Tickets.Geometry.Slots), (sI a0.Tickets.Geometry.Gens)]) rfl ag106 sz106 rfl (hd 41 rfl 94 rfl) ((b2.gr hz).segs 1 3 rfl)) rfl rfl (hd 36 rfl 89 rfl) rfl rfl
   ·intro ρz wz hz hk hd
    refine sk_gop (opv_call rfl cal145 (ac (hd 42 rfl 95 rfl) an) (geom_Charts.ok fu _ a0.Tickets.Geometry _ k121)) rfl rfl (hd 36 rfl 89 rfl) rfl ?_
    rintro _ wy ⟨rfl, q122⟩
    exact ⟨rfl, q122⟩
   intro ρz wz hz hk hd
   exact sk_gval (v := .bool (!decide ((List.length a0.Charts : Int) = t120))) (xr_neI rfl Try.underlying3 rfl (hd 39 rfl 92 rfl) (hd 43 rfl 96 rfl)) rfl rfl (hd 36 rfl 89 rfl) rfl rfl
  intro ρ123 w124 q125 hk hd
  have e1 := (hk 1 rfl).trans e1
  have e3 := (hk 3 rfl).trans rfl
  have e89 := hd 36 rfl 89 rfl
  have e97 := hd 44 rfl 97 rfl
  have b2 := b2.gr q125
  have fB := fB.gr q125
  refine ol_val (v := .bool (!decide ((List.length a0.Charts : Int) = t120))) (xr_pickF rfl e89 rfl e97) rfl rfl rfl ?_
  refine ol_nil ?_
  obtain rfl := Option.some.inj j24
  refine thn_i ?_
  exact ⟨e1, e3, rfl, q125⟩
 rintro ρ126 w127 ⟨e1, e3, e98, q128⟩
 have b2 := b2.gr q128
 have fB := fB.gr q128
 rcases is h with ⟨c129, h⟩ | ⟨c129, h⟩
 ·refine cw_condT e98 c129 ?_
  refine cw_seq ?_
  refine cw_region ?_
  refine ol_val (v := .bool false) (xr_assign rfl rfl) rfl rfl rfl ?_
  refine ol_nil ?_
  refine cw_ret ?_
  repeat (first | with_reducible refine thn_r ?_ | with_reducible refine blk_r ?_)
  obtain rfl := Option.some.inj h
  refine fin_ret1 Try.results132 rfl ?_
  exact ⟨_, rfl, rfl, fB⟩
 refine cw_condF e98 c129 ?_
 refine cw_skip ?_
 refine cw_seq ?_
 refine cw_seq ?_
 refine cw_region ?_
 refine ol_val (v := (pt G1 8)) (xr_fieldAddr (p := 0) (q := 8) rfl fl110_3 e1) rfl rfl rfl ?_
 refine ol_val (v := V0_0) (xr_load1 (v := V0_0) rfl ag25 rfl (b2.seg 8 rfl rfl)) rfl rfl rfl ?_
 refine ol_val (v := .int .i64 (List.length a0.Charts : Int)) (xr_lenR rfl Try.underlying25 rfl (R0_0.gr fB)) rfl rfl rfl ?_
 refine ol_val (v := .int .i64 0) (xr_move rfl rfl) rfl rfl rfl ?_
 refine ol_nil ?_
 obtain ⟨e131, l132, h133⟩ := bs h
 refine cw_mid (fun ρ' w' => ∃ x134, e131 = Sum.inr x134 ∧ Gr w w') ?_ ?_
 ·refine cw_block ?_
  refine cw_round (fun (s130 : Int) ρ' w' => ρ' 1 = (pt G1 0) ∧ ρ' 3 = Value.func (.func 144) #[] #[(pt G1 0)] ∧ ρ' 100 = V0_0 ∧ ρ' 101 = .int .i64 (List.length a0.Charts : Int) ∧ ρ' 102 = .int .i64 s130 ∧ Blk w' G1 110 [(sI a0.Epoch), (sI a0.Tickets.Geometry.Blocks), (sI a0.Tickets.Geometry.Slots), (sI a0.Tickets.Geometry.Gens), (sI a0.Tickets.Top), (sI a0.Tickets.High), (sI a0.Tickets.Free), (sI a0.Dir), Seg.cell V0_0 R0_0.one] ∧ Gr w w') l132 ?_ ?_
  ·skip
   exact ⟨e1, e3, rfl, rfl, rfl, b2, fB⟩
  rintro s130 x137 ρ135 w136 ⟨e1, e3, e100, e101, e102, b2, fB⟩ h
  unfold super_Right.s0 at h
  refine cw_seq ?_
  refine cw_region ?_
  refine ol_val (v := .bool (decide (s130 < (List.length a0.Charts : Int)))) (xr_lss rfl e102 e101) rfl rfl rfl ?_
  refine ol_nil ?_
  refine cw_seq ?_
  rcases is h with ⟨c138, h⟩ | ⟨c138, h⟩
  ·refine cw_condT rfl c138 ?_
   refine cw_skip ?_
   refine cw_seq ?_
   refine cw_block ?_
   refine cw_seq ?_
   refine cw_region ?_
   refine ol_val (v := .int .i64 s130) (xr_move rfl e102) rfl rfl rfl ?_
   obtain ⟨g139, h⟩ := gs h
   refine ol_val (v := (pt ((sb V0_0)) (so V0_0 + Int.toNat s130 * 1))) (xr_indexR (K := (kI .i64)) (v := V0_0) rfl Try.underlying25 sz3 e100 (R0_0.gr fB) e102 g139.1 g139.2) rfl rfl rfl ?_
   refine ol_val (v := .int .i64 (ix a0.Charts s130)) (xr_load1 (v := .int .i64 (ix a0.Charts s130)) rfl ag3 rfl ((R0_0.gr fB).elem g139.1 g139.2)) rfl rfl rfl ?_
   refine ol_val (v := .int .i64 s130) (xr_assign rfl rfl) rfl rfl rfl ?_
   refine ol_val (v := .int .i64 (ix a0.Charts s130)) (xr_assign rfl rfl) rfl rfl rfl ?_
   refine ol_nil ?_
   refine cw_seq ?_
   obtain ⟨x140, j141, h⟩ := bs h
   refine cw_mid (fun ρ' w' => ρ' 1 = (pt G1 0) ∧ ρ' 3 = Value.func (.func 144) #[] #[(pt G1 0)] ∧ ρ' 100 = V0_0 ∧ ρ' 101 = .int .i64 (List.length a0.Charts : Int) ∧ ρ' 102 = .int .i64 s130 ∧ ρ' 118 = .bool x140 ∧ Gr w136 w') ?_ ?_
   ·skip
    refine cw_region ?_
    refine ol_val (v := Value.func (.func 144) #[] #[(pt G1 0)]) (xr_move rfl e3) rfl rfl rfl ?_
    refine ol_val (v := .int .i64 (ix a0.Charts s130)) (xr_move rfl rfl) rfl rfl rfl ?_
    obtain ⟨t142, k143, j141⟩ := bs j141
    refine ol_op (opv_callV (C := [(pt G1 0)]) rfl rfl cal144 (ac rfl an) (super_Right_1__c.ok fu _ (ix a0.Charts s130) a0 G1 V0_0 (R0_0.gr fB) b2 _ k143)) rfl rfl rfl ?_
    rintro _ w145 ⟨rfl, q144⟩
    have b2 := b2.gr q144
    have fB := fB.gr q144
    refine ol_val (v := .bool (!t142)) (xr_not rfl rfl) rfl rfl rfl ?_
    refine ol_val (v := .bool (!t142)) (xr_move rfl rfl) rfl rfl rfl ?_
    rcases is j141 with ⟨c146, j141⟩ | ⟨c146, j141⟩
    ·skip
     refine ol_gskip rfl rfl rfl rfl rfl c146 ?_
     refine ol_gskip rfl rfl rfl rfl rfl c146 ?_
     refine ol_gskip rfl rfl rfl rfl rfl c146 ?_
     refine ol_gskip rfl rfl rfl rfl rfl c146 ?_
     refine ol_gskip rfl rfl rfl rfl rfl c146 ?_
     refine ol_gskip rfl rfl rfl rfl rfl c146 ?_
     refine ol_val (v := .bool true) (xr_pickT rfl rfl c146 rfl) rfl rfl rfl ?_
     refine ol_nil ?_
     obtain rfl := Option.some.inj j141
     refine thn_i ?_
     exact ⟨e1, e3, e100, e101, e102, rfl, q144⟩
    refine ol_gval (v := (pt G1 8)) (xr_fieldAddr (p := 0) (q := 8) rfl fl110_3 e1) rfl rfl rfl rfl rfl c146 ?_
    refine ol_gval (v := V0_0) (xr_load1 (v := V0_0) rfl ag25 rfl (b2.seg 8 rfl rfl)) rfl rfl rfl rfl rfl c146 ?_
    refine ol_gval (v := .int .i64 s130) (xr_move rfl rfl) rfl rfl rfl rfl rfl c146 ?_
    obtain ⟨g148, j141⟩ := gs j141
    refine ol_gval (v := subv 1 V0_0 0 (Int.toNat s130)) (xr_slice_h (K := (kI .i64)) (v := V0_0) rfl Try.underlying25 sz3 rfl (R0_0.gr fB) rfl g148.1 g148.2) rfl rfl rfl rfl rfl c146 ?_
    have r147 : Rd (kI .i64) w145 (subv 1 V0_0 0 (Int.toNat s130)) (cut a0.Charts 0 s130) := (R0_0.gr fB).cut (lo := 0) (hi := s130) (by decide) g148.1 g148.2
    refine ol_gval (v := .int .i64 (ix a0.Charts s130)) (xr_move rfl rfl) rfl rfl rfl rfl rfl c146 ?_
    obtain ⟨t149, k150, j141⟩ := bs j141
    refine ol_gop (opv_call rfl cal146 (ac rfl (ac rfl an)) (slices_Contains_2.ok fu _ (cut a0.Charts 0 s130) (subv 1 V0_0 0 (Int.toNat s130)) (r147) (ix a0.Charts s130) _ k150)) rfl rfl rfl rfl rfl c146 ?_
    rintro _ w152 ⟨rfl, q151⟩
    have b2 := b2.gr q151
    have r147 := r147.gr q151
    have fB := fB.gr q151
    refine ol_val (v := .bool t149) (xr_pickF rfl rfl c146 rfl) rfl rfl rfl ?_
    refine ol_nil ?_
    obtain rfl := Option.some.inj j141
    refine thn_i ?_
    exact ⟨e1, e3, e100, e101, e102, rfl, (q144.gr q151)⟩
   rintro ρ153 w154 ⟨e1, e3, e100, e101, e102, e118, q155⟩
   have b2 := b2.gr q155
   have fB := fB.gr q155
   rcases is h with ⟨c156, h⟩ | ⟨c156, h⟩
   ·refine cw_condT e118 c156 ?_
    refine cw_seq ?_
    refine cw_region ?_
    refine ol_val (v := .bool false) (xr_assign rfl rfl) rfl rfl rfl ?_
    refine ol_nil ?_
    refine cw_ret ?_
    repeat (first | with_reducible refine thn_r ?_ | with_reducible refine blk_r ?_)
    obtain rfl := Option.some.inj h
    refine lp_ret ?_
    rintro rfl
    repeat (first | with_reducible refine thn_r ?_ | with_reducible refine blk_r ?_)
    have h := h133
    obtain rfl := Option.some.inj h
    refine fin_ret1 Try.results132 rfl ?_
    exact ⟨_, rfl, rfl, fB⟩
   refine cw_condF e118 c156 ?_
   refine cw_skip ?_
   refine blk_i ?_
   refine cw_region ?_
   refine ol_val (v := .int .i64 (IntKind.i64.wrap (s130 + 1))) (xr_add rfl e102 rfl) rfl rfl rfl ?_
   refine ol_val (v := .int .i64 (IntKind.i64.wrap (s130 + 1))) (xr_move rfl rfl) rfl rfl rfl ?_
   refine ol_nil ?_
   obtain rfl := Option.some.inj h
   refine lp_in ?_
   exact ⟨e1, e3, e100, e101, rfl, b2, fB⟩
  refine cw_condF rfl c138 ?_
  refine cw_exit ?_
  repeat (first | with_reducible refine thn_e ?_ | with_reducible refine blk_e rfl ?_)
  obtain rfl := Option.some.inj h
  refine lp_exit ?_
  rintro rfl
  refine thn_x ?_
  exact ⟨_, rfl, fB⟩
 rintro ρ157 w158 ⟨x134, rfl, fB⟩
 have h := h133
 refine cw_seq ?_
 refine cw_region ?_
 refine ol_val (v := .bool true) (xr_assign rfl rfl) rfl rfl rfl ?_
 refine ol_nil ?_
 refine cw_ret ?_
 repeat (first | with_reducible refine thn_r ?_ | with_reducible refine blk_r ?_)
 obtain rfl := Option.some.inj h
 refine fin_ret1 Try.results132 rfl ?_
 exact ⟨_, rfl, rfl, fB⟩
end Go.Proofs.Ytklhbaghbmndeaa
