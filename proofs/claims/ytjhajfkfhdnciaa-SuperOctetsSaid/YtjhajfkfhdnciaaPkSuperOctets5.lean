/- SuperOctets: texts merged, part 5 of 7. The last part proves that the law SuperOctets holds for every input. -/
import Derived.Test.YtjhajfkfhdnciaaPkSuperOctets4
import Derived.ProofKit
import Derived.OpenShut
import Derived.ChangeOld
import Derived.Below
import Derived.SizedLaws
import Derived.WalkKit
/- rickyard/rickyardref12.Charts: its model, and that the Go function computes it: written by gen.py. -/
set_option linter.unusedVariables false
namespace Go.Proofs.Ytjhajfkfhdnciaa
open Go Go.Xw
def rickyardref12_Charts.f (fu : Nat) (a0 : S_api_Geometry) : Option Int := ((rickyardref12_Need.f fu a0.Blocks 384 : Option Int).bind fun t7 => some (t7))
set_option maxRecDepth 100000 in
set_option maxHeartbeats 400000 in
theorem rickyardref12_Charts.ok (fu : Nat) (w : World) (a0 : S_api_Geometry) (r : Int) (h : rickyardref12_Charts.f fu a0 = some r) :
    Calls Try.prog 125 (([aggV [Seg.cell (.int .i64 a0.Blocks), Seg.cell (.int .i64 a0.Slots), Seg.cell (.int .i64 a0.Gens)]] : List Value).toArray) w (fun e w' => ∃ v, e = .returned v ∧ v = .int .i64 r ∧ Gr w w') := by
  unfold rickyardref12_Charts.f at h
  have fB : Gr w w := Fr.refl _ _
  refine calls_cw Try.func125 rfl Try.ntmps125 rfl ?_
  refine cw_seq ?_
  refine cw_region ?_
  refine ol_op (by exact opv_box (ss := [Seg.cell (.int .i64 a0.Blocks), Seg.cell (.int .i64 a0.Slots), Seg.cell (.int .i64 a0.Gens)]) rfl rfl rfl) rfl rfl rfl ?_
  rintro _ w6 ⟨G1, rfl, b2, q3, z4⟩
  have z4 := Nat.le_trans fB.size z4
  have fB := fB.gr q3
  refine ol_val (v := .int .i64 0) (by exact xr_assign rfl rfl) rfl rfl rfl ?_
  refine ol_nil ?_
  refine cw_seq ?_
  refine cw_region ?_
  refine ol_val (v := .pointer (some ⟨G1, 0, none⟩)) (by exact xr_fieldAddr (p := 0) (q := 0) rfl fl116_0 rfl) rfl rfl rfl ?_
  refine ol_val (v := .int .i64 a0.Blocks) (by exact xr_load1 (v := .int .i64 a0.Blocks) rfl ag3 rfl (b2.seg 0 rfl rfl)) rfl rfl rfl ?_
  obtain ⟨t7, k8, h⟩ := bs h
  refine ol_op (by exact opv_call rfl cal143 (ac rfl (ac rfl an)) (rickyardref12_Need.ok fu _ a0.Blocks 384 _ k8)) rfl rfl rfl ?_
  rintro _ w10 ⟨rfl, q9⟩
  have fB := fB.gr q9
  refine ol_val (v := .int .i64 t7) (by exact xr_assign rfl rfl) rfl rfl rfl ?_
  refine ol_nil ?_
  refine cw_ret ?_
  repeat (first | with_reducible refine thn_r ?_ | with_reducible refine blk_r ?_)
  obtain rfl := Option.some.inj h
  refine fin_ret1 Try.results125 rfl ?_
  exact ⟨_, rfl, rfl, fB⟩
end Go.Proofs.Ytjhajfkfhdnciaa

/- rickyard/rickyardref13.Right: its model, and that the Go function computes it: written by gen.py. -/
set_option linter.unusedVariables false
namespace Go.Proofs.Ytjhajfkfhdnciaa
open Go Go.Xw
def rickyardref13_Right.s2 (fu : Nat) (a0 : S_api_Super) (s98 : (List Int) × Int) : Int → Option (Sum (Sum (Sum (Sum Bool (List Int)) ((List Int) × Int)) Unit) Int) := fun s130 => (if (decide (s130 < s98.2)) = true then (if 0 ≤ s130 ∧ s130 < (List.length a0.Charts : Int) then (if 0 ≤ s98.2 ∧ s98.2 < (List.length a0.Charts : Int) then (if (decide ((ix a0.Charts s130) = (ix a0.Charts s98.2))) = true then some (Sum.inl (Sum.inl (Sum.inl (Sum.inl (false))))) else some (Sum.inr ((IntKind.i64.wrap (s130 + 1))))) else none) else none) else some (Sum.inl (Sum.inr ())))
def rickyardref13_Right.s1 (fu : Nat) (a0 : S_api_Super) : ((List Int) × Int) → Option (Sum (Sum Bool (List Int)) ((List Int) × Int)) := fun s98 => (if (decide (s98.2 < (List.length a0.Charts : Int))) = true then (if 0 ≤ s98.2 ∧ s98.2 < (List.length a0.Charts : Int) then (if List.length s98.1 + List.length [(ix a0.Charts s98.2)] ≤ LIM then ((loopM (rickyardref13_Right.s2 fu a0 s98) fu (0)).bind fun e131 => match e131 with | Sum.inl p => some p | Sum.inr x134 => some (Sum.inr ((s98.1 ++ [(ix a0.Charts s98.2)]), (IntKind.i64.wrap (s98.2 + 1))))) else none) else none) else some (Sum.inl (Sum.inr (s98.1))))
def rickyardref13_Right.s3 (fu : Nat) (a0 : S_api_Super) (x102 : (List Int)) : Int → Option (Sum (Sum Bool Unit) Int) := fun s149 => (if (decide (s149 < (List.length x102 : Int))) = true then (((if 0 ≤ s149 ∧ s149 < (List.length x102 : Int) then (if (decide ((ix x102 s149) < 2)) = true then some (true) else (if 0 ≤ s149 ∧ s149 < (List.length x102 : Int) then some ((decide ((ix x102 s149) ≥ a0.Tickets.Geometry.Blocks))) else none)) else none) : Option Bool).bind fun x158 => (if x158 = true then some (Sum.inl (Sum.inl (false))) else some (Sum.inr ((IntKind.i64.wrap (s149 + 1)))))) else some (Sum.inl (Sum.inr ())))
def rickyardref13_Right.f (fu : Nat) (a0 : S_api_Super) : Option Bool := (((if (decide (a0.Epoch < 1)) = true then some (true) else (if (decide (a0.Epoch > 4611686018427387904)) = true then some (true) else ((rickyardref12_Right.f fu a0.Tickets.Geometry : Option Bool).bind fun t11 => some ((!t11))))) : Option Bool).bind fun x7 => (if x7 = true then some (false) else (((if (decide (a0.Tickets.High < 0)) = true then some (true) else (if (decide (a0.Tickets.High > a0.Tickets.Geometry.Slots)) = true then some (true) else (if (decide (a0.Tickets.Free < 0)) = true then some (true) else (if (decide (a0.Tickets.Free > a0.Tickets.High)) = true then some (true) else ((rickyardref12_Charts.f fu a0.Tickets.Geometry : Option Int).bind fun t37 => some ((!decide ((List.length a0.Charts : Int) = t37)))))))) : Option Bool).bind fun x19 => (if x19 = true then some (false) else (((if (decide (a0.Tickets.High = 0)) = true then (if (!decide (a0.Tickets.Top = 0)) = true then some (Sum.inl (false)) else some (Sum.inr ([]))) else (if List.length ([] : List Int) + List.length [a0.Tickets.Top] ≤ LIM then some (Sum.inr ((([] : List Int) ++ [a0.Tickets.Top]))) else none)) : Option (Sum Bool (List Int))).bind fun x47 => match x47 with | Sum.inl p => some p | Sum.inr x50 => (((if (!decide (a0.Dir = 0)) = true then (if List.length x50 + List.length [a0.Dir] ≤ LIM then some ((x50 ++ [a0.Dir])) else none) else some (x50)) : Option (List Int)).bind fun x73 => ((loopM (rickyardref13_Right.s1 fu a0) fu (x73, 0)).bind fun e99 => match e99 with | Sum.inl p => some p | Sum.inr x102 => ((loopM (rickyardref13_Right.s3 fu a0 x102) fu (0)).bind fun e150 => match e150 with | Sum.inl p => some p | Sum.inr x153 => some (true)))))))))
set_option maxRecDepth 100000 in
set_option maxHeartbeats 400000 in
theorem rickyardref13_Right.ok (fu : Nat) (w : World) (a0 : S_api_Super) (V0_0 : Value) (R0_0 : Rd (kI .i64) w V0_0 a0.Charts) (r : Bool) (h : rickyardref13_Right.f fu a0 = some r) :
    Calls Try.prog 90 (([aggV [Seg.cell (.int .i64 a0.Epoch), Seg.cell (.int .i64 a0.Tickets.Geometry.Blocks), Seg.cell (.int .i64 a0.Tickets.Geometry.Slots), Seg.cell (.int .i64 a0.Tickets.Geometry.Gens), Seg.cell (.int .i64 a0.Tickets.Top), Seg.cell (.int .i64 a0.Tickets.High), Seg.cell (.int .i64 a0.Tickets.Free), Seg.cell (.int .i64 a0.Dir), Seg.cell V0_0 R0_0.one]] : List Value).toArray) w (fun e w' => ∃ v, e = .returned v ∧ v = .bool r ∧ Gr w w') := by
  unfold rickyardref13_Right.f at h
  have fB : Gr w w := Fr.refl _ _
  refine calls_cw Try.func90 rfl Try.ntmps90 rfl ?_
  refine cw_seq ?_
  refine cw_region ?_
  refine ol_op (by exact opv_box (ss := [Seg.cell (.int .i64 a0.Epoch), Seg.cell (.int .i64 a0.Tickets.Geometry.Blocks), Seg.cell (.int .i64 a0.Tickets.Geometry.Slots), Seg.cell (.int .i64 a0.Tickets.Geometry.Gens), Seg.cell (.int .i64 a0.Tickets.Top), Seg.cell (.int .i64 a0.Tickets.High), Seg.cell (.int .i64 a0.Tickets.Free), Seg.cell (.int .i64 a0.Dir), Seg.cell V0_0 R0_0.one]) rfl rfl rfl) rfl rfl rfl ?_
  rintro _ w6 ⟨G1, rfl, b2, q3, z4⟩
  have z4 := Nat.le_trans fB.size z4
  have fB := fB.gr q3
  refine ol_val (v := .bool false) (by exact xr_assign rfl rfl) rfl rfl rfl ?_
  refine ol_nil ?_
  refine cw_seq ?_
  refine cw_seq ?_
  obtain ⟨x7, j8, h⟩ := bs h
  refine cw_mid (fun ρ' w' => ρ' 1 = .pointer (some ⟨G1, 0, none⟩) ∧ ρ' 21 = .bool x7 ∧ Gr w6 w') ?_ ?_
  · skip
    refine cw_region ?_
    refine ol_val (v := .pointer (some ⟨G1, 0, none⟩)) (by exact xr_fieldAddr (p := 0) (q := 0) rfl fl120_0 rfl) rfl rfl rfl ?_
    refine ol_val (v := .int .i64 a0.Epoch) (by exact xr_load1 (v := .int .i64 a0.Epoch) rfl ag3 rfl (b2.seg 0 rfl rfl)) rfl rfl rfl ?_
    refine ol_val (v := .bool (decide (a0.Epoch < 1))) (by exact xr_lss rfl rfl rfl) rfl rfl rfl ?_
    refine ol_val (v := .bool (decide (a0.Epoch < 1))) (by exact xr_move rfl rfl) rfl rfl rfl ?_
    rcases is j8 with ⟨c9, j8⟩ | ⟨c9, j8⟩
    · skip
      refine ol_gskip rfl rfl rfl rfl rfl c9 ?_
      refine ol_gskip rfl rfl rfl rfl rfl c9 ?_
      refine ol_gskip rfl rfl rfl rfl rfl c9 ?_
      refine ol_val (v := .bool true) (by exact xr_pickT rfl rfl c9 rfl) rfl rfl rfl ?_
      refine ol_val (v := .bool true) (by exact xr_move rfl rfl) rfl rfl rfl ?_
      refine ol_gskip rfl rfl rfl rfl rfl rfl ?_
      refine ol_gskip rfl rfl rfl rfl rfl rfl ?_
      refine ol_gskip rfl rfl rfl rfl rfl rfl ?_
      refine ol_gskip rfl rfl rfl rfl rfl rfl ?_
      refine ol_gskip rfl rfl rfl rfl rfl rfl ?_
      refine ol_val (v := .bool true) (by exact xr_pickT rfl rfl rfl rfl) rfl rfl rfl ?_
      refine ol_nil ?_
      obtain rfl := Option.some.inj j8
      refine thn_i ?_
      exact ⟨rfl, rfl, Fr.refl _ _⟩
    · skip
      refine ol_gval (v := .pointer (some ⟨G1, 0, none⟩)) (by exact xr_fieldAddr (p := 0) (q := 0) rfl fl120_0 rfl) rfl rfl rfl rfl rfl c9 ?_
      refine ol_gval (v := .int .i64 a0.Epoch) (by exact xr_load1 (v := .int .i64 a0.Epoch) rfl ag3 rfl (b2.seg 0 rfl rfl)) rfl rfl rfl rfl rfl c9 ?_
      refine ol_gval (v := .bool (decide (a0.Epoch > 4611686018427387904))) (by exact xr_gtr rfl rfl rfl) rfl rfl rfl rfl rfl c9 ?_
      refine ol_val (v := .bool (decide (a0.Epoch > 4611686018427387904))) (by exact xr_pickF rfl rfl c9 rfl) rfl rfl rfl ?_
      refine ol_val (v := .bool (decide (a0.Epoch > 4611686018427387904))) (by exact xr_move rfl rfl) rfl rfl rfl ?_
      rcases is j8 with ⟨c10, j8⟩ | ⟨c10, j8⟩
      · skip
        refine ol_gskip rfl rfl rfl rfl rfl c10 ?_
        refine ol_gskip rfl rfl rfl rfl rfl c10 ?_
        refine ol_gskip rfl rfl rfl rfl rfl c10 ?_
        refine ol_gskip rfl rfl rfl rfl rfl c10 ?_
        refine ol_gskip rfl rfl rfl rfl rfl c10 ?_
        refine ol_val (v := .bool true) (by exact xr_pickT rfl rfl c10 rfl) rfl rfl rfl ?_
        refine ol_nil ?_
        obtain rfl := Option.some.inj j8
        refine thn_i ?_
        exact ⟨rfl, rfl, Fr.refl _ _⟩
      · skip
        refine ol_gval (v := .pointer (some ⟨G1, 1, none⟩)) (by exact xr_fieldAddr (p := 0) (q := 1) rfl fl120_1 rfl) rfl rfl rfl rfl rfl c10 ?_
        refine ol_gval (v := .pointer (some ⟨G1, 1, none⟩)) (by exact xr_fieldAddr (p := 1) (q := 0) rfl fl118_0 rfl) rfl rfl rfl rfl rfl c10 ?_
        refine ol_gval (v := aggV [Seg.cell (.int .i64 a0.Tickets.Geometry.Blocks), Seg.cell (.int .i64 a0.Tickets.Geometry.Slots), Seg.cell (.int .i64 a0.Tickets.Geometry.Gens)]) (by exact xr_loadS (ss := [Seg.cell (.int .i64 a0.Tickets.Geometry.Blocks), Seg.cell (.int .i64 a0.Tickets.Geometry.Slots), Seg.cell (.int .i64 a0.Tickets.Geometry.Gens)]) rfl ag116 sz116 rfl rfl (b2.segs 1 3 rfl)) rfl rfl rfl rfl rfl c10 ?_
        obtain ⟨t11, k12, j8⟩ := bs j8
        refine ol_gop (by exact opv_call rfl cal124 (ac rfl an) (rickyardref12_Right.ok fu _ a0.Tickets.Geometry _ k12)) rfl rfl rfl rfl rfl c10 ?_
        rintro _ w14 ⟨rfl, q13⟩
        have b2 := b2.gr q13
        have fB := fB.gr q13
        refine ol_gval (v := .bool (!t11)) (by exact xr_not rfl rfl) rfl rfl rfl rfl rfl c10 ?_
        refine ol_val (v := .bool (!t11)) (by exact xr_pickF rfl rfl c10 rfl) rfl rfl rfl ?_
        refine ol_nil ?_
        obtain rfl := Option.some.inj j8
        refine thn_i ?_
        exact ⟨rfl, rfl, q13⟩
  · skip
    rintro ρ15 w16 ⟨e1, e21, q17⟩
    have b2 := b2.gr q17
    have fB := fB.gr q17
    rcases is h with ⟨c18, h⟩ | ⟨c18, h⟩
    · refine cw_condT e21 c18 ?_
      refine cw_seq ?_
      refine cw_region ?_
      refine ol_val (v := .bool false) (by exact xr_assign rfl rfl) rfl rfl rfl ?_
      refine ol_nil ?_
      refine cw_ret ?_
      repeat (first | with_reducible refine thn_r ?_ | with_reducible refine blk_r ?_)
      obtain rfl := Option.some.inj h
      refine fin_ret1 Try.results90 rfl ?_
      exact ⟨_, rfl, rfl, fB⟩
    · refine cw_condF e21 c18 ?_
      refine cw_skip ?_
      refine cw_seq ?_
      refine cw_seq ?_
      obtain ⟨x19, j20, h⟩ := bs h
      refine cw_mid (fun ρ' w' => ρ' 1 = .pointer (some ⟨G1, 0, none⟩) ∧ ρ' 60 = .bool x19 ∧ Gr w16 w') ?_ ?_
      · skip
        rcases is j20 with ⟨c21, j20⟩ | ⟨c21, j20⟩
        · skip
          refine cw_drawL 38 [fun vz wz => vz = (.pointer (some ⟨G1, 1, none⟩) : Value), fun vz wz => vz = (.pointer (some ⟨G1, 5, none⟩) : Value), fun vz wz => vz = (.int .i64 a0.Tickets.High : Value), fun vz wz => vz = (.bool (decide (a0.Tickets.High < 0)) : Value), fun vz wz => vz = (.bool (decide (a0.Tickets.High < 0)) : Value), fun vz _ => vz = undef, fun vz _ => vz = undef, fun vz _ => vz = undef, fun vz _ => vz = undef, fun vz _ => vz = undef, fun vz _ => vz = undef, fun vz _ => vz = undef, fun vz _ => vz = undef, fun vz wz => vz = (.bool true : Value), fun vz wz => vz = (.bool true : Value), fun vz _ => vz = undef, fun vz _ => vz = undef, fun vz _ => vz = undef, fun vz _ => vz = undef, fun vz wz => vz = (.bool true : Value), fun vz wz => vz = (.bool true : Value), fun vz _ => vz = undef, fun vz _ => vz = undef, fun vz _ => vz = undef, fun vz _ => vz = undef, fun vz _ => vz = undef, fun vz _ => vz = undef, fun vz _ => vz = undef, fun vz wz => vz = (.bool true : Value), fun vz wz => vz = (.bool true : Value), fun vz _ => vz = undef, fun vz _ => vz = undef, fun vz _ => vz = undef, fun vz _ => vz = undef, fun vz _ => vz = undef, fun vz _ => vz = undef, fun vz _ => vz = undef, fun vz _ => vz = undef] mo rfl ⟨fun _ _ _ h _ => h, fun _ _ _ h _ => h, fun _ _ _ h _ => h, fun _ _ _ h _ => h, fun _ _ _ h _ => h, fun _ _ _ h _ => h, fun _ _ _ h _ => h, fun _ _ _ h _ => h, fun _ _ _ h _ => h, fun _ _ _ h _ => h, fun _ _ _ h _ => h, fun _ _ _ h _ => h, fun _ _ _ h _ => h, fun _ _ _ h _ => h, fun _ _ _ h _ => h, fun _ _ _ h _ => h, fun _ _ _ h _ => h, fun _ _ _ h _ => h, fun _ _ _ h _ => h, fun _ _ _ h _ => h, fun _ _ _ h _ => h, fun _ _ _ h _ => h, fun _ _ _ h _ => h, fun _ _ _ h _ => h, fun _ _ _ h _ => h, fun _ _ _ h _ => h, fun _ _ _ h _ => h, fun _ _ _ h _ => h, fun _ _ _ h _ => h, fun _ _ _ h _ => h, fun _ _ _ h _ => h, fun _ _ _ h _ => h, fun _ _ _ h _ => h, fun _ _ _ h _ => h, fun _ _ _ h _ => h, fun _ _ _ h _ => h, fun _ _ _ h _ => h, fun _ _ _ h _ => h, trivial⟩ ?_ ?_
          · refine ⟨?_, ?_, ?_, ?_, ?_, ?_, ?_, ?_, ?_, ?_, ?_, ?_, ?_, ?_, ?_, ?_, ?_, ?_, ?_, ?_, ?_, ?_, ?_, ?_, ?_, ?_, ?_, ?_, ?_, ?_, ?_, ?_, ?_, ?_, ?_, ?_, ?_, ?_, trivial⟩
            · intro ρz wz hz hk hd
              exact sk_val (v := .pointer (some ⟨G1, 1, none⟩)) (by exact xr_fieldAddr (p := 0) (q := 1) rfl fl120_1 ((hk 1 rfl).trans e1)) rfl rfl
            · intro ρz wz hz hk hd
              have d22 := hd 0 rfl 22 rfl
              exact sk_val (v := .pointer (some ⟨G1, 5, none⟩)) (by exact xr_fieldAddr (p := 1) (q := 4) rfl fl118_2 d22) rfl rfl
            · intro ρz wz hz hk hd
              have d23 := hd 1 rfl 23 rfl
              exact sk_val (v := .int .i64 a0.Tickets.High) (by exact xr_load1 (v := .int .i64 a0.Tickets.High) rfl ag3 d23 ((b2.gr hz).seg 5 rfl rfl)) rfl rfl
            · intro ρz wz hz hk hd
              have d24 := hd 2 rfl 24 rfl
              exact sk_val (v := .bool (decide (a0.Tickets.High < 0))) (by exact xr_lss rfl d24 rfl) rfl rfl
            · intro ρz wz hz hk hd
              have d25 := hd 3 rfl 25 rfl
              exact sk_val (v := .bool (decide (a0.Tickets.High < 0))) (by exact xr_move rfl d25) rfl rfl
            · intro ρz wz hz hk hd
              have d26 := hd 4 rfl 26 rfl
              exact sk_skip rfl rfl d26 c21 rfl
            · intro ρz wz hz hk hd
              have d26 := hd 4 rfl 26 rfl
              exact sk_skip rfl rfl d26 c21 rfl
            · intro ρz wz hz hk hd
              have d26 := hd 4 rfl 26 rfl
              exact sk_skip rfl rfl d26 c21 rfl
            · intro ρz wz hz hk hd
              have d26 := hd 4 rfl 26 rfl
              exact sk_skip rfl rfl d26 c21 rfl
            · intro ρz wz hz hk hd
              have d26 := hd 4 rfl 26 rfl
              exact sk_skip rfl rfl d26 c21 rfl
            · intro ρz wz hz hk hd
              have d26 := hd 4 rfl 26 rfl
              exact sk_skip rfl rfl d26 c21 rfl
            · intro ρz wz hz hk hd
              have d26 := hd 4 rfl 26 rfl
              exact sk_skip rfl rfl d26 c21 rfl
            · intro ρz wz hz hk hd
              have d26 := hd 4 rfl 26 rfl
              exact sk_skip rfl rfl d26 c21 rfl
            · intro ρz wz hz hk hd
              have d26 := hd 4 rfl 26 rfl
              exact sk_val (v := .bool true) (by exact xr_pickT rfl d26 c21 rfl) rfl rfl
            · intro ρz wz hz hk hd
              have d35 := hd 13 rfl 35 rfl
              exact sk_val (v := .bool true) (by exact xr_move rfl d35) rfl rfl
            · intro ρz wz hz hk hd
              have d36 := hd 14 rfl 36 rfl
              exact sk_skip rfl rfl d36 rfl rfl
            · intro ρz wz hz hk hd
              have d36 := hd 14 rfl 36 rfl
              exact sk_skip rfl rfl d36 rfl rfl
            · intro ρz wz hz hk hd
              have d36 := hd 14 rfl 36 rfl
              exact sk_skip rfl rfl d36 rfl rfl
            · intro ρz wz hz hk hd
              have d36 := hd 14 rfl 36 rfl
              exact sk_skip rfl rfl d36 rfl rfl
            · intro ρz wz hz hk hd
              have d36 := hd 14 rfl 36 rfl
              exact sk_val (v := .bool true) (by exact xr_pickT rfl d36 rfl rfl) rfl rfl
            · intro ρz wz hz hk hd
              have d41 := hd 19 rfl 41 rfl
              exact sk_val (v := .bool true) (by exact xr_move rfl d41) rfl rfl
            · intro ρz wz hz hk hd
              have d42 := hd 20 rfl 42 rfl
              exact sk_skip rfl rfl d42 rfl rfl
            · intro ρz wz hz hk hd
              have d42 := hd 20 rfl 42 rfl
              exact sk_skip rfl rfl d42 rfl rfl
            · intro ρz wz hz hk hd
              have d42 := hd 20 rfl 42 rfl
              exact sk_skip rfl rfl d42 rfl rfl
            · intro ρz wz hz hk hd
              have d42 := hd 20 rfl 42 rfl
              exact sk_skip rfl rfl d42 rfl rfl
            · intro ρz wz hz hk hd
              have d42 := hd 20 rfl 42 rfl
              exact sk_skip rfl rfl d42 rfl rfl
            · intro ρz wz hz hk hd
              have d42 := hd 20 rfl 42 rfl
              exact sk_skip rfl rfl d42 rfl rfl
            · intro ρz wz hz hk hd
              have d42 := hd 20 rfl 42 rfl
              exact sk_skip rfl rfl d42 rfl rfl
            · intro ρz wz hz hk hd
              have d42 := hd 20 rfl 42 rfl
              exact sk_val (v := .bool true) (by exact xr_pickT rfl d42 rfl rfl) rfl rfl
            · intro ρz wz hz hk hd
              have d50 := hd 28 rfl 50 rfl
              exact sk_val (v := .bool true) (by exact xr_move rfl d50) rfl rfl
            · intro ρz wz hz hk hd
              have d51 := hd 29 rfl 51 rfl
              exact sk_skip rfl rfl d51 rfl rfl
            · intro ρz wz hz hk hd
              have d51 := hd 29 rfl 51 rfl
              exact sk_skip rfl rfl d51 rfl rfl
            · intro ρz wz hz hk hd
              have d51 := hd 29 rfl 51 rfl
              exact sk_skip rfl rfl d51 rfl rfl
            · intro ρz wz hz hk hd
              have d51 := hd 29 rfl 51 rfl
              exact sk_skip rfl rfl d51 rfl rfl
            · intro ρz wz hz hk hd
              have d51 := hd 29 rfl 51 rfl
              exact sk_skip rfl rfl d51 rfl rfl
            · intro ρz wz hz hk hd
              have d51 := hd 29 rfl 51 rfl
              exact sk_skip rfl rfl d51 rfl rfl
            · intro ρz wz hz hk hd
              have d51 := hd 29 rfl 51 rfl
              exact sk_skip rfl rfl d51 rfl rfl
            · intro ρz wz hz hk hd
              have d51 := hd 29 rfl 51 rfl
              exact sk_skip rfl rfl d51 rfl rfl
          · intro ρ22 w23 q24 hk hd
            have e1 := (hk 1 rfl).trans e1
            have e51 := hd 29 rfl 51 rfl
            have b2 := b2.gr q24
            have fB := fB.gr q24
            refine ol_val (v := .bool true) (by exact xr_pickT rfl e51 rfl rfl) rfl rfl rfl ?_
            refine ol_nil ?_
            obtain rfl := Option.some.inj j20
            refine thn_i ?_
            exact ⟨e1, rfl, q24⟩
        · skip
          rcases is j20 with ⟨c25, j20⟩ | ⟨c25, j20⟩
          · skip
            refine cw_drawL 38 [fun vz wz => vz = (.pointer (some ⟨G1, 1, none⟩) : Value), fun vz wz => vz = (.pointer (some ⟨G1, 5, none⟩) : Value), fun vz wz => vz = (.int .i64 a0.Tickets.High : Value), fun vz wz => vz = (.bool (decide (a0.Tickets.High < 0)) : Value), fun vz wz => vz = (.bool (decide (a0.Tickets.High < 0)) : Value), fun vz wz => vz = (.pointer (some ⟨G1, 1, none⟩) : Value), fun vz wz => vz = (.pointer (some ⟨G1, 5, none⟩) : Value), fun vz wz => vz = (.int .i64 a0.Tickets.High : Value), fun vz wz => vz = (.pointer (some ⟨G1, 1, none⟩) : Value), fun vz wz => vz = (.pointer (some ⟨G1, 1, none⟩) : Value), fun vz wz => vz = (.pointer (some ⟨G1, 2, none⟩) : Value), fun vz wz => vz = (.int .i64 a0.Tickets.Geometry.Slots : Value), fun vz wz => vz = (.bool (decide (a0.Tickets.High > a0.Tickets.Geometry.Slots)) : Value), fun vz wz => vz = (.bool (decide (a0.Tickets.High > a0.Tickets.Geometry.Slots)) : Value), fun vz wz => vz = (.bool (decide (a0.Tickets.High > a0.Tickets.Geometry.Slots)) : Value), fun vz _ => vz = undef, fun vz _ => vz = undef, fun vz _ => vz = undef, fun vz _ => vz = undef, fun vz wz => vz = (.bool true : Value), fun vz wz => vz = (.bool true : Value), fun vz _ => vz = undef, fun vz _ => vz = undef, fun vz _ => vz = undef, fun vz _ => vz = undef, fun vz _ => vz = undef, fun vz _ => vz = undef, fun vz _ => vz = undef, fun vz wz => vz = (.bool true : Value), fun vz wz => vz = (.bool true : Value), fun vz _ => vz = undef, fun vz _ => vz = undef, fun vz _ => vz = undef, fun vz _ => vz = undef, fun vz _ => vz = undef, fun vz _ => vz = undef, fun vz _ => vz = undef, fun vz _ => vz = undef] mo rfl ⟨fun _ _ _ h _ => h, fun _ _ _ h _ => h, fun _ _ _ h _ => h, fun _ _ _ h _ => h, fun _ _ _ h _ => h, fun _ _ _ h _ => h, fun _ _ _ h _ => h, fun _ _ _ h _ => h, fun _ _ _ h _ => h, fun _ _ _ h _ => h, fun _ _ _ h _ => h, fun _ _ _ h _ => h, fun _ _ _ h _ => h, fun _ _ _ h _ => h, fun _ _ _ h _ => h, fun _ _ _ h _ => h, fun _ _ _ h _ => h, fun _ _ _ h _ => h, fun _ _ _ h _ => h, fun _ _ _ h _ => h, fun _ _ _ h _ => h, fun _ _ _ h _ => h, fun _ _ _ h _ => h, fun _ _ _ h _ => h, fun _ _ _ h _ => h, fun _ _ _ h _ => h, fun _ _ _ h _ => h, fun _ _ _ h _ => h, fun _ _ _ h _ => h, fun _ _ _ h _ => h, fun _ _ _ h _ => h, fun _ _ _ h _ => h, fun _ _ _ h _ => h, fun _ _ _ h _ => h, fun _ _ _ h _ => h, fun _ _ _ h _ => h, fun _ _ _ h _ => h, fun _ _ _ h _ => h, trivial⟩ ?_ ?_
            · refine ⟨?_, ?_, ?_, ?_, ?_, ?_, ?_, ?_, ?_, ?_, ?_, ?_, ?_, ?_, ?_, ?_, ?_, ?_, ?_, ?_, ?_, ?_, ?_, ?_, ?_, ?_, ?_, ?_, ?_, ?_, ?_, ?_, ?_, ?_, ?_, ?_, ?_, ?_, trivial⟩
              · intro ρz wz hz hk hd
                exact sk_val (v := .pointer (some ⟨G1, 1, none⟩)) (by exact xr_fieldAddr (p := 0) (q := 1) rfl fl120_1 ((hk 1 rfl).trans e1)) rfl rfl
              · intro ρz wz hz hk hd
                have d22 := hd 0 rfl 22 rfl
                exact sk_val (v := .pointer (some ⟨G1, 5, none⟩)) (by exact xr_fieldAddr (p := 1) (q := 4) rfl fl118_2 d22) rfl rfl
              · intro ρz wz hz hk hd
                have d23 := hd 1 rfl 23 rfl
                exact sk_val (v := .int .i64 a0.Tickets.High) (by exact xr_load1 (v := .int .i64 a0.Tickets.High) rfl ag3 d23 ((b2.gr hz).seg 5 rfl rfl)) rfl rfl
              · intro ρz wz hz hk hd
                have d24 := hd 2 rfl 24 rfl
                exact sk_val (v := .bool (decide (a0.Tickets.High < 0))) (by exact xr_lss rfl d24 rfl) rfl rfl
              · intro ρz wz hz hk hd
                have d25 := hd 3 rfl 25 rfl
                exact sk_val (v := .bool (decide (a0.Tickets.High < 0))) (by exact xr_move rfl d25) rfl rfl
              · intro ρz wz hz hk hd
                have d26 := hd 4 rfl 26 rfl
                exact sk_gval (v := .pointer (some ⟨G1, 1, none⟩)) (by exact xr_fieldAddr (p := 0) (q := 1) rfl fl120_1 ((hk 1 rfl).trans e1)) rfl rfl d26 c21 rfl
              · intro ρz wz hz hk hd
                have d27 := hd 5 rfl 27 rfl
                have d26 := hd 4 rfl 26 rfl
                exact sk_gval (v := .pointer (some ⟨G1, 5, none⟩)) (by exact xr_fieldAddr (p := 1) (q := 4) rfl fl118_2 d27) rfl rfl d26 c21 rfl
              · intro ρz wz hz hk hd
                have d28 := hd 6 rfl 28 rfl
                have d26 := hd 4 rfl 26 rfl
                exact sk_gval (v := .int .i64 a0.Tickets.High) (by exact xr_load1 (v := .int .i64 a0.Tickets.High) rfl ag3 d28 ((b2.gr hz).seg 5 rfl rfl)) rfl rfl d26 c21 rfl
              · intro ρz wz hz hk hd
                have d26 := hd 4 rfl 26 rfl
                exact sk_gval (v := .pointer (some ⟨G1, 1, none⟩)) (by exact xr_fieldAddr (p := 0) (q := 1) rfl fl120_1 ((hk 1 rfl).trans e1)) rfl rfl d26 c21 rfl
              · intro ρz wz hz hk hd
                have d30 := hd 8 rfl 30 rfl
                have d26 := hd 4 rfl 26 rfl
                exact sk_gval (v := .pointer (some ⟨G1, 1, none⟩)) (by exact xr_fieldAddr (p := 1) (q := 0) rfl fl118_0 d30) rfl rfl d26 c21 rfl
              · intro ρz wz hz hk hd
                have d31 := hd 9 rfl 31 rfl
                have d26 := hd 4 rfl 26 rfl
                exact sk_gval (v := .pointer (some ⟨G1, 2, none⟩)) (by exact xr_fieldAddr (p := 1) (q := 1) rfl fl116_1 d31) rfl rfl d26 c21 rfl
              · intro ρz wz hz hk hd
                have d32 := hd 10 rfl 32 rfl
                have d26 := hd 4 rfl 26 rfl
                exact sk_gval (v := .int .i64 a0.Tickets.Geometry.Slots) (by exact xr_load1 (v := .int .i64 a0.Tickets.Geometry.Slots) rfl ag3 d32 ((b2.gr hz).seg 2 rfl rfl)) rfl rfl d26 c21 rfl
              · intro ρz wz hz hk hd
                have d29 := hd 7 rfl 29 rfl
                have d33 := hd 11 rfl 33 rfl
                have d26 := hd 4 rfl 26 rfl
                exact sk_gval (by exact xr_gtr rfl d29 d33) rfl rfl d26 c21 rfl
              · intro ρz wz hz hk hd
                have d26 := hd 4 rfl 26 rfl
                have d34 := hd 12 rfl 34 rfl
                exact sk_val (by exact xr_pickF rfl d26 c21 d34) rfl rfl
              · intro ρz wz hz hk hd
                have d35 := hd 13 rfl 35 rfl
                exact sk_val (by exact xr_move rfl d35) rfl rfl
              · intro ρz wz hz hk hd
                have d36 := hd 14 rfl 36 rfl
                exact sk_skip rfl rfl d36 c25 rfl
              · intro ρz wz hz hk hd
                have d36 := hd 14 rfl 36 rfl
                exact sk_skip rfl rfl d36 c25 rfl
              · intro ρz wz hz hk hd
                have d36 := hd 14 rfl 36 rfl
                exact sk_skip rfl rfl d36 c25 rfl
              · intro ρz wz hz hk hd
                have d36 := hd 14 rfl 36 rfl
                exact sk_skip rfl rfl d36 c25 rfl
              · intro ρz wz hz hk hd
                have d36 := hd 14 rfl 36 rfl
                exact sk_val (v := .bool true) (by exact xr_pickT rfl d36 c25 rfl) rfl rfl
              · intro ρz wz hz hk hd
                have d41 := hd 19 rfl 41 rfl
                exact sk_val (v := .bool true) (by exact xr_move rfl d41) rfl rfl
              · intro ρz wz hz hk hd
                have d42 := hd 20 rfl 42 rfl
                exact sk_skip rfl rfl d42 rfl rfl
              · intro ρz wz hz hk hd
                have d42 := hd 20 rfl 42 rfl
                exact sk_skip rfl rfl d42 rfl rfl
              · intro ρz wz hz hk hd
                have d42 := hd 20 rfl 42 rfl
                exact sk_skip rfl rfl d42 rfl rfl
              · intro ρz wz hz hk hd
                have d42 := hd 20 rfl 42 rfl
                exact sk_skip rfl rfl d42 rfl rfl
              · intro ρz wz hz hk hd
                have d42 := hd 20 rfl 42 rfl
                exact sk_skip rfl rfl d42 rfl rfl
              · intro ρz wz hz hk hd
                have d42 := hd 20 rfl 42 rfl
                exact sk_skip rfl rfl d42 rfl rfl
              · intro ρz wz hz hk hd
                have d42 := hd 20 rfl 42 rfl
                exact sk_skip rfl rfl d42 rfl rfl
              · intro ρz wz hz hk hd
                have d42 := hd 20 rfl 42 rfl
                exact sk_val (v := .bool true) (by exact xr_pickT rfl d42 rfl rfl) rfl rfl
              · intro ρz wz hz hk hd
                have d50 := hd 28 rfl 50 rfl
                exact sk_val (v := .bool true) (by exact xr_move rfl d50) rfl rfl
              · intro ρz wz hz hk hd
                have d51 := hd 29 rfl 51 rfl
                exact sk_skip rfl rfl d51 rfl rfl
              · intro ρz wz hz hk hd
                have d51 := hd 29 rfl 51 rfl
                exact sk_skip rfl rfl d51 rfl rfl
              · intro ρz wz hz hk hd
                have d51 := hd 29 rfl 51 rfl
                exact sk_skip rfl rfl d51 rfl rfl
              · intro ρz wz hz hk hd
                have d51 := hd 29 rfl 51 rfl
                exact sk_skip rfl rfl d51 rfl rfl
              · intro ρz wz hz hk hd
                have d51 := hd 29 rfl 51 rfl
                exact sk_skip rfl rfl d51 rfl rfl
              · intro ρz wz hz hk hd
                have d51 := hd 29 rfl 51 rfl
                exact sk_skip rfl rfl d51 rfl rfl
              · intro ρz wz hz hk hd
                have d51 := hd 29 rfl 51 rfl
                exact sk_skip rfl rfl d51 rfl rfl
              · intro ρz wz hz hk hd
                have d51 := hd 29 rfl 51 rfl
                exact sk_skip rfl rfl d51 rfl rfl
            · intro ρ26 w27 q28 hk hd
              have e1 := (hk 1 rfl).trans e1
              have e51 := hd 29 rfl 51 rfl
              have b2 := b2.gr q28
              have fB := fB.gr q28
              refine ol_val (v := .bool true) (by exact xr_pickT rfl e51 rfl rfl) rfl rfl rfl ?_
              refine ol_nil ?_
              obtain rfl := Option.some.inj j20
              refine thn_i ?_
              exact ⟨e1, rfl, q28⟩
          · skip
            rcases is j20 with ⟨c29, j20⟩ | ⟨c29, j20⟩
            · skip
              refine cw_drawL 38 [fun vz wz => vz = (.pointer (some ⟨G1, 1, none⟩) : Value), fun vz wz => vz = (.pointer (some ⟨G1, 5, none⟩) : Value), fun vz wz => vz = (.int .i64 a0.Tickets.High : Value), fun vz wz => vz = (.bool (decide (a0.Tickets.High < 0)) : Value), fun vz wz => vz = (.bool (decide (a0.Tickets.High < 0)) : Value), fun vz wz => vz = (.pointer (some ⟨G1, 1, none⟩) : Value), fun vz wz => vz = (.pointer (some ⟨G1, 5, none⟩) : Value), fun vz wz => vz = (.int .i64 a0.Tickets.High : Value), fun vz wz => vz = (.pointer (some ⟨G1, 1, none⟩) : Value), fun vz wz => vz = (.pointer (some ⟨G1, 1, none⟩) : Value), fun vz wz => vz = (.pointer (some ⟨G1, 2, none⟩) : Value), fun vz wz => vz = (.int .i64 a0.Tickets.Geometry.Slots : Value), fun vz wz => vz = (.bool (decide (a0.Tickets.High > a0.Tickets.Geometry.Slots)) : Value), fun vz wz => vz = (.bool (decide (a0.Tickets.High > a0.Tickets.Geometry.Slots)) : Value), fun vz wz => vz = (.bool (decide (a0.Tickets.High > a0.Tickets.Geometry.Slots)) : Value), fun vz wz => vz = (.pointer (some ⟨G1, 1, none⟩) : Value), fun vz wz => vz = (.pointer (some ⟨G1, 6, none⟩) : Value), fun vz wz => vz = (.int .i64 a0.Tickets.Free : Value), fun vz wz => vz = (.bool (decide (a0.Tickets.Free < 0)) : Value), fun vz wz => vz = (.bool (decide (a0.Tickets.Free < 0)) : Value), fun vz wz => vz = (.bool (decide (a0.Tickets.Free < 0)) : Value), fun vz _ => vz = undef, fun vz _ => vz = undef, fun vz _ => vz = undef, fun vz _ => vz = undef, fun vz _ => vz = undef, fun vz _ => vz = undef, fun vz _ => vz = undef, fun vz wz => vz = (.bool true : Value), fun vz wz => vz = (.bool true : Value), fun vz _ => vz = undef, fun vz _ => vz = undef, fun vz _ => vz = undef, fun vz _ => vz = undef, fun vz _ => vz = undef, fun vz _ => vz = undef, fun vz _ => vz = undef, fun vz _ => vz = undef] mo rfl ⟨fun _ _ _ h _ => h, fun _ _ _ h _ => h, fun _ _ _ h _ => h, fun _ _ _ h _ => h, fun _ _ _ h _ => h, fun _ _ _ h _ => h, fun _ _ _ h _ => h, fun _ _ _ h _ => h, fun _ _ _ h _ => h, fun _ _ _ h _ => h, fun _ _ _ h _ => h, fun _ _ _ h _ => h, fun _ _ _ h _ => h, fun _ _ _ h _ => h, fun _ _ _ h _ => h, fun _ _ _ h _ => h, fun _ _ _ h _ => h, fun _ _ _ h _ => h, fun _ _ _ h _ => h, fun _ _ _ h _ => h, fun _ _ _ h _ => h, fun _ _ _ h _ => h, fun _ _ _ h _ => h, fun _ _ _ h _ => h, fun _ _ _ h _ => h, fun _ _ _ h _ => h, fun _ _ _ h _ => h, fun _ _ _ h _ => h, fun _ _ _ h _ => h, fun _ _ _ h _ => h, fun _ _ _ h _ => h, fun _ _ _ h _ => h, fun _ _ _ h _ => h, fun _ _ _ h _ => h, fun _ _ _ h _ => h, fun _ _ _ h _ => h, fun _ _ _ h _ => h, fun _ _ _ h _ => h, trivial⟩ ?_ ?_
              · refine ⟨?_, ?_, ?_, ?_, ?_, ?_, ?_, ?_, ?_, ?_, ?_, ?_, ?_, ?_, ?_, ?_, ?_, ?_, ?_, ?_, ?_, ?_, ?_, ?_, ?_, ?_, ?_, ?_, ?_, ?_, ?_, ?_, ?_, ?_, ?_, ?_, ?_, ?_, trivial⟩
                · intro ρz wz hz hk hd
                  exact sk_val (v := .pointer (some ⟨G1, 1, none⟩)) (by exact xr_fieldAddr (p := 0) (q := 1) rfl fl120_1 ((hk 1 rfl).trans e1)) rfl rfl
                · intro ρz wz hz hk hd
                  have d22 := hd 0 rfl 22 rfl
                  exact sk_val (v := .pointer (some ⟨G1, 5, none⟩)) (by exact xr_fieldAddr (p := 1) (q := 4) rfl fl118_2 d22) rfl rfl
                · intro ρz wz hz hk hd
                  have d23 := hd 1 rfl 23 rfl
                  exact sk_val (v := .int .i64 a0.Tickets.High) (by exact xr_load1 (v := .int .i64 a0.Tickets.High) rfl ag3 d23 ((b2.gr hz).seg 5 rfl rfl)) rfl rfl
                · intro ρz wz hz hk hd
                  have d24 := hd 2 rfl 24 rfl
                  exact sk_val (v := .bool (decide (a0.Tickets.High < 0))) (by exact xr_lss rfl d24 rfl) rfl rfl
                · intro ρz wz hz hk hd
                  have d25 := hd 3 rfl 25 rfl
                  exact sk_val (v := .bool (decide (a0.Tickets.High < 0))) (by exact xr_move rfl d25) rfl rfl
                · intro ρz wz hz hk hd
                  have d26 := hd 4 rfl 26 rfl
                  exact sk_gval (v := .pointer (some ⟨G1, 1, none⟩)) (by exact xr_fieldAddr (p := 0) (q := 1) rfl fl120_1 ((hk 1 rfl).trans e1)) rfl rfl d26 c21 rfl
                · intro ρz wz hz hk hd
                  have d27 := hd 5 rfl 27 rfl
                  have d26 := hd 4 rfl 26 rfl
                  exact sk_gval (v := .pointer (some ⟨G1, 5, none⟩)) (by exact xr_fieldAddr (p := 1) (q := 4) rfl fl118_2 d27) rfl rfl d26 c21 rfl
                · intro ρz wz hz hk hd
                  have d28 := hd 6 rfl 28 rfl
                  have d26 := hd 4 rfl 26 rfl
                  exact sk_gval (v := .int .i64 a0.Tickets.High) (by exact xr_load1 (v := .int .i64 a0.Tickets.High) rfl ag3 d28 ((b2.gr hz).seg 5 rfl rfl)) rfl rfl d26 c21 rfl
                · intro ρz wz hz hk hd
                  have d26 := hd 4 rfl 26 rfl
                  exact sk_gval (v := .pointer (some ⟨G1, 1, none⟩)) (by exact xr_fieldAddr (p := 0) (q := 1) rfl fl120_1 ((hk 1 rfl).trans e1)) rfl rfl d26 c21 rfl
                · intro ρz wz hz hk hd
                  have d30 := hd 8 rfl 30 rfl
                  have d26 := hd 4 rfl 26 rfl
                  exact sk_gval (v := .pointer (some ⟨G1, 1, none⟩)) (by exact xr_fieldAddr (p := 1) (q := 0) rfl fl118_0 d30) rfl rfl d26 c21 rfl
                · intro ρz wz hz hk hd
                  have d31 := hd 9 rfl 31 rfl
                  have d26 := hd 4 rfl 26 rfl
                  exact sk_gval (v := .pointer (some ⟨G1, 2, none⟩)) (by exact xr_fieldAddr (p := 1) (q := 1) rfl fl116_1 d31) rfl rfl d26 c21 rfl
                · intro ρz wz hz hk hd
                  have d32 := hd 10 rfl 32 rfl
                  have d26 := hd 4 rfl 26 rfl
                  exact sk_gval (v := .int .i64 a0.Tickets.Geometry.Slots) (by exact xr_load1 (v := .int .i64 a0.Tickets.Geometry.Slots) rfl ag3 d32 ((b2.gr hz).seg 2 rfl rfl)) rfl rfl d26 c21 rfl
                · intro ρz wz hz hk hd
                  have d29 := hd 7 rfl 29 rfl
                  have d33 := hd 11 rfl 33 rfl
                  have d26 := hd 4 rfl 26 rfl
                  exact sk_gval (by exact xr_gtr rfl d29 d33) rfl rfl d26 c21 rfl
                · intro ρz wz hz hk hd
                  have d26 := hd 4 rfl 26 rfl
                  have d34 := hd 12 rfl 34 rfl
                  exact sk_val (by exact xr_pickF rfl d26 c21 d34) rfl rfl
                · intro ρz wz hz hk hd
                  have d35 := hd 13 rfl 35 rfl
                  exact sk_val (by exact xr_move rfl d35) rfl rfl
                · intro ρz wz hz hk hd
                  have d36 := hd 14 rfl 36 rfl
                  exact sk_gval (v := .pointer (some ⟨G1, 1, none⟩)) (by exact xr_fieldAddr (p := 0) (q := 1) rfl fl120_1 ((hk 1 rfl).trans e1)) rfl rfl d36 c25 rfl
                · intro ρz wz hz hk hd
                  have d37 := hd 15 rfl 37 rfl
                  have d36 := hd 14 rfl 36 rfl
                  exact sk_gval (v := .pointer (some ⟨G1, 6, none⟩)) (by exact xr_fieldAddr (p := 1) (q := 5) rfl fl118_3 d37) rfl rfl d36 c25 rfl
                · intro ρz wz hz hk hd
                  have d38 := hd 16 rfl 38 rfl
                  have d36 := hd 14 rfl 36 rfl
                  exact sk_gval (v := .int .i64 a0.Tickets.Free) (by exact xr_load1 (v := .int .i64 a0.Tickets.Free) rfl ag3 d38 ((b2.gr hz).seg 6 rfl rfl)) rfl rfl d36 c25 rfl
                · intro ρz wz hz hk hd
                  have d39 := hd 17 rfl 39 rfl
                  have d36 := hd 14 rfl 36 rfl
                  exact sk_gval (v := .bool (decide (a0.Tickets.Free < 0))) (by exact xr_lss rfl d39 rfl) rfl rfl d36 c25 rfl
                · intro ρz wz hz hk hd
                  have d36 := hd 14 rfl 36 rfl
                  have d40 := hd 18 rfl 40 rfl
                  exact sk_val (v := .bool (decide (a0.Tickets.Free < 0))) (by exact xr_pickF rfl d36 c25 d40) rfl rfl
                · intro ρz wz hz hk hd
                  have d41 := hd 19 rfl 41 rfl
                  exact sk_val (v := .bool (decide (a0.Tickets.Free < 0))) (by exact xr_move rfl d41) rfl rfl
                · intro ρz wz hz hk hd
                  have d42 := hd 20 rfl 42 rfl
                  exact sk_skip rfl rfl d42 c29 rfl
                · intro ρz wz hz hk hd
                  have d42 := hd 20 rfl 42 rfl
                  exact sk_skip rfl rfl d42 c29 rfl
                · intro ρz wz hz hk hd
                  have d42 := hd 20 rfl 42 rfl
                  exact sk_skip rfl rfl d42 c29 rfl
                · intro ρz wz hz hk hd
                  have d42 := hd 20 rfl 42 rfl
                  exact sk_skip rfl rfl d42 c29 rfl
                · intro ρz wz hz hk hd
                  have d42 := hd 20 rfl 42 rfl
                  exact sk_skip rfl rfl d42 c29 rfl
                · intro ρz wz hz hk hd
                  have d42 := hd 20 rfl 42 rfl
                  exact sk_skip rfl rfl d42 c29 rfl
                · intro ρz wz hz hk hd
                  have d42 := hd 20 rfl 42 rfl
                  exact sk_skip rfl rfl d42 c29 rfl
                · intro ρz wz hz hk hd
                  have d42 := hd 20 rfl 42 rfl
                  exact sk_val (v := .bool true) (by exact xr_pickT rfl d42 c29 rfl) rfl rfl
                · intro ρz wz hz hk hd
                  have d50 := hd 28 rfl 50 rfl
                  exact sk_val (v := .bool true) (by exact xr_move rfl d50) rfl rfl
                · intro ρz wz hz hk hd
                  have d51 := hd 29 rfl 51 rfl
                  exact sk_skip rfl rfl d51 rfl rfl
                · intro ρz wz hz hk hd
                  have d51 := hd 29 rfl 51 rfl
                  exact sk_skip rfl rfl d51 rfl rfl
                · intro ρz wz hz hk hd
                  have d51 := hd 29 rfl 51 rfl
                  exact sk_skip rfl rfl d51 rfl rfl
                · intro ρz wz hz hk hd
                  have d51 := hd 29 rfl 51 rfl
                  exact sk_skip rfl rfl d51 rfl rfl
                · intro ρz wz hz hk hd
                  have d51 := hd 29 rfl 51 rfl
                  exact sk_skip rfl rfl d51 rfl rfl
                · intro ρz wz hz hk hd
                  have d51 := hd 29 rfl 51 rfl
                  exact sk_skip rfl rfl d51 rfl rfl
                · intro ρz wz hz hk hd
                  have d51 := hd 29 rfl 51 rfl
                  exact sk_skip rfl rfl d51 rfl rfl
                · intro ρz wz hz hk hd
                  have d51 := hd 29 rfl 51 rfl
                  exact sk_skip rfl rfl d51 rfl rfl
              · intro ρ30 w31 q32 hk hd
                have e1 := (hk 1 rfl).trans e1
                have e51 := hd 29 rfl 51 rfl
                have b2 := b2.gr q32
                have fB := fB.gr q32
                refine ol_val (v := .bool true) (by exact xr_pickT rfl e51 rfl rfl) rfl rfl rfl ?_
                refine ol_nil ?_
                obtain rfl := Option.some.inj j20
                refine thn_i ?_
                exact ⟨e1, rfl, q32⟩
            · skip
              rcases is j20 with ⟨c33, j20⟩ | ⟨c33, j20⟩
              · skip
                refine cw_drawL 38 [fun vz wz => vz = (.pointer (some ⟨G1, 1, none⟩) : Value), fun vz wz => vz = (.pointer (some ⟨G1, 5, none⟩) : Value), fun vz wz => vz = (.int .i64 a0.Tickets.High : Value), fun vz wz => vz = (.bool (decide (a0.Tickets.High < 0)) : Value), fun vz wz => vz = (.bool (decide (a0.Tickets.High < 0)) : Value), fun vz wz => vz = (.pointer (some ⟨G1, 1, none⟩) : Value), fun vz wz => vz = (.pointer (some ⟨G1, 5, none⟩) : Value), fun vz wz => vz = (.int .i64 a0.Tickets.High : Value), fun vz wz => vz = (.pointer (some ⟨G1, 1, none⟩) : Value), fun vz wz => vz = (.pointer (some ⟨G1, 1, none⟩) : Value), fun vz wz => vz = (.pointer (some ⟨G1, 2, none⟩) : Value), fun vz wz => vz = (.int .i64 a0.Tickets.Geometry.Slots : Value), fun vz wz => vz = (.bool (decide (a0.Tickets.High > a0.Tickets.Geometry.Slots)) : Value), fun vz wz => vz = (.bool (decide (a0.Tickets.High > a0.Tickets.Geometry.Slots)) : Value), fun vz wz => vz = (.bool (decide (a0.Tickets.High > a0.Tickets.Geometry.Slots)) : Value), fun vz wz => vz = (.pointer (some ⟨G1, 1, none⟩) : Value), fun vz wz => vz = (.pointer (some ⟨G1, 6, none⟩) : Value), fun vz wz => vz = (.int .i64 a0.Tickets.Free : Value), fun vz wz => vz = (.bool (decide (a0.Tickets.Free < 0)) : Value), fun vz wz => vz = (.bool (decide (a0.Tickets.Free < 0)) : Value), fun vz wz => vz = (.bool (decide (a0.Tickets.Free < 0)) : Value), fun vz wz => vz = (.pointer (some ⟨G1, 1, none⟩) : Value), fun vz wz => vz = (.pointer (some ⟨G1, 6, none⟩) : Value), fun vz wz => vz = (.int .i64 a0.Tickets.Free : Value), fun vz wz => vz = (.pointer (some ⟨G1, 1, none⟩) : Value), fun vz wz => vz = (.pointer (some ⟨G1, 5, none⟩) : Value), fun vz wz => vz = (.int .i64 a0.Tickets.High : Value), fun vz wz => vz = (.bool (decide (a0.Tickets.Free > a0.Tickets.High)) : Value), fun vz wz => vz = (.bool (decide (a0.Tickets.Free > a0.Tickets.High)) : Value), fun vz wz => vz = (.bool (decide (a0.Tickets.Free > a0.Tickets.High)) : Value), fun vz _ => vz = undef, fun vz _ => vz = undef, fun vz _ => vz = undef, fun vz _ => vz = undef, fun vz _ => vz = undef, fun vz _ => vz = undef, fun vz _ => vz = undef, fun vz _ => vz = undef] mo rfl ⟨fun _ _ _ h _ => h, fun _ _ _ h _ => h, fun _ _ _ h _ => h, fun _ _ _ h _ => h, fun _ _ _ h _ => h, fun _ _ _ h _ => h, fun _ _ _ h _ => h, fun _ _ _ h _ => h, fun _ _ _ h _ => h, fun _ _ _ h _ => h, fun _ _ _ h _ => h, fun _ _ _ h _ => h, fun _ _ _ h _ => h, fun _ _ _ h _ => h, fun _ _ _ h _ => h, fun _ _ _ h _ => h, fun _ _ _ h _ => h, fun _ _ _ h _ => h, fun _ _ _ h _ => h, fun _ _ _ h _ => h, fun _ _ _ h _ => h, fun _ _ _ h _ => h, fun _ _ _ h _ => h, fun _ _ _ h _ => h, fun _ _ _ h _ => h, fun _ _ _ h _ => h, fun _ _ _ h _ => h, fun _ _ _ h _ => h, fun _ _ _ h _ => h, fun _ _ _ h _ => h, fun _ _ _ h _ => h, fun _ _ _ h _ => h, fun _ _ _ h _ => h, fun _ _ _ h _ => h, fun _ _ _ h _ => h, fun _ _ _ h _ => h, fun _ _ _ h _ => h, fun _ _ _ h _ => h, trivial⟩ ?_ ?_
                · refine ⟨?_, ?_, ?_, ?_, ?_, ?_, ?_, ?_, ?_, ?_, ?_, ?_, ?_, ?_, ?_, ?_, ?_, ?_, ?_, ?_, ?_, ?_, ?_, ?_, ?_, ?_, ?_, ?_, ?_, ?_, ?_, ?_, ?_, ?_, ?_, ?_, ?_, ?_, trivial⟩
                  · intro ρz wz hz hk hd
                    exact sk_val (v := .pointer (some ⟨G1, 1, none⟩)) (by exact xr_fieldAddr (p := 0) (q := 1) rfl fl120_1 ((hk 1 rfl).trans e1)) rfl rfl
                  · intro ρz wz hz hk hd
                    have d22 := hd 0 rfl 22 rfl
                    exact sk_val (v := .pointer (some ⟨G1, 5, none⟩)) (by exact xr_fieldAddr (p := 1) (q := 4) rfl fl118_2 d22) rfl rfl
                  · intro ρz wz hz hk hd
                    have d23 := hd 1 rfl 23 rfl
                    exact sk_val (v := .int .i64 a0.Tickets.High) (by exact xr_load1 (v := .int .i64 a0.Tickets.High) rfl ag3 d23 ((b2.gr hz).seg 5 rfl rfl)) rfl rfl
                  · intro ρz wz hz hk hd
                    have d24 := hd 2 rfl 24 rfl
                    exact sk_val (v := .bool (decide (a0.Tickets.High < 0))) (by exact xr_lss rfl d24 rfl) rfl rfl
                  · intro ρz wz hz hk hd
                    have d25 := hd 3 rfl 25 rfl
                    exact sk_val (v := .bool (decide (a0.Tickets.High < 0))) (by exact xr_move rfl d25) rfl rfl
                  · intro ρz wz hz hk hd
                    have d26 := hd 4 rfl 26 rfl
                    exact sk_gval (v := .pointer (some ⟨G1, 1, none⟩)) (by exact xr_fieldAddr (p := 0) (q := 1) rfl fl120_1 ((hk 1 rfl).trans e1)) rfl rfl d26 c21 rfl
                  · intro ρz wz hz hk hd
                    have d27 := hd 5 rfl 27 rfl
                    have d26 := hd 4 rfl 26 rfl
                    exact sk_gval (v := .pointer (some ⟨G1, 5, none⟩)) (by exact xr_fieldAddr (p := 1) (q := 4) rfl fl118_2 d27) rfl rfl d26 c21 rfl
                  · intro ρz wz hz hk hd
                    have d28 := hd 6 rfl 28 rfl
                    have d26 := hd 4 rfl 26 rfl
                    exact sk_gval (v := .int .i64 a0.Tickets.High) (by exact xr_load1 (v := .int .i64 a0.Tickets.High) rfl ag3 d28 ((b2.gr hz).seg 5 rfl rfl)) rfl rfl d26 c21 rfl
                  · intro ρz wz hz hk hd
                    have d26 := hd 4 rfl 26 rfl
                    exact sk_gval (v := .pointer (some ⟨G1, 1, none⟩)) (by exact xr_fieldAddr (p := 0) (q := 1) rfl fl120_1 ((hk 1 rfl).trans e1)) rfl rfl d26 c21 rfl
                  · intro ρz wz hz hk hd
                    have d30 := hd 8 rfl 30 rfl
                    have d26 := hd 4 rfl 26 rfl
                    exact sk_gval (v := .pointer (some ⟨G1, 1, none⟩)) (by exact xr_fieldAddr (p := 1) (q := 0) rfl fl118_0 d30) rfl rfl d26 c21 rfl
                  · intro ρz wz hz hk hd
                    have d31 := hd 9 rfl 31 rfl
                    have d26 := hd 4 rfl 26 rfl
                    exact sk_gval (v := .pointer (some ⟨G1, 2, none⟩)) (by exact xr_fieldAddr (p := 1) (q := 1) rfl fl116_1 d31) rfl rfl d26 c21 rfl
                  · intro ρz wz hz hk hd
                    have d32 := hd 10 rfl 32 rfl
                    have d26 := hd 4 rfl 26 rfl
                    exact sk_gval (v := .int .i64 a0.Tickets.Geometry.Slots) (by exact xr_load1 (v := .int .i64 a0.Tickets.Geometry.Slots) rfl ag3 d32 ((b2.gr hz).seg 2 rfl rfl)) rfl rfl d26 c21 rfl
                  · intro ρz wz hz hk hd
                    have d29 := hd 7 rfl 29 rfl
                    have d33 := hd 11 rfl 33 rfl
                    have d26 := hd 4 rfl 26 rfl
                    exact sk_gval (by exact xr_gtr rfl d29 d33) rfl rfl d26 c21 rfl
                  · intro ρz wz hz hk hd
                    have d26 := hd 4 rfl 26 rfl
                    have d34 := hd 12 rfl 34 rfl
                    exact sk_val (by exact xr_pickF rfl d26 c21 d34) rfl rfl
                  · intro ρz wz hz hk hd
                    have d35 := hd 13 rfl 35 rfl
                    exact sk_val (by exact xr_move rfl d35) rfl rfl
                  · intro ρz wz hz hk hd
                    have d36 := hd 14 rfl 36 rfl
                    exact sk_gval (v := .pointer (some ⟨G1, 1, none⟩)) (by exact xr_fieldAddr (p := 0) (q := 1) rfl fl120_1 ((hk 1 rfl).trans e1)) rfl rfl d36 c25 rfl
                  · intro ρz wz hz hk hd
                    have d37 := hd 15 rfl 37 rfl
                    have d36 := hd 14 rfl 36 rfl
                    exact sk_gval (v := .pointer (some ⟨G1, 6, none⟩)) (by exact xr_fieldAddr (p := 1) (q := 5) rfl fl118_3 d37) rfl rfl d36 c25 rfl
                  · intro ρz wz hz hk hd
                    have d38 := hd 16 rfl 38 rfl
                    have d36 := hd 14 rfl 36 rfl
                    exact sk_gval (v := .int .i64 a0.Tickets.Free) (by exact xr_load1 (v := .int .i64 a0.Tickets.Free) rfl ag3 d38 ((b2.gr hz).seg 6 rfl rfl)) rfl rfl d36 c25 rfl
                  · intro ρz wz hz hk hd
                    have d39 := hd 17 rfl 39 rfl
                    have d36 := hd 14 rfl 36 rfl
                    exact sk_gval (v := .bool (decide (a0.Tickets.Free < 0))) (by exact xr_lss rfl d39 rfl) rfl rfl d36 c25 rfl
                  · intro ρz wz hz hk hd
                    have d36 := hd 14 rfl 36 rfl
                    have d40 := hd 18 rfl 40 rfl
                    exact sk_val (v := .bool (decide (a0.Tickets.Free < 0))) (by exact xr_pickF rfl d36 c25 d40) rfl rfl
                  · intro ρz wz hz hk hd
                    have d41 := hd 19 rfl 41 rfl
                    exact sk_val (v := .bool (decide (a0.Tickets.Free < 0))) (by exact xr_move rfl d41) rfl rfl
                  · intro ρz wz hz hk hd
                    have d42 := hd 20 rfl 42 rfl
                    exact sk_gval (v := .pointer (some ⟨G1, 1, none⟩)) (by exact xr_fieldAddr (p := 0) (q := 1) rfl fl120_1 ((hk 1 rfl).trans e1)) rfl rfl d42 c29 rfl
                  · intro ρz wz hz hk hd
                    have d43 := hd 21 rfl 43 rfl
                    have d42 := hd 20 rfl 42 rfl
                    exact sk_gval (v := .pointer (some ⟨G1, 6, none⟩)) (by exact xr_fieldAddr (p := 1) (q := 5) rfl fl118_3 d43) rfl rfl d42 c29 rfl
                  · intro ρz wz hz hk hd
                    have d44 := hd 22 rfl 44 rfl
                    have d42 := hd 20 rfl 42 rfl
                    exact sk_gval (v := .int .i64 a0.Tickets.Free) (by exact xr_load1 (v := .int .i64 a0.Tickets.Free) rfl ag3 d44 ((b2.gr hz).seg 6 rfl rfl)) rfl rfl d42 c29 rfl
                  · intro ρz wz hz hk hd
                    have d42 := hd 20 rfl 42 rfl
                    exact sk_gval (v := .pointer (some ⟨G1, 1, none⟩)) (by exact xr_fieldAddr (p := 0) (q := 1) rfl fl120_1 ((hk 1 rfl).trans e1)) rfl rfl d42 c29 rfl
                  · intro ρz wz hz hk hd
                    have d46 := hd 24 rfl 46 rfl
                    have d42 := hd 20 rfl 42 rfl
                    exact sk_gval (v := .pointer (some ⟨G1, 5, none⟩)) (by exact xr_fieldAddr (p := 1) (q := 4) rfl fl118_2 d46) rfl rfl d42 c29 rfl
                  · intro ρz wz hz hk hd
                    have d47 := hd 25 rfl 47 rfl
                    have d42 := hd 20 rfl 42 rfl
                    exact sk_gval (v := .int .i64 a0.Tickets.High) (by exact xr_load1 (v := .int .i64 a0.Tickets.High) rfl ag3 d47 ((b2.gr hz).seg 5 rfl rfl)) rfl rfl d42 c29 rfl
                  · intro ρz wz hz hk hd
                    have d45 := hd 23 rfl 45 rfl
                    have d48 := hd 26 rfl 48 rfl
                    have d42 := hd 20 rfl 42 rfl
                    exact sk_gval (v := .bool (decide (a0.Tickets.Free > a0.Tickets.High))) (by exact xr_gtr rfl d45 d48) rfl rfl d42 c29 rfl
                  · intro ρz wz hz hk hd
                    have d42 := hd 20 rfl 42 rfl
                    have d49 := hd 27 rfl 49 rfl
                    exact sk_val (v := .bool (decide (a0.Tickets.Free > a0.Tickets.High))) (by exact xr_pickF rfl d42 c29 d49) rfl rfl
                  · intro ρz wz hz hk hd
                    have d50 := hd 28 rfl 50 rfl
                    exact sk_val (v := .bool (decide (a0.Tickets.Free > a0.Tickets.High))) (by exact xr_move rfl d50) rfl rfl
                  · intro ρz wz hz hk hd
                    have d51 := hd 29 rfl 51 rfl
                    exact sk_skip rfl rfl d51 c33 rfl
                  · intro ρz wz hz hk hd
                    have d51 := hd 29 rfl 51 rfl
                    exact sk_skip rfl rfl d51 c33 rfl
                  · intro ρz wz hz hk hd
                    have d51 := hd 29 rfl 51 rfl
                    exact sk_skip rfl rfl d51 c33 rfl
                  · intro ρz wz hz hk hd
                    have d51 := hd 29 rfl 51 rfl
                    exact sk_skip rfl rfl d51 c33 rfl
                  · intro ρz wz hz hk hd
                    have d51 := hd 29 rfl 51 rfl
                    exact sk_skip rfl rfl d51 c33 rfl
                  · intro ρz wz hz hk hd
                    have d51 := hd 29 rfl 51 rfl
                    exact sk_skip rfl rfl d51 c33 rfl
                  · intro ρz wz hz hk hd
                    have d51 := hd 29 rfl 51 rfl
                    exact sk_skip rfl rfl d51 c33 rfl
                  · intro ρz wz hz hk hd
                    have d51 := hd 29 rfl 51 rfl
                    exact sk_skip rfl rfl d51 c33 rfl
                · intro ρ34 w35 q36 hk hd
                  have e1 := (hk 1 rfl).trans e1
                  have e51 := hd 29 rfl 51 rfl
                  have b2 := b2.gr q36
                  have fB := fB.gr q36
                  refine ol_val (v := .bool true) (by exact xr_pickT rfl e51 c33 rfl) rfl rfl rfl ?_
                  refine ol_nil ?_
                  obtain rfl := Option.some.inj j20
                  refine thn_i ?_
                  exact ⟨e1, rfl, q36⟩
              · skip
                obtain ⟨t37, k38, j20⟩ := bs j20
                refine cw_drawL 38 [fun vz wz => vz = (.pointer (some ⟨G1, 1, none⟩) : Value), fun vz wz => vz = (.pointer (some ⟨G1, 5, none⟩) : Value), fun vz wz => vz = (.int .i64 a0.Tickets.High : Value), fun vz wz => vz = (.bool (decide (a0.Tickets.High < 0)) : Value), fun vz wz => vz = (.bool (decide (a0.Tickets.High < 0)) : Value), fun vz wz => vz = (.pointer (some ⟨G1, 1, none⟩) : Value), fun vz wz => vz = (.pointer (some ⟨G1, 5, none⟩) : Value), fun vz wz => vz = (.int .i64 a0.Tickets.High : Value), fun vz wz => vz = (.pointer (some ⟨G1, 1, none⟩) : Value), fun vz wz => vz = (.pointer (some ⟨G1, 1, none⟩) : Value), fun vz wz => vz = (.pointer (some ⟨G1, 2, none⟩) : Value), fun vz wz => vz = (.int .i64 a0.Tickets.Geometry.Slots : Value), fun vz wz => vz = (.bool (decide (a0.Tickets.High > a0.Tickets.Geometry.Slots)) : Value), fun vz wz => vz = (.bool (decide (a0.Tickets.High > a0.Tickets.Geometry.Slots)) : Value), fun vz wz => vz = (.bool (decide (a0.Tickets.High > a0.Tickets.Geometry.Slots)) : Value), fun vz wz => vz = (.pointer (some ⟨G1, 1, none⟩) : Value), fun vz wz => vz = (.pointer (some ⟨G1, 6, none⟩) : Value), fun vz wz => vz = (.int .i64 a0.Tickets.Free : Value), fun vz wz => vz = (.bool (decide (a0.Tickets.Free < 0)) : Value), fun vz wz => vz = (.bool (decide (a0.Tickets.Free < 0)) : Value), fun vz wz => vz = (.bool (decide (a0.Tickets.Free < 0)) : Value), fun vz wz => vz = (.pointer (some ⟨G1, 1, none⟩) : Value), fun vz wz => vz = (.pointer (some ⟨G1, 6, none⟩) : Value), fun vz wz => vz = (.int .i64 a0.Tickets.Free : Value), fun vz wz => vz = (.pointer (some ⟨G1, 1, none⟩) : Value), fun vz wz => vz = (.pointer (some ⟨G1, 5, none⟩) : Value), fun vz wz => vz = (.int .i64 a0.Tickets.High : Value), fun vz wz => vz = (.bool (decide (a0.Tickets.Free > a0.Tickets.High)) : Value), fun vz wz => vz = (.bool (decide (a0.Tickets.Free > a0.Tickets.High)) : Value), fun vz wz => vz = (.bool (decide (a0.Tickets.Free > a0.Tickets.High)) : Value), fun vz wz => vz = (.pointer (some ⟨G1, 8, none⟩) : Value), fun vz wz => vz = (V0_0 : Value), fun vz wz => vz = (.int .i64 (List.length a0.Charts : Int) : Value), fun vz wz => vz = (.pointer (some ⟨G1, 1, none⟩) : Value), fun vz wz => vz = (.pointer (some ⟨G1, 1, none⟩) : Value), fun vz wz => vz = (aggV [Seg.cell (.int .i64 a0.Tickets.Geometry.Blocks), Seg.cell (.int .i64 a0.Tickets.Geometry.Slots), Seg.cell (.int .i64 a0.Tickets.Geometry.Gens)] : Value), fun vz wz => vz = (.int .i64 t37 : Value), fun vz wz => vz = (.bool (!decide ((List.length a0.Charts : Int) = t37)) : Value)] mo rfl ⟨fun _ _ _ h _ => h, fun _ _ _ h _ => h, fun _ _ _ h _ => h, fun _ _ _ h _ => h, fun _ _ _ h _ => h, fun _ _ _ h _ => h, fun _ _ _ h _ => h, fun _ _ _ h _ => h, fun _ _ _ h _ => h, fun _ _ _ h _ => h, fun _ _ _ h _ => h, fun _ _ _ h _ => h, fun _ _ _ h _ => h, fun _ _ _ h _ => h, fun _ _ _ h _ => h, fun _ _ _ h _ => h, fun _ _ _ h _ => h, fun _ _ _ h _ => h, fun _ _ _ h _ => h, fun _ _ _ h _ => h, fun _ _ _ h _ => h, fun _ _ _ h _ => h, fun _ _ _ h _ => h, fun _ _ _ h _ => h, fun _ _ _ h _ => h, fun _ _ _ h _ => h, fun _ _ _ h _ => h, fun _ _ _ h _ => h, fun _ _ _ h _ => h, fun _ _ _ h _ => h, fun _ _ _ h _ => h, fun _ _ _ h _ => h, fun _ _ _ h _ => h, fun _ _ _ h _ => h, fun _ _ _ h _ => h, fun _ _ _ h _ => h, fun _ _ _ h _ => h, fun _ _ _ h _ => h, trivial⟩ ?_ ?_
                · refine ⟨?_, ?_, ?_, ?_, ?_, ?_, ?_, ?_, ?_, ?_, ?_, ?_, ?_, ?_, ?_, ?_, ?_, ?_, ?_, ?_, ?_, ?_, ?_, ?_, ?_, ?_, ?_, ?_, ?_, ?_, ?_, ?_, ?_, ?_, ?_, ?_, ?_, ?_, trivial⟩
                  · intro ρz wz hz hk hd
                    exact sk_val (v := .pointer (some ⟨G1, 1, none⟩)) (by exact xr_fieldAddr (p := 0) (q := 1) rfl fl120_1 ((hk 1 rfl).trans e1)) rfl rfl
                  · intro ρz wz hz hk hd
                    have d22 := hd 0 rfl 22 rfl
                    exact sk_val (v := .pointer (some ⟨G1, 5, none⟩)) (by exact xr_fieldAddr (p := 1) (q := 4) rfl fl118_2 d22) rfl rfl
                  · intro ρz wz hz hk hd
                    have d23 := hd 1 rfl 23 rfl
                    exact sk_val (v := .int .i64 a0.Tickets.High) (by exact xr_load1 (v := .int .i64 a0.Tickets.High) rfl ag3 d23 ((b2.gr hz).seg 5 rfl rfl)) rfl rfl
                  · intro ρz wz hz hk hd
                    have d24 := hd 2 rfl 24 rfl
                    exact sk_val (v := .bool (decide (a0.Tickets.High < 0))) (by exact xr_lss rfl d24 rfl) rfl rfl
                  · intro ρz wz hz hk hd
                    have d25 := hd 3 rfl 25 rfl
                    exact sk_val (v := .bool (decide (a0.Tickets.High < 0))) (by exact xr_move rfl d25) rfl rfl
                  · intro ρz wz hz hk hd
                    have d26 := hd 4 rfl 26 rfl
                    exact sk_gval (v := .pointer (some ⟨G1, 1, none⟩)) (by exact xr_fieldAddr (p := 0) (q := 1) rfl fl120_1 ((hk 1 rfl).trans e1)) rfl rfl d26 c21 rfl
                  · intro ρz wz hz hk hd
                    have d27 := hd 5 rfl 27 rfl
                    have d26 := hd 4 rfl 26 rfl
                    exact sk_gval (v := .pointer (some ⟨G1, 5, none⟩)) (by exact xr_fieldAddr (p := 1) (q := 4) rfl fl118_2 d27) rfl rfl d26 c21 rfl
                  · intro ρz wz hz hk hd
                    have d28 := hd 6 rfl 28 rfl
                    have d26 := hd 4 rfl 26 rfl
                    exact sk_gval (v := .int .i64 a0.Tickets.High) (by exact xr_load1 (v := .int .i64 a0.Tickets.High) rfl ag3 d28 ((b2.gr hz).seg 5 rfl rfl)) rfl rfl d26 c21 rfl
                  · intro ρz wz hz hk hd
                    have d26 := hd 4 rfl 26 rfl
                    exact sk_gval (v := .pointer (some ⟨G1, 1, none⟩)) (by exact xr_fieldAddr (p := 0) (q := 1) rfl fl120_1 ((hk 1 rfl).trans e1)) rfl rfl d26 c21 rfl
                  · intro ρz wz hz hk hd
                    have d30 := hd 8 rfl 30 rfl
                    have d26 := hd 4 rfl 26 rfl
                    exact sk_gval (v := .pointer (some ⟨G1, 1, none⟩)) (by exact xr_fieldAddr (p := 1) (q := 0) rfl fl118_0 d30) rfl rfl d26 c21 rfl
                  · intro ρz wz hz hk hd
                    have d31 := hd 9 rfl 31 rfl
                    have d26 := hd 4 rfl 26 rfl
                    exact sk_gval (v := .pointer (some ⟨G1, 2, none⟩)) (by exact xr_fieldAddr (p := 1) (q := 1) rfl fl116_1 d31) rfl rfl d26 c21 rfl
                  · intro ρz wz hz hk hd
                    have d32 := hd 10 rfl 32 rfl
                    have d26 := hd 4 rfl 26 rfl
                    exact sk_gval (v := .int .i64 a0.Tickets.Geometry.Slots) (by exact xr_load1 (v := .int .i64 a0.Tickets.Geometry.Slots) rfl ag3 d32 ((b2.gr hz).seg 2 rfl rfl)) rfl rfl d26 c21 rfl
                  · intro ρz wz hz hk hd
                    have d29 := hd 7 rfl 29 rfl
                    have d33 := hd 11 rfl 33 rfl
                    have d26 := hd 4 rfl 26 rfl
                    exact sk_gval (by exact xr_gtr rfl d29 d33) rfl rfl d26 c21 rfl
                  · intro ρz wz hz hk hd
                    have d26 := hd 4 rfl 26 rfl
                    have d34 := hd 12 rfl 34 rfl
                    exact sk_val (by exact xr_pickF rfl d26 c21 d34) rfl rfl
                  · intro ρz wz hz hk hd
                    have d35 := hd 13 rfl 35 rfl
                    exact sk_val (by exact xr_move rfl d35) rfl rfl
                  · intro ρz wz hz hk hd
                    have d36 := hd 14 rfl 36 rfl
                    exact sk_gval (v := .pointer (some ⟨G1, 1, none⟩)) (by exact xr_fieldAddr (p := 0) (q := 1) rfl fl120_1 ((hk 1 rfl).trans e1)) rfl rfl d36 c25 rfl
                  · intro ρz wz hz hk hd
                    have d37 := hd 15 rfl 37 rfl
                    have d36 := hd 14 rfl 36 rfl
                    exact sk_gval (v := .pointer (some ⟨G1, 6, none⟩)) (by exact xr_fieldAddr (p := 1) (q := 5) rfl fl118_3 d37) rfl rfl d36 c25 rfl
                  · intro ρz wz hz hk hd
                    have d38 := hd 16 rfl 38 rfl
                    have d36 := hd 14 rfl 36 rfl
                    exact sk_gval (v := .int .i64 a0.Tickets.Free) (by exact xr_load1 (v := .int .i64 a0.Tickets.Free) rfl ag3 d38 ((b2.gr hz).seg 6 rfl rfl)) rfl rfl d36 c25 rfl
                  · intro ρz wz hz hk hd
                    have d39 := hd 17 rfl 39 rfl
                    have d36 := hd 14 rfl 36 rfl
                    exact sk_gval (v := .bool (decide (a0.Tickets.Free < 0))) (by exact xr_lss rfl d39 rfl) rfl rfl d36 c25 rfl
                  · intro ρz wz hz hk hd
                    have d36 := hd 14 rfl 36 rfl
                    have d40 := hd 18 rfl 40 rfl
                    exact sk_val (v := .bool (decide (a0.Tickets.Free < 0))) (by exact xr_pickF rfl d36 c25 d40) rfl rfl
                  · intro ρz wz hz hk hd
                    have d41 := hd 19 rfl 41 rfl
                    exact sk_val (v := .bool (decide (a0.Tickets.Free < 0))) (by exact xr_move rfl d41) rfl rfl
                  · intro ρz wz hz hk hd
                    have d42 := hd 20 rfl 42 rfl
                    exact sk_gval (v := .pointer (some ⟨G1, 1, none⟩)) (by exact xr_fieldAddr (p := 0) (q := 1) rfl fl120_1 ((hk 1 rfl).trans e1)) rfl rfl d42 c29 rfl
                  · intro ρz wz hz hk hd
                    have d43 := hd 21 rfl 43 rfl
                    have d42 := hd 20 rfl 42 rfl
                    exact sk_gval (v := .pointer (some ⟨G1, 6, none⟩)) (by exact xr_fieldAddr (p := 1) (q := 5) rfl fl118_3 d43) rfl rfl d42 c29 rfl
                  · intro ρz wz hz hk hd
                    have d44 := hd 22 rfl 44 rfl
                    have d42 := hd 20 rfl 42 rfl
                    exact sk_gval (v := .int .i64 a0.Tickets.Free) (by exact xr_load1 (v := .int .i64 a0.Tickets.Free) rfl ag3 d44 ((b2.gr hz).seg 6 rfl rfl)) rfl rfl d42 c29 rfl
                  · intro ρz wz hz hk hd
                    have d42 := hd 20 rfl 42 rfl
                    exact sk_gval (v := .pointer (some ⟨G1, 1, none⟩)) (by exact xr_fieldAddr (p := 0) (q := 1) rfl fl120_1 ((hk 1 rfl).trans e1)) rfl rfl d42 c29 rfl
                  · intro ρz wz hz hk hd
                    have d46 := hd 24 rfl 46 rfl
                    have d42 := hd 20 rfl 42 rfl
                    exact sk_gval (v := .pointer (some ⟨G1, 5, none⟩)) (by exact xr_fieldAddr (p := 1) (q := 4) rfl fl118_2 d46) rfl rfl d42 c29 rfl
                  · intro ρz wz hz hk hd
                    have d47 := hd 25 rfl 47 rfl
                    have d42 := hd 20 rfl 42 rfl
                    exact sk_gval (v := .int .i64 a0.Tickets.High) (by exact xr_load1 (v := .int .i64 a0.Tickets.High) rfl ag3 d47 ((b2.gr hz).seg 5 rfl rfl)) rfl rfl d42 c29 rfl
                  · intro ρz wz hz hk hd
                    have d45 := hd 23 rfl 45 rfl
                    have d48 := hd 26 rfl 48 rfl
                    have d42 := hd 20 rfl 42 rfl
                    exact sk_gval (v := .bool (decide (a0.Tickets.Free > a0.Tickets.High))) (by exact xr_gtr rfl d45 d48) rfl rfl d42 c29 rfl
                  · intro ρz wz hz hk hd
                    have d42 := hd 20 rfl 42 rfl
                    have d49 := hd 27 rfl 49 rfl
                    exact sk_val (v := .bool (decide (a0.Tickets.Free > a0.Tickets.High))) (by exact xr_pickF rfl d42 c29 d49) rfl rfl
                  · intro ρz wz hz hk hd
                    have d50 := hd 28 rfl 50 rfl
                    exact sk_val (v := .bool (decide (a0.Tickets.Free > a0.Tickets.High))) (by exact xr_move rfl d50) rfl rfl
                  · intro ρz wz hz hk hd
                    have d51 := hd 29 rfl 51 rfl
                    exact sk_gval (v := .pointer (some ⟨G1, 8, none⟩)) (by exact xr_fieldAddr (p := 0) (q := 8) rfl fl120_3 ((hk 1 rfl).trans e1)) rfl rfl d51 c33 rfl
                  · intro ρz wz hz hk hd
                    have d52 := hd 30 rfl 52 rfl
                    have d51 := hd 29 rfl 51 rfl
                    exact sk_gval (v := V0_0) (by exact xr_load1 (v := V0_0) rfl ag45 d52 ((b2.gr hz).seg 8 rfl rfl)) rfl rfl d51 c33 rfl
                  · intro ρz wz hz hk hd
                    have d53 := hd 31 rfl 53 rfl
                    have d51 := hd 29 rfl 51 rfl
                    exact sk_gval (v := .int .i64 (List.length a0.Charts : Int)) (by exact xr_lenR rfl Try.underlying45 d53 (R0_0.gr (fB.gr hz))) rfl rfl d51 c33 rfl
                  · intro ρz wz hz hk hd
                    have d51 := hd 29 rfl 51 rfl
                    exact sk_gval (v := .pointer (some ⟨G1, 1, none⟩)) (by exact xr_fieldAddr (p := 0) (q := 1) rfl fl120_1 ((hk 1 rfl).trans e1)) rfl rfl d51 c33 rfl
                  · intro ρz wz hz hk hd
                    have d55 := hd 33 rfl 55 rfl
                    have d51 := hd 29 rfl 51 rfl
                    exact sk_gval (v := .pointer (some ⟨G1, 1, none⟩)) (by exact xr_fieldAddr (p := 1) (q := 0) rfl fl118_0 d55) rfl rfl d51 c33 rfl
                  · intro ρz wz hz hk hd
                    have d56 := hd 34 rfl 56 rfl
                    have d51 := hd 29 rfl 51 rfl
                    exact sk_gval (by exact xr_loadS (ss := [Seg.cell (.int .i64 a0.Tickets.Geometry.Blocks), Seg.cell (.int .i64 a0.Tickets.Geometry.Slots), Seg.cell (.int .i64 a0.Tickets.Geometry.Gens)]) rfl ag116 sz116 rfl d56 ((b2.gr hz).segs 1 3 rfl)) rfl rfl d51 c33 rfl
                  · intro ρz wz hz hk hd
                    have d57 := hd 35 rfl 57 rfl
                    have d51 := hd 29 rfl 51 rfl
                    refine sk_gop (by exact opv_call rfl cal125 (ac d57 an) (rickyardref12_Charts.ok fu _ a0.Tickets.Geometry _ k38)) rfl rfl d51 c33 ?_
                    rintro _ wy ⟨rfl, q39⟩
                    exact ⟨rfl, q39⟩
                  · intro ρz wz hz hk hd
                    have d54 := hd 32 rfl 54 rfl
                    have d58 := hd 36 rfl 58 rfl
                    have d51 := hd 29 rfl 51 rfl
                    exact sk_gval (v := .bool (!decide ((List.length a0.Charts : Int) = t37))) (by exact xr_neI rfl Try.underlying3 rfl d54 d58) rfl rfl d51 c33 rfl
                · intro ρ40 w41 q42 hk hd
                  have e1 := (hk 1 rfl).trans e1
                  have e51 := hd 29 rfl 51 rfl
                  have e59 := hd 37 rfl 59 rfl
                  have b2 := b2.gr q42
                  have fB := fB.gr q42
                  refine ol_val (v := .bool (!decide ((List.length a0.Charts : Int) = t37))) (by exact xr_pickF rfl e51 c33 e59) rfl rfl rfl ?_
                  refine ol_nil ?_
                  obtain rfl := Option.some.inj j20
                  refine thn_i ?_
                  exact ⟨e1, rfl, q42⟩
      · skip
        rintro ρ43 w44 ⟨e1, e60, q45⟩
        have b2 := b2.gr q45
        have fB := fB.gr q45
        rcases is h with ⟨c46, h⟩ | ⟨c46, h⟩
        · refine cw_condT e60 c46 ?_
          refine cw_seq ?_
          refine cw_region ?_
          refine ol_val (v := .bool false) (by exact xr_assign rfl rfl) rfl rfl rfl ?_
          refine ol_nil ?_
          refine cw_ret ?_
          repeat (first | with_reducible refine thn_r ?_ | with_reducible refine blk_r ?_)
          obtain rfl := Option.some.inj h
          refine fin_ret1 Try.results90 rfl ?_
          exact ⟨_, rfl, rfl, fB⟩
        · refine cw_condF e60 c46 ?_
          refine cw_skip ?_
          refine cw_seq ?_
          refine cw_region ?_
          refine ol_val (v := .slice none 0 0) (by exact xr_assign rfl rfl) rfl rfl rfl ?_
          refine ol_nil ?_
          refine cw_seq ?_
          refine cw_seq ?_
          refine cw_region ?_
          refine ol_val (v := .pointer (some ⟨G1, 1, none⟩)) (by exact xr_fieldAddr (p := 0) (q := 1) rfl fl120_1 e1) rfl rfl rfl ?_
          refine ol_val (v := .pointer (some ⟨G1, 5, none⟩)) (by exact xr_fieldAddr (p := 1) (q := 4) rfl fl118_2 rfl) rfl rfl rfl ?_
          refine ol_val (v := .int .i64 a0.Tickets.High) (by exact xr_load1 (v := .int .i64 a0.Tickets.High) rfl ag3 rfl (b2.seg 5 rfl rfl)) rfl rfl rfl ?_
          refine ol_val (v := .bool (decide (a0.Tickets.High = 0))) (by exact xr_eqI rfl Try.underlying3 rfl rfl rfl) rfl rfl rfl ?_
          refine ol_nil ?_
          obtain ⟨x47, j48, h49⟩ := bs h
          refine cw_mid (fun ρ' w' => ∃ x50, x47 = Sum.inr x50 ∧ ∃ v51 : Value, ∃ o52 : Own (kI .i64) 3 w' w.heap.size v51 x50, ρ' 1 = .pointer (some ⟨G1, 0, none⟩) ∧ ρ' 3 = v51 ∧ Blk w' G1 120 [Seg.cell (.int .i64 a0.Epoch), Seg.cell (.int .i64 a0.Tickets.Geometry.Blocks), Seg.cell (.int .i64 a0.Tickets.Geometry.Slots), Seg.cell (.int .i64 a0.Tickets.Geometry.Gens), Seg.cell (.int .i64 a0.Tickets.Top), Seg.cell (.int .i64 a0.Tickets.High), Seg.cell (.int .i64 a0.Tickets.Free), Seg.cell (.int .i64 a0.Dir), Seg.cell V0_0 R0_0.one] ∧ Gr w w') ?_ ?_
          · have h := j48
            rcases is h with ⟨c54, h⟩ | ⟨c54, h⟩
            · refine cw_condT rfl c54 ?_
              refine cw_seq ?_
              refine cw_region ?_
              refine ol_val (v := .pointer (some ⟨G1, 1, none⟩)) (by exact xr_fieldAddr (p := 0) (q := 1) rfl fl120_1 e1) rfl rfl rfl ?_
              refine ol_val (v := .pointer (some ⟨G1, 4, none⟩)) (by exact xr_fieldAddr (p := 1) (q := 3) rfl fl118_1 rfl) rfl rfl rfl ?_
              refine ol_val (v := .int .i64 a0.Tickets.Top) (by exact xr_load1 (v := .int .i64 a0.Tickets.Top) rfl ag3 rfl (b2.seg 4 rfl rfl)) rfl rfl rfl ?_
              refine ol_val (v := .bool (!decide (a0.Tickets.Top = 0))) (by exact xr_neI rfl Try.underlying3 rfl rfl rfl) rfl rfl rfl ?_
              refine ol_nil ?_
              rcases is h with ⟨c55, h⟩ | ⟨c55, h⟩
              · refine cw_condT rfl c55 ?_
                refine cw_seq ?_
                refine cw_region ?_
                refine ol_val (v := .bool false) (by exact xr_assign rfl rfl) rfl rfl rfl ?_
                refine ol_nil ?_
                refine cw_ret ?_
                repeat (first | with_reducible refine thn_r ?_ | with_reducible refine blk_r ?_)
                obtain rfl := Option.some.inj h
                have h := h49
                obtain rfl := Option.some.inj h
                refine fin_ret1 Try.results90 rfl ?_
                exact ⟨_, rfl, rfl, fB⟩
              · refine cw_condF rfl c55 ?_
                refine cw_skip ?_
                obtain rfl := Option.some.inj h
                refine thn_i ?_
                exact ⟨_, rfl, (.slice none 0 0), Own.nil _ _ _ _, e1, rfl, b2, fB⟩
            · refine cw_condF rfl c54 ?_
              refine cw_region ?_
              refine ol_val (v := .slice none 0 0) (by exact xr_move rfl rfl) rfl rfl rfl ?_
              refine ol_val (v := .pointer (some ⟨G1, 1, none⟩)) (by exact xr_fieldAddr (p := 0) (q := 1) rfl fl120_1 e1) rfl rfl rfl ?_
              refine ol_val (v := .pointer (some ⟨G1, 4, none⟩)) (by exact xr_fieldAddr (p := 1) (q := 3) rfl fl118_1 rfl) rfl rfl rfl ?_
              refine ol_val (v := .int .i64 a0.Tickets.Top) (by exact xr_load1 (v := .int .i64 a0.Tickets.Top) rfl ag3 rfl (b2.seg 4 rfl rfl)) rfl rfl rfl ?_
              refine ol_op (by exact opv_buildSlice (K := (kI .i64)) (xs := [a0.Tickets.Top]) (vals := [.int .i64 a0.Tickets.Top]) rfl Try.underlying45 el3 rfl rfl ⟨rfl, rfl, trivial⟩ rfl rfl rfl fB.size) rfl rfl rfl ?_
              rintro v56 w61 ⟨o58, q57, z59⟩
              have b2 := b2.gr q57
              have fB := fB.gr q57
              obtain ⟨g66, h⟩ := gs h
              have f68 := Off.nil G1
              have f69 := Own.geN w.heap.size
              refine ol_op (by exact opv_append (K := (kI .i64)) rfl Try.underlying45 el3 rfl rfl rfl rfl rfl (Own.nil (kI .i64) 3 _ _) o58.rd g66 fB.size) rfl rfl rfl ?_
              rintro v62 w70 ⟨o63, q64, n65⟩
              have b2 := b2.wrO q64 f68
              have fB := fB.wrO q64 f69
              refine ol_val (v := v62) (by exact xr_assign rfl rfl) rfl rfl rfl ?_
              refine ol_nil ?_
              obtain rfl := Option.some.inj h
              refine thn_i ?_
              exact ⟨_, rfl, v62, o63, e1, rfl, b2, fB⟩
          · rintro ρ71 w72 ⟨x50, rfl, v51, o52, e1, e3, b2, fB⟩
            have h := h49
            refine cw_seq ?_
            refine cw_seq ?_
            refine cw_region ?_
            refine ol_val (v := .pointer (some ⟨G1, 7, none⟩)) (by exact xr_fieldAddr (p := 0) (q := 7) rfl fl120_2 e1) rfl rfl rfl ?_
            refine ol_val (v := .int .i64 a0.Dir) (by exact xr_load1 (v := .int .i64 a0.Dir) rfl ag3 rfl (b2.seg 7 rfl rfl)) rfl rfl rfl ?_
            refine ol_val (v := .bool (!decide (a0.Dir = 0))) (by exact xr_neI rfl Try.underlying3 rfl rfl rfl) rfl rfl rfl ?_
            refine ol_nil ?_
            obtain ⟨x73, j74, h75⟩ := bs h
            refine cw_mid (fun ρ' w' => ∃ v76 : Value, ∃ o77 : Own (kI .i64) 3 w' w.heap.size v76 x73, ρ' 1 = .pointer (some ⟨G1, 0, none⟩) ∧ ρ' 3 = v76 ∧ Blk w' G1 120 [Seg.cell (.int .i64 a0.Epoch), Seg.cell (.int .i64 a0.Tickets.Geometry.Blocks), Seg.cell (.int .i64 a0.Tickets.Geometry.Slots), Seg.cell (.int .i64 a0.Tickets.Geometry.Gens), Seg.cell (.int .i64 a0.Tickets.Top), Seg.cell (.int .i64 a0.Tickets.High), Seg.cell (.int .i64 a0.Tickets.Free), Seg.cell (.int .i64 a0.Dir), Seg.cell V0_0 R0_0.one] ∧ Gr w w') ?_ ?_
            · have h := j74
              rcases is h with ⟨c79, h⟩ | ⟨c79, h⟩
              · refine cw_condT rfl c79 ?_
                refine cw_region ?_
                refine ol_val (v := v51) (by exact xr_move rfl e3) rfl rfl rfl ?_
                refine ol_val (v := .pointer (some ⟨G1, 7, none⟩)) (by exact xr_fieldAddr (p := 0) (q := 7) rfl fl120_2 e1) rfl rfl rfl ?_
                refine ol_val (v := .int .i64 a0.Dir) (by exact xr_load1 (v := .int .i64 a0.Dir) rfl ag3 rfl (b2.seg 7 rfl rfl)) rfl rfl rfl ?_
                refine ol_op (by exact opv_buildSlice (K := (kI .i64)) (xs := [a0.Dir]) (vals := [.int .i64 a0.Dir]) rfl Try.underlying45 el3 rfl rfl ⟨rfl, rfl, trivial⟩ rfl rfl rfl fB.size) rfl rfl rfl ?_
                rintro v80 w85 ⟨o82, q81, z83⟩
                have a86 := OffV.new o52 z83
                have b2 := b2.gr q81
                have o52 := o52.gr q81
                have fB := fB.gr q81
                obtain ⟨g91, h⟩ := gs h
                have f93 := off_ty b2 o52 (by decide)
                have f94 := o52.geO
                refine ol_op (by exact opv_append (K := (kI .i64)) rfl Try.underlying45 el3 rfl rfl rfl rfl rfl o52 o82.rd g91 fB.size) rfl rfl rfl ?_
                rintro v87 w95 ⟨o88, q89, n90⟩
                have b2 := b2.wrO q89 f93
                have fB := fB.wrO q89 f94
                refine ol_val (v := v87) (by exact xr_assign rfl rfl) rfl rfl rfl ?_
                refine ol_nil ?_
                obtain rfl := Option.some.inj h
                refine thn_i ?_
                exact ⟨v87, o88, e1, rfl, b2, fB⟩
              · refine cw_condF rfl c79 ?_
                refine cw_skip ?_
                obtain rfl := Option.some.inj h
                refine thn_i ?_
                exact ⟨v51, o52, e1, e3, b2, fB⟩
            · rintro ρ96 w97 ⟨v76, o77, e1, e3, b2, fB⟩
              have h := h75
              refine cw_seq ?_
              refine cw_seq ?_
              refine cw_region ?_
              refine ol_val (v := .int .i64 0) (by exact xr_assign rfl rfl) rfl rfl rfl ?_
              refine ol_nil ?_
              obtain ⟨e99, l100, h101⟩ := bs h
              refine cw_mid (fun ρ' w' => ∃ x102, e99 = Sum.inr x102 ∧ ∃ v103 : Value, ∃ o104 : Own (kI .i64) 3 w' w.heap.size v103 x102, ρ' 1 = .pointer (some ⟨G1, 0, none⟩) ∧ ρ' 3 = v103 ∧ Blk w' G1 120 [Seg.cell (.int .i64 a0.Epoch), Seg.cell (.int .i64 a0.Tickets.Geometry.Blocks), Seg.cell (.int .i64 a0.Tickets.Geometry.Slots), Seg.cell (.int .i64 a0.Tickets.Geometry.Gens), Seg.cell (.int .i64 a0.Tickets.Top), Seg.cell (.int .i64 a0.Tickets.High), Seg.cell (.int .i64 a0.Tickets.Free), Seg.cell (.int .i64 a0.Dir), Seg.cell V0_0 R0_0.one] ∧ Gr w w') ?_ ?_
              · refine cw_block ?_
                refine cw_round (fun (s98 : (List Int) × Int) ρ' w' => ∃ v106 : Value, ∃ o107 : Own (kI .i64) 3 w' w.heap.size v106 s98.1, ρ' 1 = .pointer (some ⟨G1, 0, none⟩) ∧ ρ' 3 = v106 ∧ ρ' 4 = .int .i64 s98.2 ∧ Blk w' G1 120 [Seg.cell (.int .i64 a0.Epoch), Seg.cell (.int .i64 a0.Tickets.Geometry.Blocks), Seg.cell (.int .i64 a0.Tickets.Geometry.Slots), Seg.cell (.int .i64 a0.Tickets.Geometry.Gens), Seg.cell (.int .i64 a0.Tickets.Top), Seg.cell (.int .i64 a0.Tickets.High), Seg.cell (.int .i64 a0.Tickets.Free), Seg.cell (.int .i64 a0.Dir), Seg.cell V0_0 R0_0.one] ∧ Gr w w') l100 ?_ ?_
                · skip
                  exact ⟨v76, o77, e1, e3, rfl, b2, fB⟩
                · rintro s98 x111 ρ109 w110 ⟨v106, o107, e1, e3, e4, b2, fB⟩ h
                  unfold rickyardref13_Right.s1 at h
                  refine cw_seq ?_
                  refine cw_seq ?_
                  refine cw_region ?_
                  refine ol_val (v := .int .i64 s98.2) (by exact xr_move rfl e4) rfl rfl rfl ?_
                  refine ol_val (v := .pointer (some ⟨G1, 8, none⟩)) (by exact xr_fieldAddr (p := 0) (q := 8) rfl fl120_3 e1) rfl rfl rfl ?_
                  refine ol_val (v := V0_0) (by exact xr_load1 (v := V0_0) rfl ag45 rfl (b2.seg 8 rfl rfl)) rfl rfl rfl ?_
                  refine ol_val (v := .int .i64 (List.length a0.Charts : Int)) (by exact xr_lenR rfl Try.underlying45 rfl (R0_0.gr fB)) rfl rfl rfl ?_
                  refine ol_val (v := .bool (decide (s98.2 < (List.length a0.Charts : Int)))) (by exact xr_lss rfl rfl rfl) rfl rfl rfl ?_
                  refine ol_nil ?_
                  rcases is h with ⟨c112, h⟩ | ⟨c112, h⟩
                  · refine cw_condT rfl c112 ?_
                    refine cw_skip ?_
                    refine cw_seq ?_
                    refine cw_block ?_
                    refine cw_seq ?_
                    refine cw_region ?_
                    refine ol_val (v := v106) (by exact xr_move rfl e3) rfl rfl rfl ?_
                    refine ol_val (v := .pointer (some ⟨G1, 8, none⟩)) (by exact xr_fieldAddr (p := 0) (q := 8) rfl fl120_3 e1) rfl rfl rfl ?_
                    refine ol_val (v := V0_0) (by exact xr_load1 (v := V0_0) rfl ag45 rfl (b2.seg 8 rfl rfl)) rfl rfl rfl ?_
                    refine ol_val (v := .int .i64 s98.2) (by exact xr_move rfl e4) rfl rfl rfl ?_
                    obtain ⟨g113, h⟩ := gs h
                    refine ol_val (v := .pointer (some ⟨(sb V0_0), so V0_0 + Int.toNat s98.2 * 1, none⟩)) (by exact xr_indexR (K := (kI .i64)) (v := V0_0) rfl Try.underlying45 sz3 rfl (R0_0.gr fB) rfl g113.1 g113.2) rfl rfl rfl ?_
                    refine ol_val (v := .int .i64 (ix a0.Charts s98.2)) (by exact xr_load1 (v := .int .i64 (ix a0.Charts s98.2)) rfl ag3 rfl ((R0_0.gr fB).elem g113.1 g113.2)) rfl rfl rfl ?_
                    refine ol_op (by exact opv_buildSlice (K := (kI .i64)) (xs := [(ix a0.Charts s98.2)]) (vals := [.int .i64 (ix a0.Charts s98.2)]) rfl Try.underlying45 el3 rfl rfl ⟨rfl, rfl, trivial⟩ rfl rfl rfl fB.size) rfl rfl rfl ?_
                    rintro v114 w119 ⟨o116, q115, z117⟩
                    have a120 := OffV.new o107 z117
                    have b2 := b2.gr q115
                    have o107 := o107.gr q115
                    have fB := fB.gr q115
                    obtain ⟨g125, h⟩ := gs h
                    have f127 := off_ty b2 o107 (by decide)
                    have f128 := o107.geO
                    refine ol_op (by exact opv_append (K := (kI .i64)) rfl Try.underlying45 el3 rfl rfl rfl rfl rfl o107 o116.rd g125 fB.size) rfl rfl rfl ?_
                    rintro v121 w129 ⟨o122, q123, n124⟩
                    have b2 := b2.wrO q123 f127
                    have fB := fB.wrO q123 f128
                    refine ol_val (v := v121) (by exact xr_assign rfl rfl) rfl rfl rfl ?_
                    refine ol_nil ?_
                    refine cw_seq ?_
                    refine cw_region ?_
                    refine ol_val (v := .int .i64 0) (by exact xr_assign rfl rfl) rfl rfl rfl ?_
                    refine ol_nil ?_
                    obtain ⟨e131, l132, h133⟩ := bs h
                    refine cw_mid (fun ρ' w' => ∃ x134, e131 = Sum.inr x134 ∧ ∃ o122 : Own (kI .i64) 3 w' w.heap.size v121 (s98.1 ++ [(ix a0.Charts s98.2)]), ρ' 1 = .pointer (some ⟨G1, 0, none⟩) ∧ ρ' 3 = v121 ∧ ρ' 4 = .int .i64 s98.2 ∧ Blk w' G1 120 [Seg.cell (.int .i64 a0.Epoch), Seg.cell (.int .i64 a0.Tickets.Geometry.Blocks), Seg.cell (.int .i64 a0.Tickets.Geometry.Slots), Seg.cell (.int .i64 a0.Tickets.Geometry.Gens), Seg.cell (.int .i64 a0.Tickets.Top), Seg.cell (.int .i64 a0.Tickets.High), Seg.cell (.int .i64 a0.Tickets.Free), Seg.cell (.int .i64 a0.Dir), Seg.cell V0_0 R0_0.one] ∧ Gr w w') ?_ ?_
                    · refine cw_block ?_
                      refine cw_round (fun (s130 : Int) ρ' w' => ∃ o122 : Own (kI .i64) 3 w' w.heap.size v121 (s98.1 ++ [(ix a0.Charts s98.2)]), ρ' 1 = .pointer (some ⟨G1, 0, none⟩) ∧ ρ' 3 = v121 ∧ ρ' 4 = .int .i64 s98.2 ∧ ρ' 5 = .int .i64 s130 ∧ Blk w' G1 120 [Seg.cell (.int .i64 a0.Epoch), Seg.cell (.int .i64 a0.Tickets.Geometry.Blocks), Seg.cell (.int .i64 a0.Tickets.Geometry.Slots), Seg.cell (.int .i64 a0.Tickets.Geometry.Gens), Seg.cell (.int .i64 a0.Tickets.Top), Seg.cell (.int .i64 a0.Tickets.High), Seg.cell (.int .i64 a0.Tickets.Free), Seg.cell (.int .i64 a0.Dir), Seg.cell V0_0 R0_0.one] ∧ Gr w w') l132 ?_ ?_
                      · skip
                        exact ⟨o122, e1, rfl, e4, rfl, b2, fB⟩
                      · rintro s130 x137 ρ135 w136 ⟨o122, e1, e3, e4, e5, b2, fB⟩ h
                        unfold rickyardref13_Right.s2 at h
                        refine cw_seq ?_
                        refine cw_seq ?_
                        refine cw_region ?_
                        refine ol_val (v := .int .i64 s130) (by exact xr_move rfl e5) rfl rfl rfl ?_
                        refine ol_val (v := .int .i64 s98.2) (by exact xr_move rfl e4) rfl rfl rfl ?_
                        refine ol_val (v := .bool (decide (s130 < s98.2))) (by exact xr_lss rfl rfl rfl) rfl rfl rfl ?_
                        refine ol_nil ?_
                        rcases is h with ⟨c138, h⟩ | ⟨c138, h⟩
                        · refine cw_condT rfl c138 ?_
                          refine cw_skip ?_
                          refine cw_seq ?_
                          refine cw_block ?_
                          refine cw_seq ?_
                          obtain ⟨g139, h⟩ := gs h
                          obtain ⟨g140, h⟩ := gs h
                          refine cw_drawL 10 [fun vz wz => vz = (.pointer (some ⟨G1, 8, none⟩) : Value), fun vz wz => vz = (V0_0 : Value), fun vz wz => vz = (.int .i64 s130 : Value), fun vz wz => vz = (.pointer (some ⟨(sb V0_0), so V0_0 + Int.toNat s130 * 1, none⟩) : Value), fun vz wz => vz = (.int .i64 (ix a0.Charts s130) : Value), fun vz wz => vz = (.pointer (some ⟨G1, 8, none⟩) : Value), fun vz wz => vz = (V0_0 : Value), fun vz wz => vz = (.int .i64 s98.2 : Value), fun vz wz => vz = (.pointer (some ⟨(sb V0_0), so V0_0 + Int.toNat s98.2 * 1, none⟩) : Value), fun vz wz => vz = (.int .i64 (ix a0.Charts s98.2) : Value)] mo rfl ⟨fun _ _ _ h _ => h, fun _ _ _ h _ => h, fun _ _ _ h _ => h, fun _ _ _ h _ => h, fun _ _ _ h _ => h, fun _ _ _ h _ => h, fun _ _ _ h _ => h, fun _ _ _ h _ => h, fun _ _ _ h _ => h, fun _ _ _ h _ => h, trivial⟩ ?_ ?_
                          · refine ⟨?_, ?_, ?_, ?_, ?_, ?_, ?_, ?_, ?_, ?_, trivial⟩
                            · intro ρz wz hz hk hd
                              exact sk_val (v := .pointer (some ⟨G1, 8, none⟩)) (by exact xr_fieldAddr (p := 0) (q := 8) rfl fl120_3 ((hk 1 rfl).trans e1)) rfl rfl
                            · intro ρz wz hz hk hd
                              have d103 := hd 0 rfl 103 rfl
                              exact sk_val (v := V0_0) (by exact xr_load1 (v := V0_0) rfl ag45 d103 ((b2.gr hz).seg 8 rfl rfl)) rfl rfl
                            · intro ρz wz hz hk hd
                              exact sk_val (v := .int .i64 s130) (by exact xr_move rfl ((hk 5 rfl).trans e5)) rfl rfl
                            · intro ρz wz hz hk hd
                              have d104 := hd 1 rfl 104 rfl
                              have d105 := hd 2 rfl 105 rfl
                              exact sk_val (by exact xr_indexR (K := (kI .i64)) (v := V0_0) rfl Try.underlying45 sz3 d104 (R0_0.gr (fB.gr hz)) d105 g139.1 g139.2) rfl rfl
                            · intro ρz wz hz hk hd
                              have d106 := hd 3 rfl 106 rfl
                              exact sk_val (v := .int .i64 (ix a0.Charts s130)) (by exact xr_load1 (v := .int .i64 (ix a0.Charts s130)) rfl ag3 d106 ((R0_0.gr (fB.gr hz)).elem g139.1 g139.2)) rfl rfl
                            · intro ρz wz hz hk hd
                              exact sk_val (v := .pointer (some ⟨G1, 8, none⟩)) (by exact xr_fieldAddr (p := 0) (q := 8) rfl fl120_3 ((hk 1 rfl).trans e1)) rfl rfl
                            · intro ρz wz hz hk hd
                              have d108 := hd 5 rfl 108 rfl
                              exact sk_val (v := V0_0) (by exact xr_load1 (v := V0_0) rfl ag45 d108 ((b2.gr hz).seg 8 rfl rfl)) rfl rfl
                            · intro ρz wz hz hk hd
                              exact sk_val (v := .int .i64 s98.2) (by exact xr_move rfl ((hk 4 rfl).trans e4)) rfl rfl
                            · intro ρz wz hz hk hd
                              have d109 := hd 6 rfl 109 rfl
                              have d110 := hd 7 rfl 110 rfl
                              exact sk_val (by exact xr_indexR (K := (kI .i64)) (v := V0_0) rfl Try.underlying45 sz3 d109 (R0_0.gr (fB.gr hz)) d110 g140.1 g140.2) rfl rfl
                            · intro ρz wz hz hk hd
                              have d111 := hd 8 rfl 111 rfl
                              exact sk_val (v := .int .i64 (ix a0.Charts s98.2)) (by exact xr_load1 (v := .int .i64 (ix a0.Charts s98.2)) rfl ag3 d111 ((R0_0.gr (fB.gr hz)).elem g140.1 g140.2)) rfl rfl
                          · intro ρ141 w142 q143 hk hd
                            have e1 := (hk 1 rfl).trans e1
                            have e3 := (hk 3 rfl).trans e3
                            have e4 := (hk 4 rfl).trans e4
                            have e5 := (hk 5 rfl).trans e5
                            have e107 := hd 4 rfl 107 rfl
                            have e112 := hd 9 rfl 112 rfl
                            have b2 := b2.gr q143
                            have o122 := o122.gr q143
                            have fB := fB.gr q143
                            refine ol_val (v := .bool (decide ((ix a0.Charts s130) = (ix a0.Charts s98.2)))) (by exact xr_eqI rfl Try.underlying3 rfl e107 e112) rfl rfl rfl ?_
                            refine ol_nil ?_
                            rcases is h with ⟨c144, h⟩ | ⟨c144, h⟩
                            · refine cw_condT rfl c144 ?_
                              refine cw_seq ?_
                              refine cw_region ?_
                              refine ol_val (v := .bool false) (by exact xr_assign rfl rfl) rfl rfl rfl ?_
                              refine ol_nil ?_
                              refine cw_ret ?_
                              repeat (first | with_reducible refine thn_r ?_ | with_reducible refine blk_r ?_)
                              obtain rfl := Option.some.inj h
                              refine lp_ret ?_
                              rintro rfl
                              repeat (first | with_reducible refine thn_r ?_ | with_reducible refine blk_r ?_)
                              have h := h133
                              obtain rfl := Option.some.inj h
                              refine lp_ret ?_
                              rintro rfl
                              repeat (first | with_reducible refine thn_r ?_ | with_reducible refine blk_r ?_)
                              have h := h101
                              obtain rfl := Option.some.inj h
                              refine fin_ret1 Try.results90 rfl ?_
                              exact ⟨_, rfl, rfl, fB⟩
                            · refine cw_condF rfl c144 ?_
                              refine cw_skip ?_
                              refine blk_i ?_
                              refine cw_region ?_
                              refine ol_val (v := .int .i64 s130) (by exact xr_move rfl e5) rfl rfl rfl ?_
                              refine ol_val (v := .int .i64 (IntKind.i64.wrap (s130 + 1))) (by exact xr_add rfl rfl rfl) rfl rfl rfl ?_
                              refine ol_val (v := .int .i64 (IntKind.i64.wrap (s130 + 1))) (by exact xr_assign rfl rfl) rfl rfl rfl ?_
                              refine ol_nil ?_
                              obtain rfl := Option.some.inj h
                              refine lp_in ?_
                              exact ⟨o122, e1, e3, e4, rfl, b2, fB⟩
                        · refine cw_condF rfl c138 ?_
                          refine cw_exit ?_
                          repeat (first | with_reducible refine thn_e ?_ | with_reducible refine blk_e rfl ?_)
                          obtain rfl := Option.some.inj h
                          refine lp_exit ?_
                          rintro rfl
                          refine thn_x ?_
                          exact ⟨_, rfl, o122, e1, e3, e4, b2, fB⟩
                    · rintro ρ145 w146 ⟨x134, rfl, o122, e1, e3, e4, b2, fB⟩
                      have h := h133
                      refine blk_i ?_
                      refine cw_region ?_
                      refine ol_val (v := .int .i64 s98.2) (by exact xr_move rfl e4) rfl rfl rfl ?_
                      refine ol_val (v := .int .i64 (IntKind.i64.wrap (s98.2 + 1))) (by exact xr_add rfl rfl rfl) rfl rfl rfl ?_
                      refine ol_val (v := .int .i64 (IntKind.i64.wrap (s98.2 + 1))) (by exact xr_assign rfl rfl) rfl rfl rfl ?_
                      refine ol_nil ?_
                      obtain rfl := Option.some.inj h
                      refine lp_in ?_
                      exact ⟨v121, o122, e1, e3, rfl, b2, fB⟩
                  · refine cw_condF rfl c112 ?_
                    refine cw_exit ?_
                    repeat (first | with_reducible refine thn_e ?_ | with_reducible refine blk_e rfl ?_)
                    obtain rfl := Option.some.inj h
                    refine lp_exit ?_
                    rintro rfl
                    refine thn_x ?_
                    exact ⟨_, rfl, v106, o107, e1, e3, b2, fB⟩
              · rintro ρ147 w148 ⟨x102, rfl, v103, o104, e1, e3, b2, fB⟩
                have h := h101
                refine cw_seq ?_
                refine cw_seq ?_
                refine cw_region ?_
                refine ol_val (v := .int .i64 0) (by exact xr_assign rfl rfl) rfl rfl rfl ?_
                refine ol_nil ?_
                obtain ⟨e150, l151, h152⟩ := bs h
                refine cw_mid (fun ρ' w' => ∃ x153, e150 = Sum.inr x153 ∧ Gr w w') ?_ ?_
                · refine cw_block ?_
                  refine cw_round (fun (s149 : Int) ρ' w' => ∃ o104 : Own (kI .i64) 3 w' w.heap.size v103 x102, ρ' 1 = .pointer (some ⟨G1, 0, none⟩) ∧ ρ' 3 = v103 ∧ ρ' 6 = .int .i64 s149 ∧ Blk w' G1 120 [Seg.cell (.int .i64 a0.Epoch), Seg.cell (.int .i64 a0.Tickets.Geometry.Blocks), Seg.cell (.int .i64 a0.Tickets.Geometry.Slots), Seg.cell (.int .i64 a0.Tickets.Geometry.Gens), Seg.cell (.int .i64 a0.Tickets.Top), Seg.cell (.int .i64 a0.Tickets.High), Seg.cell (.int .i64 a0.Tickets.Free), Seg.cell (.int .i64 a0.Dir), Seg.cell V0_0 R0_0.one] ∧ Gr w w') l151 ?_ ?_
                  · skip
                    exact ⟨o104, e1, e3, rfl, b2, fB⟩
                  · rintro s149 x156 ρ154 w155 ⟨o104, e1, e3, e6, b2, fB⟩ h
                    unfold rickyardref13_Right.s3 at h
                    refine cw_seq ?_
                    refine cw_seq ?_
                    refine cw_region ?_
                    refine ol_val (v := .int .i64 s149) (by exact xr_move rfl e6) rfl rfl rfl ?_
                    refine ol_val (v := v103) (by exact xr_move rfl e3) rfl rfl rfl ?_
                    refine ol_val (v := .int .i64 (List.length x102 : Int)) (by exact xr_lenR rfl Try.underlying45 rfl o104.rd) rfl rfl rfl ?_
                    refine ol_val (v := .bool (decide (s149 < (List.length x102 : Int)))) (by exact xr_lss rfl rfl rfl) rfl rfl rfl ?_
                    refine ol_nil ?_
                    rcases is h with ⟨c157, h⟩ | ⟨c157, h⟩
                    · refine cw_condT rfl c157 ?_
                      refine cw_skip ?_
                      refine cw_seq ?_
                      refine cw_block ?_
                      refine cw_seq ?_
                      obtain ⟨x158, j159, h⟩ := bs h
                      refine cw_mid (fun ρ' w' => ρ' 1 = .pointer (some ⟨G1, 0, none⟩) ∧ ρ' 3 = v103 ∧ ρ' 6 = .int .i64 s149 ∧ ρ' 135 = .bool x158 ∧ Gr w155 w') ?_ ?_
                      · skip
                        obtain ⟨g160, j159⟩ := gs j159
                        rcases is j159 with ⟨c161, j159⟩ | ⟨c161, j159⟩
                        · skip
                          refine cw_drawL 15 [fun vz wz => vz = (v103 : Value), fun vz wz => vz = (.int .i64 s149 : Value), fun vz wz => vz = (.pointer (some ⟨(sb v103), so v103 + Int.toNat s149 * 1, none⟩) : Value), fun vz wz => vz = (.int .i64 (ix x102 s149) : Value), fun vz wz => vz = (.bool (decide ((ix x102 s149) < 2)) : Value), fun vz wz => vz = (.bool (decide ((ix x102 s149) < 2)) : Value), fun vz _ => vz = undef, fun vz _ => vz = undef, fun vz _ => vz = undef, fun vz _ => vz = undef, fun vz _ => vz = undef, fun vz _ => vz = undef, fun vz _ => vz = undef, fun vz _ => vz = undef, fun vz _ => vz = undef] mo rfl ⟨fun _ _ _ h _ => h, fun _ _ _ h _ => h, fun _ _ _ h _ => h, fun _ _ _ h _ => h, fun _ _ _ h _ => h, fun _ _ _ h _ => h, fun _ _ _ h _ => h, fun _ _ _ h _ => h, fun _ _ _ h _ => h, fun _ _ _ h _ => h, fun _ _ _ h _ => h, fun _ _ _ h _ => h, fun _ _ _ h _ => h, fun _ _ _ h _ => h, fun _ _ _ h _ => h, trivial⟩ ?_ ?_
                          · refine ⟨?_, ?_, ?_, ?_, ?_, ?_, ?_, ?_, ?_, ?_, ?_, ?_, ?_, ?_, ?_, trivial⟩
                            · intro ρz wz hz hk hd
                              exact sk_val (v := v103) (by exact xr_move rfl ((hk 3 rfl).trans e3)) rfl rfl
                            · intro ρz wz hz hk hd
                              exact sk_val (v := .int .i64 s149) (by exact xr_move rfl ((hk 6 rfl).trans e6)) rfl rfl
                            · intro ρz wz hz hk hd
                              have d120 := hd 0 rfl 120 rfl
                              have d121 := hd 1 rfl 121 rfl
                              exact sk_val (by exact xr_indexR (K := (kI .i64)) (v := v103) rfl Try.underlying45 sz3 d120 (o104.gr hz).rd d121 g160.1 g160.2) rfl rfl
                            · intro ρz wz hz hk hd
                              have d122 := hd 2 rfl 122 rfl
                              exact sk_val (v := .int .i64 (ix x102 s149)) (by exact xr_load1 (v := .int .i64 (ix x102 s149)) rfl ag3 d122 ((o104.gr hz).rd.elem g160.1 g160.2)) rfl rfl
                            · intro ρz wz hz hk hd
                              have d123 := hd 3 rfl 123 rfl
                              exact sk_val (v := .bool (decide ((ix x102 s149) < 2))) (by exact xr_lss rfl d123 rfl) rfl rfl
                            · intro ρz wz hz hk hd
                              have d124 := hd 4 rfl 124 rfl
                              exact sk_val (v := .bool (decide ((ix x102 s149) < 2))) (by exact xr_move rfl d124) rfl rfl
                            · intro ρz wz hz hk hd
                              have d125 := hd 5 rfl 125 rfl
                              exact sk_skip rfl rfl d125 c161 rfl
                            · intro ρz wz hz hk hd
                              have d125 := hd 5 rfl 125 rfl
                              exact sk_skip rfl rfl d125 c161 rfl
                            · intro ρz wz hz hk hd
                              have d125 := hd 5 rfl 125 rfl
                              exact sk_skip rfl rfl d125 c161 rfl
                            · intro ρz wz hz hk hd
                              have d125 := hd 5 rfl 125 rfl
                              exact sk_skip rfl rfl d125 c161 rfl
                            · intro ρz wz hz hk hd
                              have d125 := hd 5 rfl 125 rfl
                              exact sk_skip rfl rfl d125 c161 rfl
                            · intro ρz wz hz hk hd
                              have d125 := hd 5 rfl 125 rfl
                              exact sk_skip rfl rfl d125 c161 rfl
                            · intro ρz wz hz hk hd
                              have d125 := hd 5 rfl 125 rfl
                              exact sk_skip rfl rfl d125 c161 rfl
                            · intro ρz wz hz hk hd
                              have d125 := hd 5 rfl 125 rfl
                              exact sk_skip rfl rfl d125 c161 rfl
                            · intro ρz wz hz hk hd
                              have d125 := hd 5 rfl 125 rfl
                              exact sk_skip rfl rfl d125 c161 rfl
                          · intro ρ162 w163 q164 hk hd
                            have e1 := (hk 1 rfl).trans e1
                            have e3 := (hk 3 rfl).trans e3
                            have e6 := (hk 6 rfl).trans e6
                            have e125 := hd 5 rfl 125 rfl
                            have b2 := b2.gr q164
                            have o104 := o104.gr q164
                            have fB := fB.gr q164
                            refine ol_val (v := .bool true) (by exact xr_pickT rfl e125 c161 rfl) rfl rfl rfl ?_
                            refine ol_nil ?_
                            obtain rfl := Option.some.inj j159
                            refine thn_i ?_
                            exact ⟨e1, e3, e6, rfl, q164⟩
                        · skip
                          obtain ⟨g165, j159⟩ := gs j159
                          refine cw_drawL 15 [fun vz wz => vz = (v103 : Value), fun vz wz => vz = (.int .i64 s149 : Value), fun vz wz => vz = (.pointer (some ⟨(sb v103), so v103 + Int.toNat s149 * 1, none⟩) : Value), fun vz wz => vz = (.int .i64 (ix x102 s149) : Value), fun vz wz => vz = (.bool (decide ((ix x102 s149) < 2)) : Value), fun vz wz => vz = (.bool (decide ((ix x102 s149) < 2)) : Value), fun vz wz => vz = (v103 : Value), fun vz wz => vz = (.int .i64 s149 : Value), fun vz wz => vz = (.pointer (some ⟨(sb v103), so v103 + Int.toNat s149 * 1, none⟩) : Value), fun vz wz => vz = (.int .i64 (ix x102 s149) : Value), fun vz wz => vz = (.pointer (some ⟨G1, 1, none⟩) : Value), fun vz wz => vz = (.pointer (some ⟨G1, 1, none⟩) : Value), fun vz wz => vz = (.pointer (some ⟨G1, 1, none⟩) : Value), fun vz wz => vz = (.int .i64 a0.Tickets.Geometry.Blocks : Value), fun vz wz => vz = (.bool (decide ((ix x102 s149) ≥ a0.Tickets.Geometry.Blocks)) : Value)] mo rfl ⟨fun _ _ _ h _ => h, fun _ _ _ h _ => h, fun _ _ _ h _ => h, fun _ _ _ h _ => h, fun _ _ _ h _ => h, fun _ _ _ h _ => h, fun _ _ _ h _ => h, fun _ _ _ h _ => h, fun _ _ _ h _ => h, fun _ _ _ h _ => h, fun _ _ _ h _ => h, fun _ _ _ h _ => h, fun _ _ _ h _ => h, fun _ _ _ h _ => h, fun _ _ _ h _ => h, trivial⟩ ?_ ?_
                          · refine ⟨?_, ?_, ?_, ?_, ?_, ?_, ?_, ?_, ?_, ?_, ?_, ?_, ?_, ?_, ?_, trivial⟩
                            · intro ρz wz hz hk hd
                              exact sk_val (v := v103) (by exact xr_move rfl ((hk 3 rfl).trans e3)) rfl rfl
                            · intro ρz wz hz hk hd
                              exact sk_val (v := .int .i64 s149) (by exact xr_move rfl ((hk 6 rfl).trans e6)) rfl rfl
                            · intro ρz wz hz hk hd
                              have d120 := hd 0 rfl 120 rfl
                              have d121 := hd 1 rfl 121 rfl
                              exact sk_val (by exact xr_indexR (K := (kI .i64)) (v := v103) rfl Try.underlying45 sz3 d120 (o104.gr hz).rd d121 g160.1 g160.2) rfl rfl
                            · intro ρz wz hz hk hd
                              have d122 := hd 2 rfl 122 rfl
                              exact sk_val (v := .int .i64 (ix x102 s149)) (by exact xr_load1 (v := .int .i64 (ix x102 s149)) rfl ag3 d122 ((o104.gr hz).rd.elem g160.1 g160.2)) rfl rfl
                            · intro ρz wz hz hk hd
                              have d123 := hd 3 rfl 123 rfl
                              exact sk_val (v := .bool (decide ((ix x102 s149) < 2))) (by exact xr_lss rfl d123 rfl) rfl rfl
                            · intro ρz wz hz hk hd
                              have d124 := hd 4 rfl 124 rfl
                              exact sk_val (v := .bool (decide ((ix x102 s149) < 2))) (by exact xr_move rfl d124) rfl rfl
                            · intro ρz wz hz hk hd
                              have d125 := hd 5 rfl 125 rfl
                              exact sk_gval (v := v103) (by exact xr_move rfl ((hk 3 rfl).trans e3)) rfl rfl d125 c161 rfl
                            · intro ρz wz hz hk hd
                              have d125 := hd 5 rfl 125 rfl
                              exact sk_gval (v := .int .i64 s149) (by exact xr_move rfl ((hk 6 rfl).trans e6)) rfl rfl d125 c161 rfl
                            · intro ρz wz hz hk hd
                              have d126 := hd 6 rfl 126 rfl
                              have d127 := hd 7 rfl 127 rfl
                              have d125 := hd 5 rfl 125 rfl
                              exact sk_gval (by exact xr_indexR (K := (kI .i64)) (v := v103) rfl Try.underlying45 sz3 d126 (o104.gr hz).rd d127 g165.1 g165.2) rfl rfl d125 c161 rfl
                            · intro ρz wz hz hk hd
                              have d128 := hd 8 rfl 128 rfl
                              have d125 := hd 5 rfl 125 rfl
                              exact sk_gval (v := .int .i64 (ix x102 s149)) (by exact xr_load1 (v := .int .i64 (ix x102 s149)) rfl ag3 d128 ((o104.gr hz).rd.elem g165.1 g165.2)) rfl rfl d125 c161 rfl
                            · intro ρz wz hz hk hd
                              have d125 := hd 5 rfl 125 rfl
                              exact sk_gval (v := .pointer (some ⟨G1, 1, none⟩)) (by exact xr_fieldAddr (p := 0) (q := 1) rfl fl120_1 ((hk 1 rfl).trans e1)) rfl rfl d125 c161 rfl
                            · intro ρz wz hz hk hd
                              have d130 := hd 10 rfl 130 rfl
                              have d125 := hd 5 rfl 125 rfl
                              exact sk_gval (v := .pointer (some ⟨G1, 1, none⟩)) (by exact xr_fieldAddr (p := 1) (q := 0) rfl fl118_0 d130) rfl rfl d125 c161 rfl
                            · intro ρz wz hz hk hd
                              have d131 := hd 11 rfl 131 rfl
                              have d125 := hd 5 rfl 125 rfl
                              exact sk_gval (v := .pointer (some ⟨G1, 1, none⟩)) (by exact xr_fieldAddr (p := 1) (q := 0) rfl fl116_0 d131) rfl rfl d125 c161 rfl
                            · intro ρz wz hz hk hd
                              have d132 := hd 12 rfl 132 rfl
                              have d125 := hd 5 rfl 125 rfl
                              exact sk_gval (v := .int .i64 a0.Tickets.Geometry.Blocks) (by exact xr_load1 (v := .int .i64 a0.Tickets.Geometry.Blocks) rfl ag3 d132 ((b2.gr hz).seg 1 rfl rfl)) rfl rfl d125 c161 rfl
                            · intro ρz wz hz hk hd
                              have d129 := hd 9 rfl 129 rfl
                              have d133 := hd 13 rfl 133 rfl
                              have d125 := hd 5 rfl 125 rfl
                              exact sk_gval (by exact xr_geq rfl d129 d133) rfl rfl d125 c161 rfl
                          · intro ρ166 w167 q168 hk hd
                            have e1 := (hk 1 rfl).trans e1
                            have e3 := (hk 3 rfl).trans e3
                            have e6 := (hk 6 rfl).trans e6
                            have e125 := hd 5 rfl 125 rfl
                            have e126 := hd 6 rfl 126 rfl
                            have e127 := hd 7 rfl 127 rfl
                            have e128 := hd 8 rfl 128 rfl
                            have e129 := hd 9 rfl 129 rfl
                            have e130 := hd 10 rfl 130 rfl
                            have e131 := hd 11 rfl 131 rfl
                            have e132 := hd 12 rfl 132 rfl
                            have e133 := hd 13 rfl 133 rfl
                            have e134 := hd 14 rfl 134 rfl
                            have b2 := b2.gr q168
                            have o104 := o104.gr q168
                            have fB := fB.gr q168
                            refine ol_val (v := .bool (decide ((ix x102 s149) ≥ a0.Tickets.Geometry.Blocks))) (by exact xr_pickF rfl e125 c161 e134) rfl rfl rfl ?_
                            refine ol_nil ?_
                            obtain rfl := Option.some.inj j159
                            refine thn_i ?_
                            exact ⟨e1, e3, e6, rfl, q168⟩
                      · skip
                        rintro ρ169 w170 ⟨e1, e3, e6, e135, q171⟩
                        have b2 := b2.gr q171
                        have o104 := o104.gr q171
                        have fB := fB.gr q171
                        rcases is h with ⟨c172, h⟩ | ⟨c172, h⟩
                        · refine cw_condT e135 c172 ?_
                          refine cw_seq ?_
                          refine cw_region ?_
                          refine ol_val (v := .bool false) (by exact xr_assign rfl rfl) rfl rfl rfl ?_
                          refine ol_nil ?_
                          refine cw_ret ?_
                          repeat (first | with_reducible refine thn_r ?_ | with_reducible refine blk_r ?_)
                          obtain rfl := Option.some.inj h
                          refine lp_ret ?_
                          rintro rfl
                          repeat (first | with_reducible refine thn_r ?_ | with_reducible refine blk_r ?_)
                          have h := h152
                          obtain rfl := Option.some.inj h
                          refine fin_ret1 Try.results90 rfl ?_
                          exact ⟨_, rfl, rfl, fB⟩
                        · refine cw_condF e135 c172 ?_
                          refine cw_skip ?_
                          refine blk_i ?_
                          refine cw_region ?_
                          refine ol_val (v := .int .i64 s149) (by exact xr_move rfl e6) rfl rfl rfl ?_
                          refine ol_val (v := .int .i64 (IntKind.i64.wrap (s149 + 1))) (by exact xr_add rfl rfl rfl) rfl rfl rfl ?_
                          refine ol_val (v := .int .i64 (IntKind.i64.wrap (s149 + 1))) (by exact xr_assign rfl rfl) rfl rfl rfl ?_
                          refine ol_nil ?_
                          obtain rfl := Option.some.inj h
                          refine lp_in ?_
                          exact ⟨o104, e1, e3, rfl, b2, fB⟩
                    · refine cw_condF rfl c157 ?_
                      refine cw_exit ?_
                      repeat (first | with_reducible refine thn_e ?_ | with_reducible refine blk_e rfl ?_)
                      obtain rfl := Option.some.inj h
                      refine lp_exit ?_
                      rintro rfl
                      refine thn_x ?_
                      exact ⟨_, rfl, fB⟩
                · rintro ρ173 w174 ⟨x153, rfl, fB⟩
                  have h := h152
                  refine cw_seq ?_
                  refine cw_region ?_
                  refine ol_val (v := .bool true) (by exact xr_assign rfl rfl) rfl rfl rfl ?_
                  refine ol_nil ?_
                  refine cw_ret ?_
                  repeat (first | with_reducible refine thn_r ?_ | with_reducible refine blk_r ?_)
                  obtain rfl := Option.some.inj h
                  refine fin_ret1 Try.results90 rfl ?_
                  exact ⟨_, rfl, rfl, fB⟩
end Go.Proofs.Ytjhajfkfhdnciaa

/- rickyard/rickyardlaw13.SuperOctets: its model, and that the Go function computes it: written by gen.py. -/
set_option linter.unusedVariables false
namespace Go.Proofs.Ytjhajfkfhdnciaa
open Go Go.Xw
def rickyardlaw13_SuperOctets.f (fu : Nat) (a0 : S_api_Super) (a1 : Int) (a2 : Int) : Option Bool := ((((rickyardlaw13_awake.f fu : Option Bool).bind fun t9 => (if (!t9) = true then some (true) else (if (decide ((List.length a0.Charts : Int) > 100)) = true then some (true) else ((rickyardref13_Right.f fu a0 : Option Bool).bind fun t15 => some ((!t15)))))) : Option Bool).bind fun x7 => (if x7 = true then ((rickyardlaw13_awake.f fu : Option Bool).bind fun t23 => some (t23)) else ((super_Put.f fu a0 : Option ((List Int) × Bool)).bind fun t27 => (if (if (!t27.2) = true then true else (!decide ((List.length t27.1 : Int) = 64))) = true then some (false) else ((rickyardref01_Rest.f fu a1 64 : Option Int).bind fun t37 => (if 0 ≤ t37 ∧ t37 < (List.length t27.1 : Int) then (if 0 ≤ t37 ∧ t37 < (List.length t27.1 : Int) then ((super_Get.f fu (List.set t27.1 (Int.toNat t37) a2) : Option (S_api_Super × Bool)).bind fun t46 => (((if (decide (t46.2 = (decide ((ix t27.1 t37) = a2)))) = true then (if t46.2 = true then some (true) else ((rickyardref13_Same.f fu t46.1 (⟨(0 : Int), (⟨(⟨(0 : Int), (0 : Int), (0 : Int)⟩ : S_api_Geometry), (0 : Int), (0 : Int), (0 : Int)⟩ : S_api_Tickets), (0 : Int), []⟩ : S_api_Super) : Option Bool).bind fun t66 => some (t66))) else some (false)) : Option Bool).bind fun x62 => some (x62))) else none) else none))))))
set_option maxRecDepth 100000 in
set_option maxHeartbeats 400000 in
theorem rickyardlaw13_SuperOctets.ok (fu : Nat) (w : World) (a0 : S_api_Super) (V0_0 : Value) (R0_0 : Rd (kI .i64) w V0_0 a0.Charts) (a1 : Int) (a2 : Int) (r : Bool) (h : rickyardlaw13_SuperOctets.f fu a0 a1 a2 = some r) :
    Calls Try.prog 24 (([aggV [Seg.cell (.int .i64 a0.Epoch), Seg.cell (.int .i64 a0.Tickets.Geometry.Blocks), Seg.cell (.int .i64 a0.Tickets.Geometry.Slots), Seg.cell (.int .i64 a0.Tickets.Geometry.Gens), Seg.cell (.int .i64 a0.Tickets.Top), Seg.cell (.int .i64 a0.Tickets.High), Seg.cell (.int .i64 a0.Tickets.Free), Seg.cell (.int .i64 a0.Dir), Seg.cell V0_0 R0_0.one], .int .i64 a1, .int .u8 a2] : List Value).toArray) w (fun e w' => ∃ v, e = .returned v ∧ v = .bool r ∧ Gr w w') := by
  unfold rickyardlaw13_SuperOctets.f at h
  have fB : Gr w w := Fr.refl _ _
  refine calls_cw Try.func24 rfl Try.ntmps24 rfl ?_
  refine cw_seq ?_
  refine cw_region ?_
  refine ol_op (by exact opv_box (ss := [Seg.cell (.int .i64 a0.Epoch), Seg.cell (.int .i64 a0.Tickets.Geometry.Blocks), Seg.cell (.int .i64 a0.Tickets.Geometry.Slots), Seg.cell (.int .i64 a0.Tickets.Geometry.Gens), Seg.cell (.int .i64 a0.Tickets.Top), Seg.cell (.int .i64 a0.Tickets.High), Seg.cell (.int .i64 a0.Tickets.Free), Seg.cell (.int .i64 a0.Dir), Seg.cell V0_0 R0_0.one]) rfl rfl rfl) rfl rfl rfl ?_
  rintro _ w6 ⟨G1, rfl, b2, q3, z4⟩
  have z4 := Nat.le_trans fB.size z4
  have fB := fB.gr q3
  refine ol_val (v := .bool false) (by exact xr_assign rfl rfl) rfl rfl rfl ?_
  refine ol_nil ?_
  refine cw_seq ?_
  refine cw_seq ?_
  obtain ⟨x7, j8, h⟩ := bs h
  refine cw_mid (fun ρ' w' => ρ' 1 = .int .i64 a1 ∧ ρ' 2 = .int .u8 a2 ∧ ρ' 3 = .pointer (some ⟨G1, 0, none⟩) ∧ ρ' 25 = .bool x7 ∧ Gr w6 w') ?_ ?_
  · skip
    refine cw_region ?_
    obtain ⟨t9, k10, j8⟩ := bs j8
    refine ol_op (by exact opv_call rfl cal86 an (rickyardlaw13_awake.ok fu _ _ k10)) rfl rfl rfl ?_
    rintro _ w12 ⟨rfl, q11⟩
    have b2 := b2.gr q11
    have fB := fB.gr q11
    refine ol_val (v := .bool (!t9)) (by exact xr_not rfl rfl) rfl rfl rfl ?_
    refine ol_val (v := .bool (!t9)) (by exact xr_move rfl rfl) rfl rfl rfl ?_
    rcases is j8 with ⟨c13, j8⟩ | ⟨c13, j8⟩
    · skip
      refine ol_gskip rfl rfl rfl rfl rfl c13 ?_
      refine ol_gskip rfl rfl rfl rfl rfl c13 ?_
      refine ol_gskip rfl rfl rfl rfl rfl c13 ?_
      refine ol_gskip rfl rfl rfl rfl rfl c13 ?_
      refine ol_val (v := .bool true) (by exact xr_pickT rfl rfl c13 rfl) rfl rfl rfl ?_
      refine ol_val (v := .bool true) (by exact xr_move rfl rfl) rfl rfl rfl ?_
      refine ol_gskip rfl rfl rfl rfl rfl rfl ?_
      refine ol_gskip rfl rfl rfl rfl rfl rfl ?_
      refine ol_gskip rfl rfl rfl rfl rfl rfl ?_
      refine ol_val (v := .bool true) (by exact xr_pickT rfl rfl rfl rfl) rfl rfl rfl ?_
      refine ol_nil ?_
      obtain rfl := Option.some.inj j8
      refine thn_i ?_
      exact ⟨rfl, rfl, rfl, rfl, q11⟩
    · skip
      refine ol_gval (v := .pointer (some ⟨G1, 8, none⟩)) (by exact xr_fieldAddr (p := 0) (q := 8) rfl fl120_3 rfl) rfl rfl rfl rfl rfl c13 ?_
      refine ol_gval (v := V0_0) (by exact xr_load1 (v := V0_0) rfl ag45 rfl (b2.seg 8 rfl rfl)) rfl rfl rfl rfl rfl c13 ?_
      refine ol_gval (v := .int .i64 (List.length a0.Charts : Int)) (by exact xr_lenR rfl Try.underlying45 rfl (R0_0.gr fB)) rfl rfl rfl rfl rfl c13 ?_
      refine ol_gval (v := .bool (decide ((List.length a0.Charts : Int) > 100))) (by exact xr_gtr rfl rfl rfl) rfl rfl rfl rfl rfl c13 ?_
      refine ol_val (v := .bool (decide ((List.length a0.Charts : Int) > 100))) (by exact xr_pickF rfl rfl c13 rfl) rfl rfl rfl ?_
      refine ol_val (v := .bool (decide ((List.length a0.Charts : Int) > 100))) (by exact xr_move rfl rfl) rfl rfl rfl ?_
      rcases is j8 with ⟨c14, j8⟩ | ⟨c14, j8⟩
      · skip
        refine ol_gskip rfl rfl rfl rfl rfl c14 ?_
        refine ol_gskip rfl rfl rfl rfl rfl c14 ?_
        refine ol_gskip rfl rfl rfl rfl rfl c14 ?_
        refine ol_val (v := .bool true) (by exact xr_pickT rfl rfl c14 rfl) rfl rfl rfl ?_
        refine ol_nil ?_
        obtain rfl := Option.some.inj j8
        refine thn_i ?_
        exact ⟨rfl, rfl, rfl, rfl, q11⟩
      · skip
        refine ol_gval (v := aggV [Seg.cell (.int .i64 a0.Epoch), Seg.cell (.int .i64 a0.Tickets.Geometry.Blocks), Seg.cell (.int .i64 a0.Tickets.Geometry.Slots), Seg.cell (.int .i64 a0.Tickets.Geometry.Gens), Seg.cell (.int .i64 a0.Tickets.Top), Seg.cell (.int .i64 a0.Tickets.High), Seg.cell (.int .i64 a0.Tickets.Free), Seg.cell (.int .i64 a0.Dir), Seg.cell V0_0 R0_0.one]) (by exact xr_loadS (ss := [Seg.cell (.int .i64 a0.Epoch), Seg.cell (.int .i64 a0.Tickets.Geometry.Blocks), Seg.cell (.int .i64 a0.Tickets.Geometry.Slots), Seg.cell (.int .i64 a0.Tickets.Geometry.Gens), Seg.cell (.int .i64 a0.Tickets.Top), Seg.cell (.int .i64 a0.Tickets.High), Seg.cell (.int .i64 a0.Tickets.Free), Seg.cell (.int .i64 a0.Dir), Seg.cell V0_0 R0_0.one]) rfl ag120 sz120 rfl rfl (b2.segs 0 9 rfl)) rfl rfl rfl rfl rfl c14 ?_
        obtain ⟨t15, k16, j8⟩ := bs j8
        refine ol_gop (by exact opv_call rfl cal90 (ac rfl an) (rickyardref13_Right.ok fu _ a0 V0_0 (R0_0.gr fB) _ k16)) rfl rfl rfl rfl rfl c14 ?_
        rintro _ w18 ⟨rfl, q17⟩
        have b2 := b2.gr q17
        have fB := fB.gr q17
        refine ol_gval (v := .bool (!t15)) (by exact xr_not rfl rfl) rfl rfl rfl rfl rfl c14 ?_
        refine ol_val (v := .bool (!t15)) (by exact xr_pickF rfl rfl c14 rfl) rfl rfl rfl ?_
        refine ol_nil ?_
        obtain rfl := Option.some.inj j8
        refine thn_i ?_
        exact ⟨rfl, rfl, rfl, rfl, (q11.gr q17)⟩
  · skip
    rintro ρ19 w20 ⟨e1, e2, e3, e25, q21⟩
    have b2 := b2.gr q21
    have fB := fB.gr q21
    rcases is h with ⟨c22, h⟩ | ⟨c22, h⟩
    · refine cw_condT e25 c22 ?_
      refine cw_seq ?_
      refine cw_region ?_
      obtain ⟨t23, k24, h⟩ := bs h
      refine ol_op (by exact opv_call rfl cal86 an (rickyardlaw13_awake.ok fu _ _ k24)) rfl rfl rfl ?_
      rintro _ w26 ⟨rfl, q25⟩
      have fB := fB.gr q25
      refine ol_val (v := .bool t23) (by exact xr_assign rfl rfl) rfl rfl rfl ?_
      refine ol_nil ?_
      refine cw_ret ?_
      repeat (first | with_reducible refine thn_r ?_ | with_reducible refine blk_r ?_)
      obtain rfl := Option.some.inj h
      refine fin_ret1 Try.results24 rfl ?_
      exact ⟨_, rfl, rfl, fB⟩
    · refine cw_condF e25 c22 ?_
      refine cw_skip ?_
      refine cw_seq ?_
      refine cw_region ?_
      refine ol_val (v := aggV [Seg.cell (.int .i64 a0.Epoch), Seg.cell (.int .i64 a0.Tickets.Geometry.Blocks), Seg.cell (.int .i64 a0.Tickets.Geometry.Slots), Seg.cell (.int .i64 a0.Tickets.Geometry.Gens), Seg.cell (.int .i64 a0.Tickets.Top), Seg.cell (.int .i64 a0.Tickets.High), Seg.cell (.int .i64 a0.Tickets.Free), Seg.cell (.int .i64 a0.Dir), Seg.cell V0_0 R0_0.one]) (by exact xr_loadS (ss := [Seg.cell (.int .i64 a0.Epoch), Seg.cell (.int .i64 a0.Tickets.Geometry.Blocks), Seg.cell (.int .i64 a0.Tickets.Geometry.Slots), Seg.cell (.int .i64 a0.Tickets.Geometry.Gens), Seg.cell (.int .i64 a0.Tickets.Top), Seg.cell (.int .i64 a0.Tickets.High), Seg.cell (.int .i64 a0.Tickets.Free), Seg.cell (.int .i64 a0.Dir), Seg.cell V0_0 R0_0.one]) rfl ag120 sz120 rfl e3 (b2.segs 0 9 rfl)) rfl rfl rfl ?_
      obtain ⟨t27, k28, h⟩ := bs h
      refine ol_op (by exact opv_call rfl cal91 (ac rfl an) (super_Put.ok fu _ a0 V0_0 (R0_0.gr fB) _ k28)) rfl rfl rfl ?_
      rintro _ w33 ⟨u29, o30, rfl, q32⟩
      have o30 := Own.base o30 fB.size
      have fB := fB.gr q32
      refine ol_val (v := .tuple #[u29, .bool t27.2]) (by exact xr_move rfl rfl) rfl rfl rfl ?_
      refine ol_val (v := u29) (by exact xr_extract rfl rfl rfl) rfl rfl rfl ?_
      refine ol_val (v := .bool t27.2) (by exact xr_extract rfl rfl rfl) rfl rfl rfl ?_
      refine ol_val (v := u29) (by exact xr_assign rfl rfl) rfl rfl rfl ?_
      refine ol_val (v := .bool t27.2) (by exact xr_assign rfl rfl) rfl rfl rfl ?_
      refine ol_nil ?_
      refine cw_seq ?_
      refine cw_seq ?_
      refine cw_mid (fun ρ' w' => ρ' 1 = .int .i64 a1 ∧ ρ' 2 = .int .u8 a2 ∧ ρ' 7 = u29 ∧ ρ' 38 = .bool (if (!t27.2) = true then true else (!decide ((List.length t27.1 : Int) = 64))) ∧ w33 = w') ?_ ?_
      · skip
        refine cw_region ?_
        refine ol_val (v := .bool t27.2) (by exact xr_move rfl rfl) rfl rfl rfl ?_
        refine ol_val (v := .bool (!t27.2)) (by exact xr_not rfl rfl) rfl rfl rfl ?_
        refine ol_val (v := .bool (!t27.2)) (by exact xr_move rfl rfl) rfl rfl rfl ?_
        rcases bt (!t27.2) with c34 | c34
        · skip
          refine ol_gskip rfl rfl rfl rfl rfl c34 ?_
          refine ol_gskip rfl rfl rfl rfl rfl c34 ?_
          refine ol_gskip rfl rfl rfl rfl rfl c34 ?_
          refine ol_val (v := .bool true) (by exact xr_pickT rfl rfl c34 rfl) rfl rfl rfl ?_
          refine ol_nil ?_
          refine thn_i ?_
          exact ⟨e1, e2, rfl, (rfl).trans (congrArg (fun z => (.bool z : Value)) (show true = (if (!t27.2) = true then true else (!decide ((List.length t27.1 : Int) = 64))) from by rw [ite_t c34])), rfl⟩
        · skip
          refine ol_gval (v := u29) (by exact xr_move rfl rfl) rfl rfl rfl rfl rfl c34 ?_
          refine ol_gval (v := .int .i64 (List.length t27.1 : Int)) (by exact xr_lenR rfl Try.underlying22 rfl o30.rd) rfl rfl rfl rfl rfl c34 ?_
          refine ol_gval (v := .bool (!decide ((List.length t27.1 : Int) = 64))) (by exact xr_neI rfl Try.underlying3 rfl rfl rfl) rfl rfl rfl rfl rfl c34 ?_
          refine ol_val (v := .bool (!decide ((List.length t27.1 : Int) = 64))) (by exact xr_pickF rfl rfl c34 rfl) rfl rfl rfl ?_
          refine ol_nil ?_
          refine thn_i ?_
          exact ⟨e1, e2, rfl, (rfl).trans (congrArg (fun z => (.bool z : Value)) (show (!decide ((List.length t27.1 : Int) = 64)) = (if (!t27.2) = true then true else (!decide ((List.length t27.1 : Int) = 64))) from by rw [ite_f c34])), rfl⟩
      · skip
        rintro ρ35 _ ⟨e1, e2, e7, e38, rfl⟩
        rcases is h with ⟨c36, h⟩ | ⟨c36, h⟩
        · refine cw_condT e38 c36 ?_
          refine cw_seq ?_
          refine cw_region ?_
          refine ol_val (v := .bool false) (by exact xr_assign rfl rfl) rfl rfl rfl ?_
          refine ol_nil ?_
          refine cw_ret ?_
          repeat (first | with_reducible refine thn_r ?_ | with_reducible refine blk_r ?_)
          obtain rfl := Option.some.inj h
          refine fin_ret1 Try.results24 rfl ?_
          exact ⟨_, rfl, rfl, fB⟩
        · refine cw_condF e38 c36 ?_
          refine cw_skip ?_
          refine cw_seq ?_
          refine cw_region ?_
          refine ol_val (v := .int .i64 a1) (by exact xr_move rfl e1) rfl rfl rfl ?_
          obtain ⟨t37, k38, h⟩ := bs h
          refine ol_op (by exact opv_call rfl cal34 (ac rfl (ac rfl an)) (rickyardref01_Rest.ok fu _ a1 64 _ k38)) rfl rfl rfl ?_
          rintro _ w40 ⟨rfl, q39⟩
          have o30 := o30.gr q39
          have fB := fB.gr q39
          refine ol_val (v := .int .i64 t37) (by exact xr_assign rfl rfl) rfl rfl rfl ?_
          refine ol_nil ?_
          refine cw_seq ?_
          refine cw_region ?_
          refine ol_val (v := u29) (by exact xr_move rfl e7) rfl rfl rfl ?_
          refine ol_val (v := .int .i64 t37) (by exact xr_move rfl rfl) rfl rfl rfl ?_
          obtain ⟨g41, h⟩ := gs h
          refine ol_val (v := .pointer (some ⟨(sb u29), so u29 + Int.toNat t37 * 1, none⟩)) (by exact xr_indexR (K := (kI .u8)) (v := u29) rfl Try.underlying22 sz5 rfl o30.rd rfl g41.1 g41.2) rfl rfl rfl ?_
          refine ol_val (v := .int .u8 (ix t27.1 t37)) (by exact xr_load1 (v := .int .u8 (ix t27.1 t37)) rfl ag5 rfl (o30.rd.elem g41.1 g41.2)) rfl rfl rfl ?_
          refine ol_val (v := .int .u8 a2) (by exact xr_move rfl e2) rfl rfl rfl ?_
          refine ol_val (v := .bool (decide ((ix t27.1 t37) = a2))) (by exact xr_eqI rfl Try.underlying5 rfl rfl rfl) rfl rfl rfl ?_
          refine ol_val (v := .bool (decide ((ix t27.1 t37) = a2))) (by exact xr_assign rfl rfl) rfl rfl rfl ?_
          refine ol_nil ?_
          refine cw_seq ?_
          refine cw_region ?_
          refine ol_val (v := u29) (by exact xr_move rfl e7) rfl rfl rfl ?_
          refine ol_val (v := .int .i64 t37) (by exact xr_move rfl rfl) rfl rfl rfl ?_
          refine ol_val (v := .int .u8 a2) (by exact xr_move rfl e2) rfl rfl rfl ?_
          obtain ⟨g42, h⟩ := gs h
          refine ol_val (v := .pointer (some ⟨(sb u29), so u29 + Int.toNat t37 * 1, none⟩)) (by exact xr_indexR (K := (kI .u8)) (v := u29) rfl Try.underlying22 sz5 rfl o30.rd rfl g42.1 g42.2) rfl rfl rfl ?_
          have f44 := o30.geO
          refine ol_op0 (by exact opv_storeRow (z := a2) (xs := cellsOf [Seg.cell (.int .u8 a2)]) rfl sz5 rfl rfl rfl (len_cellsOf _) (one_cellsOf _) o30 g42.1 g42.2 (Spl.whole ((Kd.len _ _).trans (Kd.len _ _).symm)) rfl) rfl rfl ?_
          rintro _ w45 ⟨o30, q43⟩
          have fB := fB.wrO q43 f44
          refine ol_nil ?_
          refine cw_seq ?_
          refine cw_region ?_
          refine ol_val (v := u29) (by exact xr_move rfl e7) rfl rfl rfl ?_
          obtain ⟨t46, k47, h⟩ := bs h
          refine ol_op (by exact opv_call rfl cal87 (ac rfl an) (super_Get.ok fu _ (List.set t27.1 (Int.toNat t37) a2) u29 (o30.rd) _ k47)) rfl rfl rfl ?_
          rintro _ w52 ⟨u48, o49, rfl, q51⟩
          have o49 := Own.base o49 fB.size
          have fB := fB.gr q51
          refine ol_val (v := .tuple #[aggV [Seg.cell (.int .i64 t46.1.Epoch), Seg.cell (.int .i64 t46.1.Tickets.Geometry.Blocks), Seg.cell (.int .i64 t46.1.Tickets.Geometry.Slots), Seg.cell (.int .i64 t46.1.Tickets.Geometry.Gens), Seg.cell (.int .i64 t46.1.Tickets.Top), Seg.cell (.int .i64 t46.1.Tickets.High), Seg.cell (.int .i64 t46.1.Tickets.Free), Seg.cell (.int .i64 t46.1.Dir), Seg.cell u48 o49.one], .bool t46.2]) (by exact xr_move rfl rfl) rfl rfl rfl ?_
          refine ol_val (v := aggV [Seg.cell (.int .i64 t46.1.Epoch), Seg.cell (.int .i64 t46.1.Tickets.Geometry.Blocks), Seg.cell (.int .i64 t46.1.Tickets.Geometry.Slots), Seg.cell (.int .i64 t46.1.Tickets.Geometry.Gens), Seg.cell (.int .i64 t46.1.Tickets.Top), Seg.cell (.int .i64 t46.1.Tickets.High), Seg.cell (.int .i64 t46.1.Tickets.Free), Seg.cell (.int .i64 t46.1.Dir), Seg.cell u48 o49.one]) (by exact xr_extract rfl rfl rfl) rfl rfl rfl ?_
          refine ol_val (v := .bool t46.2) (by exact xr_extract rfl rfl rfl) rfl rfl rfl ?_
          refine ol_op (by exact opv_alloc (ss := [Seg.cell (.int .i64 (0 : Int)), Seg.cell (.int .i64 (0 : Int)), Seg.cell (.int .i64 (0 : Int)), Seg.cell (.int .i64 (0 : Int)), Seg.cell (.int .i64 (0 : Int)), Seg.cell (.int .i64 (0 : Int)), Seg.cell (.int .i64 (0 : Int)), Seg.cell (.int .i64 (0 : Int)), Seg.cell (.slice none 0 0) (by rfl)]) rfl ze120 rfl) rfl rfl rfl ?_
          rintro _ w58 ⟨G53, rfl, b54, q55, z56⟩
          have z56 := Nat.le_trans fB.size z56
          have o49 := o49.gr q55
          have fB := fB.gr q55
          have f60 := off_ty b54 o49 (by decide)
          refine ol_op0 (by exact opv_store (ss' := [Seg.cell (.int .i64 t46.1.Epoch), Seg.cell (.int .i64 t46.1.Tickets.Geometry.Blocks), Seg.cell (.int .i64 t46.1.Tickets.Geometry.Slots), Seg.cell (.int .i64 t46.1.Tickets.Geometry.Gens), Seg.cell (.int .i64 t46.1.Tickets.Top), Seg.cell (.int .i64 t46.1.Tickets.High), Seg.cell (.int .i64 t46.1.Tickets.Free), Seg.cell (.int .i64 t46.1.Dir), Seg.cell u48 o49.one]) (xs := cellsOf [Seg.cell (.int .i64 t46.1.Epoch), Seg.cell (.int .i64 t46.1.Tickets.Geometry.Blocks), Seg.cell (.int .i64 t46.1.Tickets.Geometry.Slots), Seg.cell (.int .i64 t46.1.Tickets.Geometry.Gens), Seg.cell (.int .i64 t46.1.Tickets.Top), Seg.cell (.int .i64 t46.1.Tickets.High), Seg.cell (.int .i64 t46.1.Tickets.Free), Seg.cell (.int .i64 t46.1.Dir), Seg.cell u48 o49.one]) rfl sz120 rfl rfl rfl (len_cellsOf _) (one_cellsOf _) b54 (Spl.segs _ 0 9 [Seg.cell (.int .i64 t46.1.Epoch), Seg.cell (.int .i64 t46.1.Tickets.Geometry.Blocks), Seg.cell (.int .i64 t46.1.Tickets.Geometry.Slots), Seg.cell (.int .i64 t46.1.Tickets.Geometry.Gens), Seg.cell (.int .i64 t46.1.Tickets.Top), Seg.cell (.int .i64 t46.1.Tickets.High), Seg.cell (.int .i64 t46.1.Tickets.Free), Seg.cell (.int .i64 t46.1.Dir), Seg.cell u48 o49.one] rfl rfl)) rfl rfl ?_
          rintro _ w61 ⟨b54, q59⟩
          have o49 := o49.wr q59 f60
          have fB := fB.wr q59 z56
          refine ol_val (v := .bool t46.2) (by exact xr_assign rfl rfl) rfl rfl rfl ?_
          refine ol_nil ?_
          refine cw_seq ?_
          obtain ⟨x62, j63, h⟩ := bs h
          refine cw_mid (fun ρ' w' => ρ' 6 = .bool x62 ∧ Gr w61 w') ?_ ?_
          · skip
            refine cw_region ?_
            refine ol_val (v := .bool t46.2) (by exact xr_move rfl rfl) rfl rfl rfl ?_
            refine ol_val (v := .bool (decide ((ix t27.1 t37) = a2))) (by exact xr_move rfl rfl) rfl rfl rfl ?_
            refine ol_val (v := .bool (decide (t46.2 = (decide ((ix t27.1 t37) = a2))))) (by exact xr_eqB rfl Try.underlying4 rfl rfl) rfl rfl rfl ?_
            refine ol_val (v := .bool (decide (t46.2 = (decide ((ix t27.1 t37) = a2))))) (by exact xr_move rfl rfl) rfl rfl rfl ?_
            rcases is j63 with ⟨c64, j63⟩ | ⟨c64, j63⟩
            · skip
              refine ol_gval (v := .bool t46.2) (by exact xr_move rfl rfl) rfl rfl rfl rfl rfl c64 ?_
              refine ol_gval (v := .bool t46.2) (by exact xr_move rfl rfl) rfl rfl rfl rfl rfl c64 ?_
              rcases is j63 with ⟨c65, j63⟩ | ⟨c65, j63⟩
              · skip
                refine ol_gskip rfl rfl rfl rfl rfl c65 ?_
                refine ol_gskip rfl rfl rfl rfl rfl c65 ?_
                refine ol_gskip rfl rfl rfl rfl rfl c65 ?_
                refine ol_gval (v := .bool true) (by exact xr_pickT rfl rfl c65 rfl) rfl rfl rfl rfl rfl c64 ?_
                refine ol_val (v := .bool true) (by exact xr_pickT rfl rfl c64 rfl) rfl rfl rfl ?_
                refine ol_val (v := .bool true) (by exact xr_assign rfl rfl) rfl rfl rfl ?_
                refine ol_nil ?_
                obtain rfl := Option.some.inj j63
                refine thn_i ?_
                exact ⟨rfl, Fr.refl _ _⟩
              · skip
                refine ol_gval (v := aggV [Seg.cell (.int .i64 t46.1.Epoch), Seg.cell (.int .i64 t46.1.Tickets.Geometry.Blocks), Seg.cell (.int .i64 t46.1.Tickets.Geometry.Slots), Seg.cell (.int .i64 t46.1.Tickets.Geometry.Gens), Seg.cell (.int .i64 t46.1.Tickets.Top), Seg.cell (.int .i64 t46.1.Tickets.High), Seg.cell (.int .i64 t46.1.Tickets.Free), Seg.cell (.int .i64 t46.1.Dir), Seg.cell u48 o49.one]) (by exact xr_loadS (ss := [Seg.cell (.int .i64 t46.1.Epoch), Seg.cell (.int .i64 t46.1.Tickets.Geometry.Blocks), Seg.cell (.int .i64 t46.1.Tickets.Geometry.Slots), Seg.cell (.int .i64 t46.1.Tickets.Geometry.Gens), Seg.cell (.int .i64 t46.1.Tickets.Top), Seg.cell (.int .i64 t46.1.Tickets.High), Seg.cell (.int .i64 t46.1.Tickets.Free), Seg.cell (.int .i64 t46.1.Dir), Seg.cell u48 o49.one]) rfl ag120 sz120 rfl rfl (b54.segs 0 9 rfl)) rfl rfl rfl rfl rfl c65 ?_
                refine ol_gval (v := aggV [Seg.cell (.int .i64 (0 : Int)), Seg.cell (.int .i64 (0 : Int)), Seg.cell (.int .i64 (0 : Int)), Seg.cell (.int .i64 (0 : Int)), Seg.cell (.int .i64 (0 : Int)), Seg.cell (.int .i64 (0 : Int)), Seg.cell (.int .i64 (0 : Int)), Seg.cell (.int .i64 (0 : Int)), Seg.cell (.slice none 0 0) (by rfl)]) (by exact xr_build (vals := []) rfl trivial (bl120_ _)) rfl rfl rfl rfl rfl c65 ?_
                obtain ⟨t66, k67, j63⟩ := bs j63
                refine ol_gop (by exact opv_call rfl cal89 (ac rfl (ac rfl an)) (rickyardref13_Same.ok fu _ t46.1 u48 (o49.rd) (⟨(0 : Int), (⟨(⟨(0 : Int), (0 : Int), (0 : Int)⟩ : S_api_Geometry), (0 : Int), (0 : Int), (0 : Int)⟩ : S_api_Tickets), (0 : Int), []⟩ : S_api_Super) (.slice none 0 0) (Rd.nil (kI .i64) _) _ k67)) rfl rfl rfl rfl rfl c65 ?_
                rintro _ w69 ⟨rfl, q68⟩
                have fB := fB.gr q68
                refine ol_gval (v := .bool t66) (by exact xr_pickF rfl rfl c65 rfl) rfl rfl rfl rfl rfl c64 ?_
                refine ol_val (v := .bool t66) (by exact xr_pickT rfl rfl c64 rfl) rfl rfl rfl ?_
                refine ol_val (v := .bool t66) (by exact xr_assign rfl rfl) rfl rfl rfl ?_
                refine ol_nil ?_
                obtain rfl := Option.some.inj j63
                refine thn_i ?_
                exact ⟨rfl, q68⟩
            · skip
              refine ol_gskip rfl rfl rfl rfl rfl c64 ?_
              refine ol_gskip rfl rfl rfl rfl rfl c64 ?_
              refine ol_uskip rfl rfl rfl rfl rfl ?_
              refine ol_uskip rfl rfl rfl rfl rfl ?_
              refine ol_uskip rfl rfl rfl rfl rfl ?_
              refine ol_gskip rfl rfl rfl rfl rfl c64 ?_
              refine ol_val (v := .bool false) (by exact xr_pickF rfl rfl c64 rfl) rfl rfl rfl ?_
              refine ol_val (v := .bool false) (by exact xr_assign rfl rfl) rfl rfl rfl ?_
              refine ol_nil ?_
              obtain rfl := Option.some.inj j63
              refine thn_i ?_
              exact ⟨rfl, Fr.refl _ _⟩
          · skip
            rintro ρ70 w71 ⟨e6, q72⟩
            have fB := fB.gr q72
            refine cw_ret ?_
            repeat (first | with_reducible refine thn_r ?_ | with_reducible refine blk_r ?_)
            obtain rfl := Option.some.inj h
            refine fin_ret1 Try.results24 e6 ?_
            exact ⟨_, rfl, rfl, fB⟩
end Go.Proofs.Ytjhajfkfhdnciaa

/- What a row's arguments are: the readings of arguments opened into records, lists and their facts. -/
set_option linter.unusedVariables false
set_option linter.unusedSimpArgs false
namespace Go.Xw
open Go
variable {P : Program} {w : World}
def Opn {α : Type} (P : Program) (w : World) (T : TypeId) (K : Kd α) (ok : α → Prop) : Prop :=
  ∀ {H : Type} (enc : TypeId × Value → H) (base : Nat) (sp : Nat → Bool) (held : Bool) (fuel : Nat) (cs : List Value) (x : DataW H × List MemPlace), DataW.trod enc P w base sp held fuel T cs = some x → ∃ a : α, cs = K.enc a ∧ ok a
theorem opn_int {T : TypeId} {k : IntKind} (ht : P.underlying T = some (.int k)) : Opn P w T (kI k) (fun n => (Lit.int k n).wf = true) := by
  intro H enc base sp held fuel cs x h
  obtain ⟨n, rfl, _, hw⟩ := DataW.trod_int ht h
  exact ⟨n, rfl, hw⟩
theorem opn_bool {T : TypeId} (ht : P.underlying T = some .bool) : Opn P w T kB (fun _ => True) := by
  intro H enc base sp held fuel cs x h
  obtain ⟨b, rfl, _⟩ := DataW.trod_bool ht h
  exact ⟨b, rfl, trivial⟩
theorem opn_str {T : TypeId} (ht : P.underlying T = some .string) : Opn P w T kS (fun l => l.length ≤ maxLen) := by
  intro H enc base sp held fuel cs x h
  obtain ⟨⟨⟨l⟩⟩, rfl, _, hs⟩ := DataW.trod_string ht h
  exact ⟨l, rfl, by simpa [ByteArray.size] using hs⟩
theorem chunks {α : Type} (K : Kd α) (ok : α → Prop) : ∀ (n : Nat) (cs : List Value), cs.length = n * K.size → (∀ i, i < n → ∃ a, (cs.drop (i * K.size)).take K.size = K.enc a ∧ ok a) → ∃ l : List α, l.length = n ∧ cs = l.flatMap K.enc ∧ ∀ a ∈ l, ok a
  | 0, cs, hl, _ => ⟨[], rfl, by simpa using hl, by simp⟩
  | n + 1, cs, hl, h => by
    obtain ⟨a, ha, hok⟩ := h 0 (by omega)
    rw [Nat.zero_mul, List.drop_zero] at ha
    have hl' : cs.length = n * K.size + K.size := by rw [hl, Nat.succ_mul]
    obtain ⟨l, h1, h2, h3⟩ := chunks K ok n (cs.drop K.size) (by rw [List.length_drop]; omega) (fun i hi => by
      have := h (i + 1) (by omega)
      rw [List.drop_drop, Nat.add_comm, ← Nat.succ_mul]
      exact this)
    refine ⟨a :: l, by simp [h1], ?_, ?_⟩
    · rw [List.flatMap_cons, ← h2, ← ha, List.take_append_drop]
    · intro b hb
      rcases List.mem_cons.1 hb with rfl | hb
      · exact hok
      · exact h3 b hb
theorem ms_len {α β : Type} {f : α → Option β} : ∀ {l : List α} {ys : List β}, l.mapM f = some ys → ys.length = l.length
  | [], ys, h => by simp at h; subst h; rfl
  | a :: l, ys, h => by
    rw [List.mapM_cons] at h
    obtain ⟨b, _, h⟩ := Option.bind_eq_some_iff.1 h
    obtain ⟨bs, hb, h⟩ := Option.bind_eq_some_iff.1 h
    simp at h
    subst h
    simp [ms_len hb]
theorem ms_get {α β : Type} {f : α → Option β} : ∀ {l : List α} {ys : List β}, l.mapM f = some ys → ∀ (i : Nat) (a : α), l[i]? = some a → ∃ y, ys[i]? = some y ∧ f a = some y
  | [], ys, h, i, a, ha => by simp at ha
  | b :: l, ys, h, i, a, ha => by
    rw [List.mapM_cons] at h
    obtain ⟨c, hc, h⟩ := Option.bind_eq_some_iff.1 h
    obtain ⟨bs, hb, h⟩ := Option.bind_eq_some_iff.1 h
    simp at h
    subst h
    cases i with
    | zero =>
      simp at ha
      subst ha
      exact ⟨c, rfl, hc⟩
    | succ i =>
      simp at ha
      obtain ⟨y, h1, h2⟩ := ms_get hb i a ha
      exact ⟨y, by simpa using h1, h2⟩
theorem trod_arr {H : Type} {enc : TypeId × Value → H} {base : Nat} {sp : Nat → Bool} {held : Bool} {fuel : Nat} {T e : TypeId} {n : Nat} {cs : List Value} {x : DataW H × List MemPlace} (ht : P.underlying T = some (.array n e)) (h : DataW.trod enc P w base sp held fuel T cs = some x) :
    cs.length = P.cellsOf T ∧ ∃ m, ∀ i, i < n → ∃ y, DataW.trod enc P w base sp held m e ((cs.drop (i * P.cellsOf e)).take (P.cellsOf e)) = some y := by
  cases fuel with
  | zero => simp [DataW.trod] at h
  | succ m =>
    unfold DataW.trod at h
    rw [ht] at h
    simp only at h
    split at h
    · rename_i hl
      refine ⟨hl, m, fun i hi => ?_⟩
      obtain ⟨xs, hx, _⟩ := Option.map_eq_some_iff.1 h
      obtain ⟨y, _, hy⟩ := ms_get hx i i (by simp [hi])
      exact ⟨y, hy⟩
    · cases h
theorem opn_arr {α : Type} {K : Kd α} {ok : α → Prop} {T e : TypeId} {n : Nat} (ht : P.underlying T = some (.array n e)) (hc : P.cellsOf T = n * P.cellsOf e) (he : P.cellsOf e = K.size) (ho : Opn P w e K ok) : Opn P w T (kA n K) (fun a => ∀ x ∈ a.l, ok x) := by
  intro H enc base sp held fuel cs x h
  obtain ⟨hl, m, hm⟩ := trod_arr ht h
  obtain ⟨l, h1, h2, h3⟩ := chunks K ok n cs (by rw [hl, hc, he]) (fun i hi => by
    obtain ⟨y, hy⟩ := hm i hi
    obtain ⟨a, ha⟩ := ho enc base sp held m _ y hy
    rw [he] at ha
    exact ⟨a, ha⟩)
  exact ⟨⟨l, h1⟩, h2, h3⟩
/-- The fields of a struct, one behind another. -/
theorem fld_cons {cs : List Value} {o n : Nat} {c r : List Value} (h : (cs.drop o).take n = c) (hr : cs.drop (o + n) = r) : cs.drop o = c ++ r := by
  rw [← h, ← hr, ← List.drop_drop, List.take_append_drop]
theorem trod_st {H : Type} {enc : TypeId × Value → H} {base : Nat} {sp : Nat → Bool} {held : Bool} {fuel : Nat} {T : TypeId} {fs : Array Field} {cs : List Value} {x : DataW H × List MemPlace} (ht : P.underlying T = some (.struct fs)) (h : DataW.trod enc P w base sp held fuel T cs = some x) :
    cs.length = P.cellsOf T ∧ ∃ m, ∀ (i : Nat) (f : Field), fs[i]? = some f → ∃ y, DataW.trod enc P w base sp held m f.type ((cs.drop f.offset).take (P.cellsOf f.type)) = some y := by
  obtain ⟨xs, m, _, _, hl, hn, hf⟩ := DataW.trod_struct ht h
  refine ⟨hl, m, fun i f hi => ?_⟩
  have hx : i < xs.length := by rw [hn]; exact (Array.getElem?_eq_some_iff.1 hi).1
  exact ⟨xs[i], by rw [hf i f hi, List.getElem?_eq_getElem hx]⟩
/-- Slices: a cell that reads as a list. -/
def OpnS {α : Type} (P : Program) (w : World) (T : TypeId) (K : Kd α) (ok : α → Prop) : Prop :=
  ∀ {H : Type} (enc : TypeId × Value → H) (base : Nat) (sp : Nat → Bool) (held : Bool) (fuel : Nat) (cs : List Value) (x : DataW H × List MemPlace), DataW.trod enc P w base sp held fuel T cs = some x → ∃ (l : List α) (V : Value), cs = [V] ∧ Rd K w V l ∧ (∀ a ∈ l, ok a) ∧ l.length ≤ maxLen ∧ (sb V < w.heap.size ∨ l = [])
theorem cells_get {base : Nat} {a : Addr} {n : Nat} {cs : List Value} (h : w.cells? base a n = some cs) : cs.length = n ∧ ∀ j, j < n → w.cell? (a.add j) = cs[j]? := by
  unfold World.cells? at h
  split at h
  · refine ⟨by simpa using ms_len h, fun j hj => ?_⟩
    obtain ⟨y, h1, h2⟩ := ms_get h j j (by simp [hj])
    rw [h1, h2]
  · cases h
theorem opn_slice {α : Type} {K : Kd α} {ok : α → Prop} {T e : TypeId} (ht : P.underlying T = some (.slice e)) (he : P.cellsOf e = K.size) (hk : 0 < K.size) (ho : Opn P w e K ok) : OpnS P w T K ok := by
  intro H enc base sp held fuel cs x h
  rcases DataW.trod_slice ht h with ⟨rfl, _⟩ | ⟨a, len, cap, elems, rest, n, rfl, rfl, _, _, hl, hm, hlen, hel, _, _⟩
  · exact ⟨[], _, rfl, Rd.nil K w, by simp, by simp, .inr rfl⟩
  · have hex : ∀ i, i < len → ∃ b, (∀ j z, (K.enc b)[j]? = some z → w.cell? (a.add (i * K.size + j)) = some z) ∧ ok b := by
      intro i hi
      have h1 := hel i hi
      rw [List.getElem?_eq_getElem (by omega)] at h1
      obtain ⟨cs, h2, h3⟩ := Option.bind_eq_some_iff.1 h1
      obtain ⟨b, rfl, hb⟩ := ho enc base sp held n cs _ h3
      obtain ⟨h4, h5⟩ := cells_get h2
      rw [he] at h4 h5
      refine ⟨b, fun j z hz => ?_, hb⟩
      have hj : j < K.size := by rw [← h4]; exact (List.getElem?_eq_some_iff.1 hz).1
      have := h5 j hj
      rw [hz] at this
      rw [← this]
      congr 1
      unfold Addr.add
      by_cases hi0 : i * K.size = 0
      · by_cases hj0 : j = 0
        · simp [hi0, hj0]
        · simp [hi0, hj0]
      · by_cases hj0 : j = 0
        · simp [hi0, hj0]
        · have : i * K.size + j ≠ 0 := by omega
          simp [hi0, hj0, this, Nat.add_assoc]
    have hlist : ∀ m, m ≤ len → ∃ l : List α, l.length = m ∧ (∀ b ∈ l, ok b) ∧ ∀ j z, (l.flatMap K.enc)[j]? = some z → w.cell? (a.add j) = some z := by
      intro m
      induction m with
      | zero => intro _; exact ⟨[], rfl, by simp, by simp⟩
      | succ m ih =>
        intro hm
        obtain ⟨l, h1, h2, h3⟩ := ih (by omega)
        obtain ⟨b, h4, h5⟩ := hex m (by omega)
        refine ⟨l ++ [b], by simp [h1], ?_, ?_⟩
        · intro c hc
          rcases List.mem_append.1 hc with hc | hc
          · exact h2 c hc
          · obtain rfl := List.mem_singleton.1 hc
            exact h5
        · intro j z hz
          have hL : (l.flatMap K.enc).length = m * K.size := by rw [len_flat, h1]
          simp only [List.flatMap_append, List.flatMap_cons, List.flatMap_nil, List.append_nil] at hz
          by_cases hj : j < m * K.size
          · rw [List.getElem?_append_left (by omega)] at hz
            exact h3 j z hz
          · rw [List.getElem?_append_right (by omega), hL] at hz
            have := h4 (j - m * K.size) z hz
            rwa [show m * K.size + (j - m * K.size) = j from by omega] at this
    obtain ⟨l, h1, h2, h3⟩ := hlist len (Nat.le_refl _)
    have hpos : 0 < l.length → ∃ z, w.cell? a = some z := by
      intro hp
      cases l with
      | nil => simp at hp
      | cons b l =>
        have hb : (K.enc b).length = K.size := K.len b
        have : ∃ z, ((b :: l).flatMap K.enc)[0]? = some z := ⟨_, List.getElem?_eq_getElem (by simp [List.flatMap_cons, hb]; omega)⟩
        obtain ⟨z, hz⟩ := this
        have := h3 0 z hz
        exact ⟨z, by simpa [Addr.add] using this⟩
    refine ⟨l, _, rfl, ⟨some a, cap, by rw [h1], by omega, fun hp => ?_⟩, h2, by omega, ?_⟩
    · obtain ⟨z, hz⟩ := hpos hp
      obtain ⟨b, o, s⟩ := a
      have hs : s = none := by
        unfold World.cell? at hz
        split at hz
        · cases s with
          | none => rfl
          | some _ => simp at hz
        · cases hz
      subst hs
      refine ⟨b, o, rfl, fun j v hv => ?_⟩
      have := h3 j v hv
      rwa [Addr.add_lit] at this
    · rcases Nat.eq_zero_or_pos l.length with h0 | hp
      · exact .inr (List.eq_nil_of_length_eq_zero h0)
      · obtain ⟨z, hz⟩ := hpos hp
        refine .inl ?_
        unfold World.cell? at hz
        split at hz
        · rename_i hh
          exact (Array.getElem?_eq_some_iff.1 hh).1
        · cases hz
theorem agg_of {T : TypeId} {v : Value} {cs : List Value} {base : Nat} (h : aggB P T = some true) (hv : Value.okWide P w .any base T v) (hc : v.cells.toList = cs) : v = .agg cs.toArray := by
  unfold aggB at h
  obtain ⟨d, hu, hd⟩ := Option.map_eq_some_iff.1 h
  unfold Value.okWide at hv
  rw [hu] at hv
  cases d <;> simp at hd <;> (obtain ⟨c2, rfl, _⟩ := hv; subst hc; simp [Value.cells])
end Go.Xw

/- What the laws' arguments open into: written by rows.py. -/
set_option linter.unusedVariables false
set_option linter.unusedSimpArgs false
namespace Go.Proofs.Ytjhajfkfhdnciaa
open Go Go.Xw
def ok_api_Handle (a : S_api_Handle) : Prop := (Lit.int .i64 a.Slot).wf = true ∧ (Lit.int .i64 a.Gen).wf = true
theorem opn_api_Handle {w : World} : Opn Try.prog w 42 k_api_Handle ok_api_Handle := by
  intro H enc base sp held fuel cs x h
  obtain ⟨hl, m, hf⟩ := trod_st Try.underlying42 h
  obtain ⟨y0, h0⟩ := hf 0 _ rfl
  have c0 : Try.prog.cellsOf 3 = 1 := by kernel_rfl
  obtain ⟨b0, e0, o0⟩ := (opn_int Try.underlying3) enc base sp held m _ y0 h0
  have e0 : (cs.drop 0).take 1 = (kI .i64).enc b0 := (congrArg (fun n => (cs.drop 0).take n) c0).symm.trans e0
  obtain ⟨y1, h1⟩ := hf 1 _ rfl
  have c1 : Try.prog.cellsOf 3 = 1 := by kernel_rfl
  obtain ⟨b1, e1, o1⟩ := (opn_int Try.underlying3) enc base sp held m _ y1 h1
  have e1 : (cs.drop 1).take 1 = (kI .i64).enc b1 := (congrArg (fun n => (cs.drop 1).take n) c1).symm.trans e1
  have hn : cs.drop 2 = [] := List.drop_eq_nil_of_le (by rw [hl]; exact Nat.le_of_eq (by kernel_rfl))
  have hc : cs = (kI .i64).enc b0 ++ ((kI .i64).enc b1 ++ []) := (fld_cons (o := 0) (n := 1) e0 (fld_cons (o := 1) (n := 1) e1 hn))
  refine ⟨⟨b0, b1⟩, ?_, o0, o1⟩
  rw [hc]
  simp [kA, kI, kB, kS, kT, cellsOf, Seg.cell, Kd.seg, k_api_Handle, k_api_Entry, segs_api_Handle, segs_api_Entry]
def ok_api_Entry (a : S_api_Entry) : Prop := ok_api_Handle a.Handle ∧ (Lit.int .i64 a.Key).wf = true ∧ (Lit.int .i64 a.Value).wf = true
theorem opn_api_Entry {w : World} : Opn Try.prog w 44 k_api_Entry ok_api_Entry := by
  intro H enc base sp held fuel cs x h
  obtain ⟨hl, m, hf⟩ := trod_st Try.underlying44 h
  obtain ⟨y0, h0⟩ := hf 0 _ rfl
  have c0 : Try.prog.cellsOf 42 = 2 := by kernel_rfl
  obtain ⟨b0, e0, o0⟩ := (opn_api_Handle (w := w)) enc base sp held m _ y0 h0
  have e0 : (cs.drop 0).take 2 = k_api_Handle.enc b0 := (congrArg (fun n => (cs.drop 0).take n) c0).symm.trans e0
  obtain ⟨y1, h1⟩ := hf 1 _ rfl
  have c1 : Try.prog.cellsOf 3 = 1 := by kernel_rfl
  obtain ⟨b1, e1, o1⟩ := (opn_int Try.underlying3) enc base sp held m _ y1 h1
  have e1 : (cs.drop 2).take 1 = (kI .i64).enc b1 := (congrArg (fun n => (cs.drop 2).take n) c1).symm.trans e1
  obtain ⟨y2, h2⟩ := hf 2 _ rfl
  have c2 : Try.prog.cellsOf 3 = 1 := by kernel_rfl
  obtain ⟨b2, e2, o2⟩ := (opn_int Try.underlying3) enc base sp held m _ y2 h2
  have e2 : (cs.drop 3).take 1 = (kI .i64).enc b2 := (congrArg (fun n => (cs.drop 3).take n) c2).symm.trans e2
  have hn : cs.drop 4 = [] := List.drop_eq_nil_of_le (by rw [hl]; exact Nat.le_of_eq (by kernel_rfl))
  have hc : cs = k_api_Handle.enc b0 ++ ((kI .i64).enc b1 ++ ((kI .i64).enc b2 ++ [])) := (fld_cons (o := 0) (n := 2) e0 (fld_cons (o := 2) (n := 1) e1 (fld_cons (o := 3) (n := 1) e2 hn)))
  refine ⟨⟨b0, b1, b2⟩, ?_, o0, o1, o2⟩
  rw [hc]
  simp [kA, kI, kB, kS, kT, cellsOf, Seg.cell, Kd.seg, k_api_Handle, k_api_Entry, segs_api_Handle, segs_api_Entry]
def ok_api_Node (a : S_api_Node) : Prop := ok_api_Entry a.Entry ∧ ((∀ x ∈ a.Kids, (Lit.int .i64 x).wf = true) ∧ List.length a.Kids ≤ maxLen)
theorem opn_api_Node {w : World} {H : Type} (enc : TypeId × Value → H) (base : Nat) (sp : Nat → Bool) (held : Bool) (fuel : Nat) (cs : List Value) (x : DataW H × List MemPlace) (h : DataW.trod enc Try.prog w base sp held fuel 47 cs = some x) : ∃ a : S_api_Node, ∃ V0 : Value, ∃ R0 : Rd (kI .i64) w V0 a.Kids, cs = cellsOf [Seg.cell (.int .i64 a.Entry.Handle.Slot), Seg.cell (.int .i64 a.Entry.Handle.Gen), Seg.cell (.int .i64 a.Entry.Key), Seg.cell (.int .i64 a.Entry.Value), Seg.cell V0 R0.one] ∧ ok_api_Node a := by
  obtain ⟨hl, m, hf⟩ := trod_st Try.underlying47 h
  obtain ⟨y0, h0⟩ := hf 0 _ rfl
  have c0 : Try.prog.cellsOf 44 = 4 := by kernel_rfl
  obtain ⟨b0, e0, o0⟩ := (opn_api_Entry (w := w)) enc base sp held m _ y0 h0
  have e0 : (cs.drop 0).take 4 = k_api_Entry.enc b0 := (congrArg (fun n => (cs.drop 0).take n) c0).symm.trans e0
  obtain ⟨y1, h1⟩ := hf 1 _ rfl
  have c1 : Try.prog.cellsOf 45 = 1 := by kernel_rfl
  obtain ⟨b1, W1, e1, r1, o1, l1, _⟩ := (opn_slice (K := (kI .i64)) Try.underlying45 (by kernel_rfl) (by decide) (opn_int Try.underlying3)) enc base sp held m _ y1 h1
  have e1 : (cs.drop 4).take 1 = [W1] := (congrArg (fun n => (cs.drop 4).take n) c1).symm.trans e1
  have hn : cs.drop 5 = [] := List.drop_eq_nil_of_le (by rw [hl]; exact Nat.le_of_eq (by kernel_rfl))
  have hc : cs = k_api_Entry.enc b0 ++ ([W1] ++ []) := (fld_cons (o := 0) (n := 4) e0 (fld_cons (o := 4) (n := 1) e1 hn))
  refine ⟨⟨b0, b1⟩, W1, r1, ?_, o0, ⟨o1, l1⟩⟩
  rw [hc]
  simp [kA, kI, kB, kS, kT, cellsOf, Seg.cell, Kd.seg, k_api_Handle, k_api_Entry, segs_api_Handle, segs_api_Entry]
def ok_api_Geometry (a : S_api_Geometry) : Prop := (Lit.int .i64 a.Blocks).wf = true ∧ (Lit.int .i64 a.Slots).wf = true ∧ (Lit.int .i64 a.Gens).wf = true
theorem opn_api_Geometry {w : World} : Opn Try.prog w 116 k_api_Geometry ok_api_Geometry := by
  intro H enc base sp held fuel cs x h
  obtain ⟨hl, m, hf⟩ := trod_st Try.underlying116 h
  obtain ⟨y0, h0⟩ := hf 0 _ rfl
  have c0 : Try.prog.cellsOf 3 = 1 := by kernel_rfl
  obtain ⟨b0, e0, o0⟩ := (opn_int Try.underlying3) enc base sp held m _ y0 h0
  have e0 : (cs.drop 0).take 1 = (kI .i64).enc b0 := (congrArg (fun n => (cs.drop 0).take n) c0).symm.trans e0
  obtain ⟨y1, h1⟩ := hf 1 _ rfl
  have c1 : Try.prog.cellsOf 3 = 1 := by kernel_rfl
  obtain ⟨b1, e1, o1⟩ := (opn_int Try.underlying3) enc base sp held m _ y1 h1
  have e1 : (cs.drop 1).take 1 = (kI .i64).enc b1 := (congrArg (fun n => (cs.drop 1).take n) c1).symm.trans e1
  obtain ⟨y2, h2⟩ := hf 2 _ rfl
  have c2 : Try.prog.cellsOf 3 = 1 := by kernel_rfl
  obtain ⟨b2, e2, o2⟩ := (opn_int Try.underlying3) enc base sp held m _ y2 h2
  have e2 : (cs.drop 2).take 1 = (kI .i64).enc b2 := (congrArg (fun n => (cs.drop 2).take n) c2).symm.trans e2
  have hn : cs.drop 3 = [] := List.drop_eq_nil_of_le (by rw [hl]; exact Nat.le_of_eq (by kernel_rfl))
  have hc : cs = (kI .i64).enc b0 ++ ((kI .i64).enc b1 ++ ((kI .i64).enc b2 ++ [])) := (fld_cons (o := 0) (n := 1) e0 (fld_cons (o := 1) (n := 1) e1 (fld_cons (o := 2) (n := 1) e2 hn)))
  refine ⟨⟨b0, b1, b2⟩, ?_, o0, o1, o2⟩
  rw [hc]
  simp [kA, kI, kB, kS, kT, cellsOf, Seg.cell, Kd.seg, k_api_Handle, k_api_Entry, k_api_Geometry, k_api_Tickets, segs_api_Handle, segs_api_Entry, segs_api_Geometry, segs_api_Tickets]
def ok_api_Tickets (a : S_api_Tickets) : Prop := ok_api_Geometry a.Geometry ∧ (Lit.int .i64 a.Top).wf = true ∧ (Lit.int .i64 a.High).wf = true ∧ (Lit.int .i64 a.Free).wf = true
theorem opn_api_Tickets {w : World} : Opn Try.prog w 118 k_api_Tickets ok_api_Tickets := by
  intro H enc base sp held fuel cs x h
  obtain ⟨hl, m, hf⟩ := trod_st Try.underlying118 h
  obtain ⟨y0, h0⟩ := hf 0 _ rfl
  have c0 : Try.prog.cellsOf 116 = 3 := by kernel_rfl
  obtain ⟨b0, e0, o0⟩ := (opn_api_Geometry (w := w)) enc base sp held m _ y0 h0
  have e0 : (cs.drop 0).take 3 = k_api_Geometry.enc b0 := (congrArg (fun n => (cs.drop 0).take n) c0).symm.trans e0
  obtain ⟨y1, h1⟩ := hf 1 _ rfl
  have c1 : Try.prog.cellsOf 3 = 1 := by kernel_rfl
  obtain ⟨b1, e1, o1⟩ := (opn_int Try.underlying3) enc base sp held m _ y1 h1
  have e1 : (cs.drop 3).take 1 = (kI .i64).enc b1 := (congrArg (fun n => (cs.drop 3).take n) c1).symm.trans e1
  obtain ⟨y2, h2⟩ := hf 2 _ rfl
  have c2 : Try.prog.cellsOf 3 = 1 := by kernel_rfl
  obtain ⟨b2, e2, o2⟩ := (opn_int Try.underlying3) enc base sp held m _ y2 h2
  have e2 : (cs.drop 4).take 1 = (kI .i64).enc b2 := (congrArg (fun n => (cs.drop 4).take n) c2).symm.trans e2
  obtain ⟨y3, h3⟩ := hf 3 _ rfl
  have c3 : Try.prog.cellsOf 3 = 1 := by kernel_rfl
  obtain ⟨b3, e3, o3⟩ := (opn_int Try.underlying3) enc base sp held m _ y3 h3
  have e3 : (cs.drop 5).take 1 = (kI .i64).enc b3 := (congrArg (fun n => (cs.drop 5).take n) c3).symm.trans e3
  have hn : cs.drop 6 = [] := List.drop_eq_nil_of_le (by rw [hl]; exact Nat.le_of_eq (by kernel_rfl))
  have hc : cs = k_api_Geometry.enc b0 ++ ((kI .i64).enc b1 ++ ((kI .i64).enc b2 ++ ((kI .i64).enc b3 ++ []))) := (fld_cons (o := 0) (n := 3) e0 (fld_cons (o := 3) (n := 1) e1 (fld_cons (o := 4) (n := 1) e2 (fld_cons (o := 5) (n := 1) e3 hn))))
  refine ⟨⟨b0, b1, b2, b3⟩, ?_, o0, o1, o2, o3⟩
  rw [hc]
  simp [kA, kI, kB, kS, kT, cellsOf, Seg.cell, Kd.seg, k_api_Handle, k_api_Entry, k_api_Geometry, k_api_Tickets, segs_api_Handle, segs_api_Entry, segs_api_Geometry, segs_api_Tickets]
def ok_api_Super (a : S_api_Super) : Prop := (Lit.int .i64 a.Epoch).wf = true ∧ ok_api_Tickets a.Tickets ∧ (Lit.int .i64 a.Dir).wf = true ∧ ((∀ x ∈ a.Charts, (Lit.int .i64 x).wf = true) ∧ List.length a.Charts ≤ maxLen)
theorem opn_api_Super {w : World} {H : Type} (enc : TypeId × Value → H) (base : Nat) (sp : Nat → Bool) (held : Bool) (fuel : Nat) (cs : List Value) (x : DataW H × List MemPlace) (h : DataW.trod enc Try.prog w base sp held fuel 120 cs = some x) : ∃ a : S_api_Super, ∃ V0 : Value, ∃ R0 : Rd (kI .i64) w V0 a.Charts, cs = cellsOf [Seg.cell (.int .i64 a.Epoch), Seg.cell (.int .i64 a.Tickets.Geometry.Blocks), Seg.cell (.int .i64 a.Tickets.Geometry.Slots), Seg.cell (.int .i64 a.Tickets.Geometry.Gens), Seg.cell (.int .i64 a.Tickets.Top), Seg.cell (.int .i64 a.Tickets.High), Seg.cell (.int .i64 a.Tickets.Free), Seg.cell (.int .i64 a.Dir), Seg.cell V0 R0.one] ∧ ok_api_Super a := by
  obtain ⟨hl, m, hf⟩ := trod_st Try.underlying120 h
  obtain ⟨y0, h0⟩ := hf 0 _ rfl
  have c0 : Try.prog.cellsOf 3 = 1 := by kernel_rfl
  obtain ⟨b0, e0, o0⟩ := (opn_int Try.underlying3) enc base sp held m _ y0 h0
  have e0 : (cs.drop 0).take 1 = (kI .i64).enc b0 := (congrArg (fun n => (cs.drop 0).take n) c0).symm.trans e0
  obtain ⟨y1, h1⟩ := hf 1 _ rfl
  have c1 : Try.prog.cellsOf 118 = 6 := by kernel_rfl
  obtain ⟨b1, e1, o1⟩ := (opn_api_Tickets (w := w)) enc base sp held m _ y1 h1
  have e1 : (cs.drop 1).take 6 = k_api_Tickets.enc b1 := (congrArg (fun n => (cs.drop 1).take n) c1).symm.trans e1
  obtain ⟨y2, h2⟩ := hf 2 _ rfl
  have c2 : Try.prog.cellsOf 3 = 1 := by kernel_rfl
  obtain ⟨b2, e2, o2⟩ := (opn_int Try.underlying3) enc base sp held m _ y2 h2
  have e2 : (cs.drop 7).take 1 = (kI .i64).enc b2 := (congrArg (fun n => (cs.drop 7).take n) c2).symm.trans e2
  obtain ⟨y3, h3⟩ := hf 3 _ rfl
  have c3 : Try.prog.cellsOf 45 = 1 := by kernel_rfl
  obtain ⟨b3, W3, e3, r3, o3, l3, _⟩ := (opn_slice (K := (kI .i64)) Try.underlying45 (by kernel_rfl) (by decide) (opn_int Try.underlying3)) enc base sp held m _ y3 h3
  have e3 : (cs.drop 8).take 1 = [W3] := (congrArg (fun n => (cs.drop 8).take n) c3).symm.trans e3
  have hn : cs.drop 9 = [] := List.drop_eq_nil_of_le (by rw [hl]; exact Nat.le_of_eq (by kernel_rfl))
  have hc : cs = (kI .i64).enc b0 ++ (k_api_Tickets.enc b1 ++ ((kI .i64).enc b2 ++ ([W3] ++ []))) := (fld_cons (o := 0) (n := 1) e0 (fld_cons (o := 1) (n := 6) e1 (fld_cons (o := 7) (n := 1) e2 (fld_cons (o := 8) (n := 1) e3 hn))))
  refine ⟨⟨b0, b1, b2, b3⟩, W3, r3, ?_, o0, o1, o2, ⟨o3, l3⟩⟩
  rw [hc]
  simp [kA, kI, kB, kS, kT, cellsOf, Seg.cell, Kd.seg, k_api_Handle, k_api_Entry, k_api_Geometry, k_api_Tickets, segs_api_Handle, segs_api_Entry, segs_api_Geometry, segs_api_Tickets]
end Go.Proofs.Ytjhajfkfhdnciaa

/- Plain words on the models: rounds, numbers that fit, lists. -/
set_option linter.unusedVariables false
set_option linter.unusedSimpArgs false
namespace Go.Xw
open Go
theorem w64 {n : Int} (h1 : -9223372036854775808 ≤ n) (h2 : n ≤ 9223372036854775807) : IntKind.i64.wrap n = n := by
  unfold IntKind.wrap
  simp only [IntKind.signed, IntKind.bits]
  simp
  split <;> omega
theorem wu8 {n : Int} (h1 : 0 ≤ n) (h2 : n ≤ 255) : IntKind.u8.wrap n = n := by
  unfold IntKind.wrap
  simp only [IntKind.signed, IntKind.bits]
  simp
  omega
theorem wu64 {n : Int} (h1 : 0 ≤ n) (h2 : n ≤ 18446744073709551615) : IntKind.u64.wrap n = n := by
  unfold IntKind.wrap
  simp only [IntKind.signed, IntKind.bits]
  simp
  omega
theorem wu32 {n : Int} (h1 : 0 ≤ n) (h2 : n ≤ 4294967295) : IntKind.u32.wrap n = n := by
  unfold IntKind.wrap
  simp only [IntKind.signed, IntKind.bits]
  simp
  omega
theorem wf64 {n : Int} : (Lit.int .i64 n).wf = true ↔ -9223372036854775808 ≤ n ∧ n ≤ 9223372036854775807 := by
  simp only [Lit.wf, IntKind.min, IntKind.max, IntKind.signed, IntKind.bits, Bool.and_eq_true, decide_eq_true_eq]
  simp
theorem wfu64 {n : Int} : (Lit.int .u64 n).wf = true ↔ 0 ≤ n ∧ n ≤ 18446744073709551615 := by
  simp only [Lit.wf, IntKind.min, IntKind.max, IntKind.signed, IntKind.bits, Bool.and_eq_true, decide_eq_true_eq]
  simp
theorem wf8 {n : Int} : (Lit.int .u8 n).wf = true ↔ 0 ≤ n ∧ n ≤ 255 := by
  simp only [Lit.wf, IntKind.min, IntKind.max, IntKind.signed, IntKind.bits, Bool.and_eq_true, decide_eq_true_eq]
  simp
theorem loopM_from {σ ε : Type} {step : σ → Option (Sum ε σ)} (S : Nat → σ) (n : Nat) (e : ε) (h : ∀ j, j < n → step (S j) = some (.inr (S (j + 1)))) (he : step (S n) = some (.inl e)) : ∀ k m, m ≤ n → n - m < k → loopM step k (S m) = some e
  | 0, m, _, hk => by omega
  | k + 1, m, hm, hk => by
    unfold loopM
    by_cases e1 : m = n
    · subst e1
      rw [he]
    · rw [h m (by omega)]
      exact loopM_from S n e h he k (m + 1) (by omega) (by omega)
theorem loopM_run {σ ε : Type} {step : σ → Option (Sum ε σ)} (S : Nat → σ) (n : Nat) {e : ε} {k : Nat} {s : σ} (hs : S 0 = s) (h : ∀ j, j < n → step (S j) = some (.inr (S (j + 1)))) (he : step (S n) = some (.inl e)) (hk : n < k) : loopM step k s = some e := by
  subst hs
  exact loopM_from S n e h he k 0 (by omega) (by omega)
theorem loopM_bad {σ ε : Type} {step : σ → Option (Sum ε σ)} (S : Nat → σ) (N : Nat) (good : Nat → Prop) {e : ε} {k : Nat} {s : σ} (hs : S 0 = s) (hex : ∃ j, j < N ∧ ¬ good j)
    (h : ∀ j, j < N → (∀ i, i < j → good i) → good j → step (S j) = some (.inr (S (j + 1)))) (hb : ∀ j, j < N → (∀ i, i < j → good i) → ¬ good j → step (S j) = some (.inl e)) (hk : N < k) : loopM step k s = some e := by
  have hmin : ∀ m j, j ≤ m → (j < N ∧ ¬ good j) → ∃ n, (n < N ∧ ¬ good n) ∧ ∀ i, i < n → good i := by
    intro m
    induction m with
    | zero =>
      intro j hj hjj
      exact ⟨j, hjj, fun i hi => by omega⟩
    | succ m ih =>
      intro j hj hjj
      by_cases hx : ∃ i, i < j ∧ ¬ good i
      · obtain ⟨i, hi, hgi⟩ := hx
        exact ih i (by omega) ⟨by omega, hgi⟩
      · exact ⟨j, hjj, fun i hi => Classical.byContradiction fun hg => hx ⟨i, hi, hg⟩⟩
  obtain ⟨j, hj⟩ := hex
  obtain ⟨n, ⟨hn, hg⟩, hall⟩ := hmin j j (Nat.le_refl _) hj
  exact loopM_run S n hs (fun i hi => h i (by omega) (fun q hq => hall q (by omega)) (hall i hi)) (hb n hn hall hg) (by omega)
end Go.Xw

/- rickyard/rickyardref02.Step: its model, and that the Go function computes it: written by gen.py. -/
set_option linter.unusedVariables false
namespace Go.Proofs.Ytjhajfkfhdnciaa
open Go Go.Xw
def rickyardref02_Step.f (fu : Nat) (a0 : Int) : Option Int := (if (decide ((Int.tmod a0 2) = 1)) = true then some ((bXor .u32 (IntKind.u32.wrap (Int.tdiv a0 2)) 2197175160)) else some ((IntKind.u32.wrap (Int.tdiv a0 2))))
set_option maxRecDepth 100000 in
set_option maxHeartbeats 400000 in
theorem rickyardref02_Step.ok (fu : Nat) (w : World) (a0 : Int) (r : Int) (h : rickyardref02_Step.f fu a0 = some r) :
    Calls Try.prog 146 (([.int .u32 a0] : List Value).toArray) w (fun e w' => ∃ v, e = .returned v ∧ v = .int .u32 r ∧ Gr w w') := by
  unfold rickyardref02_Step.f at h
  have fB : Gr w w := Fr.refl _ _
  refine calls_cw Try.func146 rfl Try.ntmps146 rfl ?_
  refine cw_seq ?_
  refine cw_region ?_
  refine ol_val (v := .int .u32 0) (by exact xr_assign rfl rfl) rfl rfl rfl ?_
  refine ol_nil ?_
  refine cw_seq ?_
  refine cw_seq ?_
  refine cw_region ?_
  refine ol_val (v := .int .u32 a0) (by exact xr_move rfl rfl) rfl rfl rfl ?_
  refine ol_val (v := .int .u32 (Int.tmod a0 2)) (by exact xr_rem rfl rfl rfl (by decide)) rfl rfl rfl ?_
  refine ol_val (v := .bool (decide ((Int.tmod a0 2) = 1))) (by exact xr_eqI rfl Try.underlying36 rfl rfl rfl) rfl rfl rfl ?_
  refine ol_nil ?_
  rcases is h with ⟨c1, h⟩ | ⟨c1, h⟩
  · refine cw_condT rfl c1 ?_
    refine cw_seq ?_
    refine cw_region ?_
    refine ol_val (v := .int .u32 a0) (by exact xr_move rfl rfl) rfl rfl rfl ?_
    refine ol_val (v := .int .u32 (IntKind.u32.wrap (Int.tdiv a0 2))) (by exact xr_quo rfl rfl rfl (by decide)) rfl rfl rfl ?_
    refine ol_val (v := .int .u32 (bXor .u32 (IntKind.u32.wrap (Int.tdiv a0 2)) 2197175160)) (by exact xr_xor rfl rfl rfl) rfl rfl rfl ?_
    refine ol_val (v := .int .u32 (bXor .u32 (IntKind.u32.wrap (Int.tdiv a0 2)) 2197175160)) (by exact xr_assign rfl rfl) rfl rfl rfl ?_
    refine ol_nil ?_
    refine cw_ret ?_
    repeat (first | with_reducible refine thn_r ?_ | with_reducible refine blk_r ?_)
    obtain rfl := Option.some.inj h
    refine fin_ret1 Try.results146 rfl ?_
    exact ⟨_, rfl, rfl, fB⟩
  · refine cw_condF rfl c1 ?_
    refine cw_skip ?_
    refine cw_seq ?_
    refine cw_region ?_
    refine ol_val (v := .int .u32 a0) (by exact xr_move rfl rfl) rfl rfl rfl ?_
    refine ol_val (v := .int .u32 (IntKind.u32.wrap (Int.tdiv a0 2))) (by exact xr_quo rfl rfl rfl (by decide)) rfl rfl rfl ?_
    refine ol_val (v := .int .u32 (IntKind.u32.wrap (Int.tdiv a0 2))) (by exact xr_assign rfl rfl) rfl rfl rfl ?_
    refine ol_nil ?_
    refine cw_ret ?_
    repeat (first | with_reducible refine thn_r ?_ | with_reducible refine blk_r ?_)
    obtain rfl := Option.some.inj h
    refine fin_ret1 Try.results146 rfl ?_
    exact ⟨_, rfl, rfl, fB⟩
end Go.Proofs.Ytjhajfkfhdnciaa

/- rickyard/rickyardref02.Steps: its model, and that the Go function computes it: written by gen.py. -/
set_option linter.unusedVariables false
namespace Go.Proofs.Ytjhajfkfhdnciaa
open Go Go.Xw
def rickyardref02_Steps.s0 (fu : Nat) (a1 : Int) : (Int × Int) → Option (Sum Int (Int × Int)) := fun s1 => (if (decide (s1.2 < a1)) = true then ((rickyardref02_Step.f fu s1.1 : Option Int).bind fun t9 => some (Sum.inr (t9, (IntKind.i64.wrap (s1.2 + 1))))) else some (Sum.inl (s1.1)))
def rickyardref02_Steps.f (fu : Nat) (a0 : Int) (a1 : Int) : Option Int := ((loopM (rickyardref02_Steps.s0 fu a1) fu (a0, 0)).bind fun e2 => some (e2))
set_option maxRecDepth 100000 in
set_option maxHeartbeats 400000 in
theorem rickyardref02_Steps.ok (fu : Nat) (w : World) (a0 : Int) (a1 : Int) (r : Int) (h : rickyardref02_Steps.f fu a0 a1 = some r) :
    Calls Try.prog 133 (([.int .u32 a0, .int .i64 a1] : List Value).toArray) w (fun e w' => ∃ v, e = .returned v ∧ v = .int .u32 r ∧ Gr w w') := by
  unfold rickyardref02_Steps.f at h
  have fB : Gr w w := Fr.refl _ _
  refine calls_cw Try.func133 rfl Try.ntmps133 rfl ?_
  refine cw_seq ?_
  refine cw_region ?_
  refine ol_val (v := .int .u32 0) (by exact xr_assign rfl rfl) rfl rfl rfl ?_
  refine ol_nil ?_
  refine cw_seq ?_
  refine cw_seq ?_
  refine cw_region ?_
  refine ol_val (v := .int .i64 0) (by exact xr_assign rfl rfl) rfl rfl rfl ?_
  refine ol_nil ?_
  obtain ⟨e2, l3, h4⟩ := bs h
  refine cw_mid (fun ρ' w' => ρ' 0 = .int .u32 e2 ∧ Gr w w') ?_ ?_
  · refine cw_block ?_
    refine cw_round (fun (s1 : Int × Int) ρ' w' => ρ' 0 = .int .u32 s1.1 ∧ ρ' 1 = .int .i64 a1 ∧ ρ' 5 = .int .i64 s1.2 ∧ Gr w w') l3 ?_ ?_
    · skip
      exact ⟨rfl, rfl, rfl, fB⟩
    · rintro s1 x7 ρ5 w6 ⟨e0, e1, e5, fB⟩ h
      unfold rickyardref02_Steps.s0 at h
      refine cw_seq ?_
      refine cw_seq ?_
      refine cw_region ?_
      refine ol_val (v := .int .i64 s1.2) (by exact xr_move rfl e5) rfl rfl rfl ?_
      refine ol_val (v := .int .i64 a1) (by exact xr_move rfl e1) rfl rfl rfl ?_
      refine ol_val (v := .bool (decide (s1.2 < a1))) (by exact xr_lss rfl rfl rfl) rfl rfl rfl ?_
      refine ol_nil ?_
      rcases is h with ⟨c8, h⟩ | ⟨c8, h⟩
      · refine cw_condT rfl c8 ?_
        refine cw_skip ?_
        refine cw_seq ?_
        refine cw_block ?_
        refine cw_region ?_
        refine ol_val (v := .int .u32 s1.1) (by exact xr_move rfl e0) rfl rfl rfl ?_
        obtain ⟨t9, k10, h⟩ := bs h
        refine ol_op (by exact opv_call rfl cal146 (ac rfl an) (rickyardref02_Step.ok fu _ s1.1 _ k10)) rfl rfl rfl ?_
        rintro _ w12 ⟨rfl, q11⟩
        have fB := fB.gr q11
        refine ol_val (v := .int .u32 t9) (by exact xr_assign rfl rfl) rfl rfl rfl ?_
        refine ol_nil ?_
        refine blk_i ?_
        refine cw_region ?_
        refine ol_val (v := .int .i64 s1.2) (by exact xr_move rfl e5) rfl rfl rfl ?_
        refine ol_val (v := .int .i64 (IntKind.i64.wrap (s1.2 + 1))) (by exact xr_add rfl rfl rfl) rfl rfl rfl ?_
        refine ol_val (v := .int .i64 (IntKind.i64.wrap (s1.2 + 1))) (by exact xr_assign rfl rfl) rfl rfl rfl ?_
        refine ol_nil ?_
        obtain rfl := Option.some.inj h
        refine lp_in ?_
        exact ⟨rfl, e1, rfl, fB⟩
      · refine cw_condF rfl c8 ?_
        refine cw_exit ?_
        repeat (first | with_reducible refine thn_e ?_ | with_reducible refine blk_e rfl ?_)
        obtain rfl := Option.some.inj h
        refine lp_exit ?_
        rintro rfl
        refine thn_x ?_
        exact ⟨e0, fB⟩
  · rintro ρ13 w14 ⟨e0, fB⟩
    have h := h4
    refine cw_seq ?_
    refine cw_region ?_
    refine ol_val (v := .int .u32 e2) (by exact xr_move rfl e0) rfl rfl rfl ?_
    refine ol_val (v := .int .u32 e2) (by exact xr_assign rfl rfl) rfl rfl rfl ?_
    refine ol_nil ?_
    refine cw_ret ?_
    repeat (first | with_reducible refine thn_r ?_ | with_reducible refine blk_r ?_)
    obtain rfl := Option.some.inj h
    refine fin_ret1 Try.results133 rfl ?_
    exact ⟨_, rfl, rfl, fB⟩
end Go.Proofs.Ytjhajfkfhdnciaa

/- rickyard/rickyardref02.Sum: its model, and that the Go function computes it: written by gen.py. -/
set_option linter.unusedVariables false
namespace Go.Proofs.Ytjhajfkfhdnciaa
open Go Go.Xw
def rickyardref02_Sum.s0 (fu : Nat) (a0 : List Int) : (Int × Int) → Option (Sum Int (Int × Int)) := fun s1 => (if (decide (s1.2 < (List.length a0 : Int))) = true then (if 0 ≤ s1.2 ∧ s1.2 < (List.length a0 : Int) then ((rickyardref02_Steps.f fu (bXor .u32 s1.1 (IntKind.u32.wrap (ix a0 s1.2))) 8 : Option Int).bind fun t10 => some (Sum.inr (t10, (IntKind.i64.wrap (s1.2 + 1))))) else none) else some (Sum.inl (s1.1)))
def rickyardref02_Sum.f (fu : Nat) (a0 : List Int) : Option Int := ((loopM (rickyardref02_Sum.s0 fu a0) fu (4294967295, 0)).bind fun e2 => some ((IntKind.u32.wrap (4294967295 - e2))))
set_option maxRecDepth 100000 in
set_option maxHeartbeats 400000 in
theorem rickyardref02_Sum.ok (fu : Nat) (w : World) (a0 : List Int) (V0_0 : Value) (R0_0 : Rd (kI .u8) w V0_0 a0) (r : Int) (h : rickyardref02_Sum.f fu a0 = some r) :
    Calls Try.prog 100 (([V0_0] : List Value).toArray) w (fun e w' => ∃ v, e = .returned v ∧ v = .int .u32 r ∧ Gr w w') := by
  unfold rickyardref02_Sum.f at h
  have fB : Gr w w := Fr.refl _ _
  refine calls_cw Try.func100 rfl Try.ntmps100 rfl ?_
  refine cw_seq ?_
  refine cw_region ?_
  refine ol_val (v := .int .u32 0) (by exact xr_assign rfl rfl) rfl rfl rfl ?_
  refine ol_nil ?_
  refine cw_seq ?_
  refine cw_region ?_
  refine ol_val (v := .int .u32 4294967295) (by exact xr_assign rfl rfl) rfl rfl rfl ?_
  refine ol_nil ?_
  refine cw_seq ?_
  refine cw_seq ?_
  refine cw_region ?_
  refine ol_val (v := .int .i64 0) (by exact xr_assign rfl rfl) rfl rfl rfl ?_
  refine ol_nil ?_
  obtain ⟨e2, l3, h4⟩ := bs h
  refine cw_mid (fun ρ' w' => ρ' 3 = .int .u32 e2 ∧ Gr w w') ?_ ?_
  · refine cw_block ?_
    refine cw_round (fun (s1 : Int × Int) ρ' w' => ρ' 0 = V0_0 ∧ ρ' 3 = .int .u32 s1.1 ∧ ρ' 4 = .int .i64 s1.2 ∧ Gr w w') l3 ?_ ?_
    · skip
      exact ⟨rfl, rfl, rfl, fB⟩
    · rintro s1 x7 ρ5 w6 ⟨e0, e3, e4, fB⟩ h
      unfold rickyardref02_Sum.s0 at h
      refine cw_seq ?_
      refine cw_seq ?_
      refine cw_region ?_
      refine ol_val (v := .int .i64 s1.2) (by exact xr_move rfl e4) rfl rfl rfl ?_
      refine ol_val (v := V0_0) (by exact xr_move rfl e0) rfl rfl rfl ?_
      refine ol_val (v := .int .i64 (List.length a0 : Int)) (by exact xr_lenR rfl Try.underlying22 rfl (R0_0.gr fB)) rfl rfl rfl ?_
      refine ol_val (v := .bool (decide (s1.2 < (List.length a0 : Int)))) (by exact xr_lss rfl rfl rfl) rfl rfl rfl ?_
      refine ol_nil ?_
      rcases is h with ⟨c8, h⟩ | ⟨c8, h⟩
      · refine cw_condT rfl c8 ?_
        refine cw_skip ?_
        refine cw_seq ?_
        refine cw_block ?_
        refine cw_region ?_
        refine ol_val (v := .int .u32 s1.1) (by exact xr_move rfl e3) rfl rfl rfl ?_
        refine ol_val (v := V0_0) (by exact xr_move rfl e0) rfl rfl rfl ?_
        refine ol_val (v := .int .i64 s1.2) (by exact xr_move rfl e4) rfl rfl rfl ?_
        obtain ⟨g9, h⟩ := gs h
        refine ol_val (v := .pointer (some ⟨(sb V0_0), so V0_0 + Int.toNat s1.2 * 1, none⟩)) (by exact xr_indexR (K := (kI .u8)) (v := V0_0) rfl Try.underlying22 sz5 rfl (R0_0.gr fB) rfl g9.1 g9.2) rfl rfl rfl ?_
        refine ol_val (v := .int .u8 (ix a0 s1.2)) (by exact xr_load1 (v := .int .u8 (ix a0 s1.2)) rfl ag5 rfl ((R0_0.gr fB).elem g9.1 g9.2)) rfl rfl rfl ?_
        refine ol_val (v := .int .u32 (IntKind.u32.wrap (ix a0 s1.2))) (by exact xr_conv rfl Try.underlying5 Try.underlying36 rfl) rfl rfl rfl ?_
        refine ol_val (v := .int .u32 (bXor .u32 s1.1 (IntKind.u32.wrap (ix a0 s1.2)))) (by exact xr_xor rfl rfl rfl) rfl rfl rfl ?_
        obtain ⟨t10, k11, h⟩ := bs h
        refine ol_op (by exact opv_call rfl cal133 (ac rfl (ac rfl an)) (rickyardref02_Steps.ok fu _ (bXor .u32 s1.1 (IntKind.u32.wrap (ix a0 s1.2))) 8 _ k11)) rfl rfl rfl ?_
        rintro _ w13 ⟨rfl, q12⟩
        have fB := fB.gr q12
        refine ol_val (v := .int .u32 t10) (by exact xr_assign rfl rfl) rfl rfl rfl ?_
        refine ol_nil ?_
        refine blk_i ?_
        refine cw_region ?_
        refine ol_val (v := .int .i64 s1.2) (by exact xr_move rfl e4) rfl rfl rfl ?_
        refine ol_val (v := .int .i64 (IntKind.i64.wrap (s1.2 + 1))) (by exact xr_add rfl rfl rfl) rfl rfl rfl ?_
        refine ol_val (v := .int .i64 (IntKind.i64.wrap (s1.2 + 1))) (by exact xr_assign rfl rfl) rfl rfl rfl ?_
        refine ol_nil ?_
        obtain rfl := Option.some.inj h
        refine lp_in ?_
        exact ⟨e0, rfl, rfl, fB⟩
      · refine cw_condF rfl c8 ?_
        refine cw_exit ?_
        repeat (first | with_reducible refine thn_e ?_ | with_reducible refine blk_e rfl ?_)
        obtain rfl := Option.some.inj h
        refine lp_exit ?_
        rintro rfl
        refine thn_x ?_
        exact ⟨e3, fB⟩
  · rintro ρ14 w15 ⟨e3, fB⟩
    have h := h4
    refine cw_seq ?_
    refine cw_region ?_
    refine ol_val (v := .int .u32 e2) (by exact xr_move rfl e3) rfl rfl rfl ?_
    refine ol_val (v := .int .u32 (IntKind.u32.wrap (4294967295 - e2))) (by exact xr_sub rfl rfl rfl) rfl rfl rfl ?_
    refine ol_val (v := .int .u32 (IntKind.u32.wrap (4294967295 - e2))) (by exact xr_assign rfl rfl) rfl rfl rfl ?_
    refine ol_nil ?_
    refine cw_ret ?_
    repeat (first | with_reducible refine thn_r ?_ | with_reducible refine blk_r ?_)
    obtain rfl := Option.some.inj h
    refine fin_ret1 Try.results100 rfl ?_
    exact ⟨_, rfl, rfl, fB⟩
end Go.Proofs.Ytjhajfkfhdnciaa

/- Sums in plain words: steps of one bit over words of 32 bits; the program's halves of octets and the document's single steps tell the same. -/
set_option linter.unusedVariables false
set_option linter.unusedSimpArgs false
namespace Go.Proofs.Ytjhajfkfhdnciaa.Pure
open Go Go.Xw
def I32 (x : BitVec 32) : Int := (x.toNat : Int)
theorem I32_lt (x : BitVec 32) : 0 ≤ I32 x ∧ I32 x ≤ 4294967295 := by
  unfold I32
  have := x.isLt
  omega
theorem ofI (x : BitVec 32) : BitVec.ofInt 32 (I32 x) = x := by
  unfold I32
  rw [BitVec.ofInt_natCast, BitVec.ofNat_toNat, BitVec.setWidth_eq]
theorem I32_of {n : Int} (h0 : 0 ≤ n) (h1 : n ≤ 4294967295) : n = I32 (BitVec.ofNat 32 n.toNat) := by
  unfold I32
  rw [BitVec.toNat_ofNat, Nat.mod_eq_of_lt (by omega)]
  omega
theorem wI32 (x : BitVec 32) : IntKind.u32.wrap (I32 x) = I32 x := wu32 (I32_lt x).1 (I32_lt x).2
theorem bx32 (x y : BitVec 32) : bXor .u32 (I32 x) (I32 y) = I32 (x ^^^ y) := by
  unfold bXor
  show IntKind.u32.wrap (((BitVec.ofInt 32 (I32 x) ^^^ BitVec.ofInt 32 (I32 y)).toNat : Nat) : Int) = _
  rw [ofI, ofI]
  exact wI32 _
theorem ba32 (x y : BitVec 32) : bAnd .u32 (I32 x) (I32 y) = I32 (x &&& y) := by
  unfold bAnd
  show IntKind.u32.wrap (((BitVec.ofInt 32 (I32 x) &&& BitVec.ofInt 32 (I32 y)).toNat : Nat) : Int) = _
  rw [ofI, ofI]
  exact wI32 _
theorem sr32 (x : BitVec 32) (n : Nat) (hn : n ≤ 32) : shR .u32 (I32 x) (n : Int) = I32 (x >>> n) := by
  unfold shR I32
  rw [BitVec.toNat_ushiftRight, Nat.shiftRight_eq_div_pow]
  show Int.fdiv (x.toNat : Int) (2 ^ min ((n : Int).toNat) 32) = _
  rw [Int.toNat_natCast, Nat.min_eq_left hn, Int.fdiv_eq_ediv_of_nonneg _ (Int.le_of_lt (Int.pow_pos (by decide)))]
  simp
def poly : BitVec 32 := 2197175160#32
def stp (x : BitVec 32) : BitVec 32 := (x >>> 1) ^^^ (if x.getLsbD 0 then poly else 0#32)
theorem lsb_and (x : BitVec 32) : (I32 (x &&& 1#32) = 1) ↔ x.getLsbD 0 = true := by
  unfold I32
  rw [BitVec.toNat_and]
  show ((x.toNat &&& 1 : Nat) : Int) = 1 ↔ x.toNat.testBit 0 = true
  rw [Nat.and_one_is_mod, Nat.testBit_zero]
  simp
  omega
theorem step_eq (fu : Nat) (x : BitVec 32) : crc_step.f fu (I32 x) = some (I32 (stp x)) := by
  unfold crc_step.f stp
  have e1 : bAnd .u32 (I32 x) 1 = I32 (x &&& 1#32) := ba32 x 1#32
  have e2 : shR .u32 (I32 x) 1 = I32 (x >>> 1) := sr32 x 1 (by decide)
  have e3 : bXor .u32 (I32 (x >>> 1)) 2197175160 = I32 (x >>> 1 ^^^ poly) := bx32 (x >>> 1) poly
  rw [e1, e2, e3]
  by_cases h : x.getLsbD 0 = true
  · rw [if_pos (by simpa using (lsb_and x).2 h), if_pos h]
  · rw [if_neg (by simpa using fun e => h ((lsb_and x).1 e)), if_neg h]
    simp
theorem rstep_eq (fu : Nat) (x : BitVec 32) : rickyardref02_Step.f fu (I32 x) = some (I32 (stp x)) := by
  unfold rickyardref02_Step.f stp
  have hb := I32_lt x
  have e1 : Int.tmod (I32 x) 2 = I32 (x &&& 1#32) := by
    rw [Int.tmod_eq_emod_of_nonneg hb.1]
    unfold I32
    rw [BitVec.toNat_and]
    show ((x.toNat : Int)) % 2 = ((x.toNat &&& 1 : Nat) : Int)
    rw [Nat.and_one_is_mod]
    omega
  have e2 : Int.tdiv (I32 x) 2 = I32 (x >>> 1) := by
    rw [Int.tdiv_eq_ediv_of_nonneg hb.1]
    unfold I32
    rw [BitVec.toNat_ushiftRight, Nat.shiftRight_eq_div_pow]
    omega
  have e3 : bXor .u32 (I32 (x >>> 1)) 2197175160 = I32 (x >>> 1 ^^^ poly) := bx32 (x >>> 1) poly
  rw [e1, e2, wI32, e3]
  by_cases h : x.getLsbD 0 = true
  · rw [if_pos (by simpa using (lsb_and x).2 h), if_pos h]
  · rw [if_neg (by simpa using fun e => h ((lsb_and x).1 e)), if_neg h]
    simp
theorem xor4 (a b p q : BitVec 32) : (a ^^^ b) ^^^ (p ^^^ q) = (a ^^^ p) ^^^ (b ^^^ q) := by
  rw [BitVec.xor_assoc, ← BitVec.xor_assoc b, BitVec.xor_comm b p, BitVec.xor_assoc p, ← BitVec.xor_assoc]
theorem sel_xor (a b : Bool) (p : BitVec 32) : (if (a ^^ b) = true then p else 0#32) = (if a = true then p else 0#32) ^^^ (if b = true then p else 0#32) := by
  cases a <;> cases b <;> simp
theorem stp_xor (x y : BitVec 32) : stp (x ^^^ y) = stp x ^^^ stp y := by
  unfold stp
  rw [BitVec.ushiftRight_xor_distrib, BitVec.getLsbD_xor, sel_xor, xor4]
def stps : Nat → BitVec 32 → BitVec 32
  | 0, x => x
  | n + 1, x => stps n (stp x)
theorem stps_xor : ∀ (n : Nat) (x y : BitVec 32), stps n (x ^^^ y) = stps n x ^^^ stps n y
  | 0, x, y => rfl
  | n + 1, x, y => by
    unfold stps
    rw [stp_xor, stps_xor n]
theorem stps_add (m : Nat) : ∀ (n : Nat) (x : BitVec 32), stps (n + m) x = stps m (stps n x)
  | 0, x => by simp [stps]
  | n + 1, x => by
    rw [Nat.add_right_comm]
    show stps (n + m) (stp x) = stps m (stps n (stp x))
    exact stps_add m n (stp x)
theorem stps_succ (n : Nat) (x : BitVec 32) : stps (n + 1) x = stp (stps n x) := stps_add 1 n x
theorem stp_even {x : BitVec 32} (h : x.getLsbD 0 = false) : stp x = x >>> 1 := by
  unfold stp
  rw [h]
  simp
theorem stps_high (x : BitVec 32) : ∀ n, (∀ j, j < n → x.getLsbD j = false) → stps n x = x >>> n
  | 0, _ => by simp [stps]
  | n + 1, h => by
    rw [stps_succ, stps_high x n fun j hj => h j (by omega)]
    rw [stp_even (by rw [BitVec.getLsbD_ushiftRight]; exact h (n + 0) (by omega)), ← BitVec.shiftRight_add]
theorem low_bit (n j : Nat) (hj : j < n) (hn : n ≤ 32) : (BitVec.ofNat 32 (2 ^ n - 1)).getLsbD j = true := by
  rw [BitVec.getLsbD_ofNat, Nat.testBit_two_pow_sub_one]
  simp
  omega
theorem high_bit (n j : Nat) (hj : n ≤ j) : (BitVec.ofNat 32 (2 ^ n - 1)).getLsbD j = false := by
  rw [BitVec.getLsbD_ofNat, Nat.testBit_two_pow_sub_one]
  simp
  omega
/-- n steps: what is above the lowest n bits moves down, the lowest n bits make the rest. -/
theorem stps_split (n : Nat) (hn : n ≤ 32) (x : BitVec 32) : stps n x = (x >>> n) ^^^ stps n (x &&& BitVec.ofNat 32 (2 ^ n - 1)) := by
  have e : x = (x &&& ~~~ BitVec.ofNat 32 (2 ^ n - 1)) ^^^ (x &&& BitVec.ofNat 32 (2 ^ n - 1)) := by
    apply BitVec.eq_of_getLsbD_eq
    intro i hi
    rw [BitVec.getLsbD_xor, BitVec.getLsbD_and, BitVec.getLsbD_and, BitVec.getLsbD_not]
    cases x.getLsbD i <;> cases (BitVec.ofNat 32 (2 ^ n - 1)).getLsbD i <;> simp [hi]
  conv => lhs; rw [e]
  rw [stps_xor, stps_high]
  · congr 1
    apply BitVec.eq_of_getLsbD_eq
    intro i hi
    rw [BitVec.getLsbD_ushiftRight, BitVec.getLsbD_ushiftRight, BitVec.getLsbD_and, BitVec.getLsbD_not, high_bit n (n + i) (by omega)]
    by_cases h : n + i < 32
    · simp [h]
    · have : x.getLsbD (n + i) = false := BitVec.getLsbD_of_ge _ _ (by omega)
      simp [this]
  · intro j hj
    rw [BitVec.getLsbD_and, BitVec.getLsbD_not, low_bit n j hj hn]
    simp
/-- Steps lose nothing. -/
theorem stp_inj0 {x : BitVec 32} (h : stp x = 0#32) : x = 0#32 := by
  unfold stp at h
  have hp : poly.getLsbD 31 = true := by decide
  have h31 : (stp x).getLsbD 31 = x.getLsbD 0 := by
    unfold stp
    rw [BitVec.getLsbD_xor, BitVec.getLsbD_ushiftRight, BitVec.getLsbD_of_ge x (1 + 31) (by omega)]
    cases x.getLsbD 0 <;> simp [hp]
  have h0 : x.getLsbD 0 = false := by
    rw [← h31]
    unfold stp
    rw [h]
    simp
  simp only [h0] at h
  apply BitVec.eq_of_getLsbD_eq
  intro i hi
  cases i with
  | zero => rw [h0]; simp
  | succ i =>
    have := congrArg (fun z => z.getLsbD i) h
    simp [BitVec.getLsbD_ushiftRight] at this
    rw [Nat.add_comm] at this
    simpa using this
theorem stps_inj0 : ∀ (n : Nat) {x : BitVec 32}, stps n x = 0#32 → x = 0#32
  | 0, x, h => h
  | n + 1, x, h => stp_inj0 (stps_inj0 n h)
def Bytes (l : List Int) : Prop := ∀ x ∈ l, 0 ≤ x ∧ x ≤ 255
def b32 (c : Int) : BitVec 32 := BitVec.ofNat 32 c.toNat
theorem b32_eq {c : Int} (h : 0 ≤ c ∧ c ≤ 255) : IntKind.u32.wrap c = I32 (b32 c) := by
  rw [wu32 h.1 (by omega)]
  exact I32_of h.1 (by omega)
def take8 (x : BitVec 32) (c : Int) : BitVec 32 := stps 8 (x ^^^ b32 c)
def regs (x : BitVec 32) (l : List Int) : BitVec 32 := l.foldl take8 x
def tabL : List Int := (List.range 16).map fun i => I32 (stps 4 (BitVec.ofNat 32 i))
def tabA : Arr 16 Int := ⟨tabL, rfl⟩
theorem table_at (n : Nat) : crc_Table.f (n + 20) = some tabA := by kernel_rfl
theorem table_eq {fu : Nat} (h : 20 ≤ fu) : crc_Table.f fu = some tabA := by
  obtain ⟨n, rfl⟩ : ∃ n, fu = n + 20 := ⟨fu - 20, by omega⟩
  exact table_at n
theorem tab_get : ∀ i : Fin 16, Arr.get tabA ((i : Nat) : Int) = I32 (stps 4 (BitVec.ofNat 32 (i : Nat))) := by decide +kernel
theorem nib (x : BitVec 32) : bXor .u32 (shR .u32 (I32 x) 4) (Arr.get tabA (bAnd .u32 (I32 x) 15)) = I32 (stps 4 x) := by
  have e1 : bAnd .u32 (I32 x) 15 = I32 (x &&& 15#32) := ba32 x 15#32
  have e2 : shR .u32 (I32 x) 4 = I32 (x >>> 4) := sr32 x 4 (by decide)
  have hlt : (x &&& 15#32).toNat < 16 := by
    rw [BitVec.toNat_and]
    exact Nat.lt_of_le_of_lt Nat.and_le_right (by decide)
  have e3 : Arr.get tabA (I32 (x &&& 15#32)) = I32 (stps 4 (x &&& 15#32)) := by
    have := tab_get ⟨(x &&& 15#32).toNat, hlt⟩
    simp only [BitVec.ofNat_toNat, BitVec.setWidth_eq] at this
    exact this
  rw [e1, e2, e3, bx32]
  exact congrArg I32 (stps_split 4 (by decide) x).symm
theorem nib_in (x : BitVec 32) : 0 ≤ bAnd .u32 (I32 x) 15 ∧ bAnd .u32 (I32 x) 15 < 16 := by
  have e1 : bAnd .u32 (I32 x) 15 = I32 (x &&& 15#32) := ba32 x 15#32
  have hlt : (x &&& 15#32).toNat < 16 := by
    rw [BitVec.toNat_and]
    exact Nat.lt_of_le_of_lt Nat.and_le_right (by decide)
  rw [e1]
  unfold I32
  omega
theorem ix_nat {α : Type} [Inhabited α] {l : List α} {j : Nat} (h : j < l.length) : ix l (j : Int) = l[j] := by
  simp [ix, List.getD_eq_getElem?_getD, List.getElem?_eq_getElem h]
theorem take_next {α : Type} {l : List α} {j : Nat} (h : j < l.length) : l.take (j + 1) = l.take j ++ [l[j]] := by
  rw [List.take_add_one, List.getElem?_eq_getElem h]
  rfl
theorem reg_eq {fu : Nat} {x : BitVec 32} {l : List Int} (hb : Bytes l) (hl : l.length ≤ 9000000000000000000) (hf : l.length < fu) : crc_register.f fu tabA (I32 x) l = some (I32 (regs x l)) := by
  unfold crc_register.f
  have : loopM (crc_register.s0 fu tabA l) fu (I32 x, 0) = some (I32 (regs x l)) := by
    refine loopM_run (S := fun j => (I32 (regs x (l.take j)), (j : Int))) l.length (by simp [regs]) ?_ ?_ hf
    · intro j hj
      unfold crc_register.s0
      have h1 : (j : Int) < (l.length : Int) := by omega
      have w3 : IntKind.i64.wrap ((j : Int) + 1) = ((j + 1 : Nat) : Int) := by rw [w64 (by omega) (by omega)]; omega
      have hc := hb _ (List.getElem_mem hj)
      have e1 : bXor .u32 (I32 (regs x (l.take j))) (IntKind.u32.wrap (ix l (j : Int))) = I32 (regs x (l.take j) ^^^ b32 l[j]) := by
        rw [ix_nat hj, b32_eq hc, bx32]
      have e2 : regs x (l.take (j + 1)) = stps 4 (stps 4 (regs x (l.take j) ^^^ b32 l[j])) := by
        rw [take_next hj]
        unfold regs
        rw [List.foldl_append]
        exact stps_add 4 4 _
      simp only [h1, decide_true, if_true, e1, nib, w3, e2]
      rw [if_pos ⟨by omega, trivial⟩, if_pos (nib_in _), if_pos (nib_in _)]
    · unfold crc_register.s0
      simp
  rw [this]
  rfl
def ones : BitVec 32 := 4294967295#32
def crc (l : List Int) : BitVec 32 := regs ones l ^^^ ones
theorem regs_append (x : BitVec 32) (a b : List Int) : regs x (a ++ b) = regs (regs x a) b := by
  unfold regs
  rw [List.foldl_append]
theorem sum_eq {fu : Nat} {l : List Int} (hb : Bytes l) (hl : l.length ≤ 9000000000000000000) (hf : l.length + 20 < fu) : crc_Sum.f fu [l] = some (I32 (crc l)) := by
  unfold crc_Sum.f
  rw [table_eq (by omega)]
  have : loopM (crc_Sum.s0 fu [l] tabA) fu (4294967295, 0) = some (I32 (regs ones l)) := by
    refine loopM_run (S := fun j => (if j = 0 then I32 ones else I32 (regs ones l), (j : Int))) 1 rfl ?_ ?_ (by omega)
    · intro j hj
      obtain rfl : j = 0 := by omega
      unfold crc_Sum.s0
      have e0 : ix [l] ((0 : Nat) : Int) = l := rfl
      have w3 : IntKind.i64.wrap (((0 : Nat) : Int) + 1) = ((0 + 1 : Nat) : Int) := by decide
      simp only [e0, w3, if_true, reg_eq hb hl (by omega : l.length < fu)]
      simp
    · unfold crc_Sum.s0
      simp
  simp only [Option.bind_some]
  rw [this]
  simp only [Option.bind_some]
  exact congrArg some (bx32 _ ones)
theorem rsteps_eq {fu : Nat} {x : BitVec 32} (hf : 8 < fu) : rickyardref02_Steps.f fu (I32 x) 8 = some (I32 (stps 8 x)) := by
  unfold rickyardref02_Steps.f
  have : loopM (rickyardref02_Steps.s0 fu 8) fu (I32 x, 0) = some (I32 (stps 8 x)) := by
    refine loopM_run (S := fun j => (I32 (stps j x), (j : Int))) 8 rfl ?_ ?_ hf
    · intro j hj
      unfold rickyardref02_Steps.s0
      have h1 : (j : Int) < 8 := by omega
      have w3 : IntKind.i64.wrap ((j : Int) + 1) = ((j + 1 : Nat) : Int) := by rw [w64 (by omega) (by omega)]; omega
      simp only [h1, decide_true, if_true, rstep_eq, w3, stps_succ]
      rfl
    · unfold rickyardref02_Steps.s0
      simp
  rw [this]
  rfl
theorem rsum_eq {fu : Nat} {l : List Int} (hb : Bytes l) (hl : l.length ≤ 9000000000000000000) (hf : l.length + 20 < fu) : rickyardref02_Sum.f fu l = some (I32 (crc l)) := by
  unfold rickyardref02_Sum.f
  have : loopM (rickyardref02_Sum.s0 fu l) fu (4294967295, 0) = some (I32 (regs ones l)) := by
    refine loopM_run (S := fun j => (I32 (regs ones (l.take j)), (j : Int))) l.length (by simp [regs]; rfl) ?_ ?_ (by omega)
    · intro j hj
      unfold rickyardref02_Sum.s0
      have h1 : (j : Int) < (l.length : Int) := by omega
      have w3 : IntKind.i64.wrap ((j : Int) + 1) = ((j + 1 : Nat) : Int) := by rw [w64 (by omega) (by omega)]; omega
      have hc := hb _ (List.getElem_mem hj)
      have e1 : bXor .u32 (I32 (regs ones (l.take j))) (IntKind.u32.wrap (ix l (j : Int))) = I32 (regs ones (l.take j) ^^^ b32 l[j]) := by
        rw [ix_nat hj, b32_eq hc, bx32]
      have e2 : regs ones (l.take (j + 1)) = stps 8 (regs ones (l.take j) ^^^ b32 l[j]) := by
        rw [take_next hj]
        unfold regs
        rw [List.foldl_append]
        rfl
      simp only [h1, decide_true, if_true, e1, w3, e2, rsteps_eq (by omega : 8 < fu)]
      rw [if_pos ⟨by omega, trivial⟩]
      rfl
    · unfold rickyardref02_Sum.s0
      simp
  rw [this]
  have e : IntKind.u32.wrap (4294967295 - I32 (regs ones l)) = I32 (crc l) := by
    have hlt := (regs ones l).isLt
    have h2 : (crc l).toNat = 4294967295 - (regs ones l).toNat := by
      unfold crc
      have : regs ones l ^^^ ones = ~~~ (regs ones l) := by
        apply BitVec.eq_of_getLsbD_eq
        intro i hi
        have ho : ones.getLsbD i = true := by
          have := low_bit 32 i hi (by decide)
          exact this
        rw [BitVec.getLsbD_xor, BitVec.getLsbD_not, ho]
        simp [hi]
      rw [this, BitVec.toNat_not]
    unfold I32
    rw [h2, wu32 (by omega) (by omega)]
    omega
  simp only [Option.bind_some, e]
end Go.Proofs.Ytjhajfkfhdnciaa.Pure

/- rickyard/rickyardref01.Octet: its model, and that the Go function computes it: written by gen.py. -/
set_option linter.unusedVariables false
namespace Go.Proofs.Ytjhajfkfhdnciaa
open Go Go.Xw
def rickyardref01_Octet.s0 (fu : Nat) (a1 : Int) : (Int × Int) → Option (Sum Int (Int × Int)) := fun s1 => (if (decide (s1.2 < a1)) = true then some (Sum.inr ((IntKind.u64.wrap (Int.tdiv s1.1 256)), (IntKind.i64.wrap (s1.2 + 1)))) else some (Sum.inl (s1.1)))
def rickyardref01_Octet.f (fu : Nat) (a0 : Int) (a1 : Int) : Option Int := ((loopM (rickyardref01_Octet.s0 fu a1) fu (a0, 0)).bind fun e2 => some ((IntKind.u8.wrap (Int.tmod e2 256))))
set_option maxRecDepth 100000 in
set_option maxHeartbeats 400000 in
theorem rickyardref01_Octet.ok (fu : Nat) (w : World) (a0 : Int) (a1 : Int) (r : Int) (h : rickyardref01_Octet.f fu a0 a1 = some r) :
    Calls Try.prog 132 (([.int .u64 a0, .int .i64 a1] : List Value).toArray) w (fun e w' => ∃ v, e = .returned v ∧ v = .int .u8 r ∧ Gr w w') := by
  unfold rickyardref01_Octet.f at h
  have fB : Gr w w := Fr.refl _ _
  refine calls_cw Try.func132 rfl Try.ntmps132 rfl ?_
  refine cw_seq ?_
  refine cw_region ?_
  refine ol_val (v := .int .u8 0) (by exact xr_assign rfl rfl) rfl rfl rfl ?_
  refine ol_nil ?_
  refine cw_seq ?_
  refine cw_seq ?_
  refine cw_region ?_
  refine ol_val (v := .int .i64 0) (by exact xr_assign rfl rfl) rfl rfl rfl ?_
  refine ol_nil ?_
  obtain ⟨e2, l3, h4⟩ := bs h
  refine cw_mid (fun ρ' w' => ρ' 0 = .int .u64 e2 ∧ Gr w w') ?_ ?_
  · refine cw_block ?_
    refine cw_round (fun (s1 : Int × Int) ρ' w' => ρ' 0 = .int .u64 s1.1 ∧ ρ' 1 = .int .i64 a1 ∧ ρ' 5 = .int .i64 s1.2 ∧ Gr w w') l3 ?_ ?_
    · skip
      exact ⟨rfl, rfl, rfl, fB⟩
    · rintro s1 x7 ρ5 w6 ⟨e0, e1, e5, fB⟩ h
      unfold rickyardref01_Octet.s0 at h
      refine cw_seq ?_
      refine cw_seq ?_
      refine cw_region ?_
      refine ol_val (v := .int .i64 s1.2) (by exact xr_move rfl e5) rfl rfl rfl ?_
      refine ol_val (v := .int .i64 a1) (by exact xr_move rfl e1) rfl rfl rfl ?_
      refine ol_val (v := .bool (decide (s1.2 < a1))) (by exact xr_lss rfl rfl rfl) rfl rfl rfl ?_
      refine ol_nil ?_
      rcases is h with ⟨c8, h⟩ | ⟨c8, h⟩
      · refine cw_condT rfl c8 ?_
        refine cw_skip ?_
        refine cw_seq ?_
        refine cw_block ?_
        refine cw_region ?_
        refine ol_val (v := .int .u64 s1.1) (by exact xr_move rfl e0) rfl rfl rfl ?_
        refine ol_val (v := .int .u64 (IntKind.u64.wrap (Int.tdiv s1.1 256))) (by exact xr_quo rfl rfl rfl (by decide)) rfl rfl rfl ?_
        refine ol_val (v := .int .u64 (IntKind.u64.wrap (Int.tdiv s1.1 256))) (by exact xr_assign rfl rfl) rfl rfl rfl ?_
        refine ol_nil ?_
        refine blk_i ?_
        refine cw_region ?_
        refine ol_val (v := .int .i64 s1.2) (by exact xr_move rfl e5) rfl rfl rfl ?_
        refine ol_val (v := .int .i64 (IntKind.i64.wrap (s1.2 + 1))) (by exact xr_add rfl rfl rfl) rfl rfl rfl ?_
        refine ol_val (v := .int .i64 (IntKind.i64.wrap (s1.2 + 1))) (by exact xr_assign rfl rfl) rfl rfl rfl ?_
        refine ol_nil ?_
        obtain rfl := Option.some.inj h
        refine lp_in ?_
        exact ⟨rfl, e1, rfl, fB⟩
      · refine cw_condF rfl c8 ?_
        refine cw_exit ?_
        repeat (first | with_reducible refine thn_e ?_ | with_reducible refine blk_e rfl ?_)
        obtain rfl := Option.some.inj h
        refine lp_exit ?_
        rintro rfl
        refine thn_x ?_
        exact ⟨e0, fB⟩
  · rintro ρ9 w10 ⟨e0, fB⟩
    have h := h4
    refine cw_seq ?_
    refine cw_region ?_
    refine ol_val (v := .int .u64 e2) (by exact xr_move rfl e0) rfl rfl rfl ?_
    refine ol_val (v := .int .u64 (Int.tmod e2 256)) (by exact xr_rem rfl rfl rfl (by decide)) rfl rfl rfl ?_
    refine ol_val (v := .int .u8 (IntKind.u8.wrap (Int.tmod e2 256))) (by exact xr_conv rfl Try.underlying129 Try.underlying5 rfl) rfl rfl rfl ?_
    refine ol_val (v := .int .u8 (IntKind.u8.wrap (Int.tmod e2 256))) (by exact xr_assign rfl rfl) rfl rfl rfl ?_
    refine ol_nil ?_
    refine cw_ret ?_
    repeat (first | with_reducible refine thn_r ?_ | with_reducible refine blk_r ?_)
    obtain rfl := Option.some.inj h
    refine fin_ret1 Try.results132 rfl ?_
    exact ⟨_, rfl, rfl, fB⟩
end Go.Proofs.Ytjhajfkfhdnciaa

/- rickyard/rickyardref01.Lay: its model, and that the Go function computes it: written by gen.py. -/
set_option linter.unusedVariables false
namespace Go.Proofs.Ytjhajfkfhdnciaa
open Go Go.Xw
def rickyardref01_Lay.s0 (fu : Nat) (a0 : Int) (a1 : Int) : ((List UInt8) × Int) → Option (Sum (List UInt8) ((List UInt8) × Int)) := fun s1 => (if (decide (s1.2 < a1)) = true then ((rickyardref01_Octet.f fu a0 s1.2 : Option Int).bind fun t9 => (if List.length s1.1 + List.length (List.map toB [t9]) ≤ LIM then some (Sum.inr ((s1.1 ++ (List.map toB [t9])), (IntKind.i64.wrap (s1.2 + 1)))) else none)) else some (Sum.inl (s1.1)))
def rickyardref01_Lay.f (fu : Nat) (a0 : Int) (a1 : Int) : Option (List UInt8) := ((loopM (rickyardref01_Lay.s0 fu a0 a1) fu ([], 0)).bind fun e2 => some (e2))
set_option maxRecDepth 100000 in
set_option maxHeartbeats 400000 in
theorem rickyardref01_Lay.ok (fu : Nat) (w : World) (a0 : Int) (a1 : Int) (r : (List UInt8)) (h : rickyardref01_Lay.f fu a0 a1 = some r) :
    Calls Try.prog 99 (([.int .u64 a0, .int .i64 a1] : List Value).toArray) w (fun e w' => ∃ v, e = .returned v ∧ v = sv r ∧ Gr w w') := by
  unfold rickyardref01_Lay.f at h
  have fB : Gr w w := Fr.refl _ _
  refine calls_cw Try.func99 rfl Try.ntmps99 rfl ?_
  refine cw_seq ?_
  refine cw_region ?_
  refine ol_val (v := sv []) (by exact xr_assign rfl rfl) rfl rfl rfl ?_
  refine ol_nil ?_
  refine cw_seq ?_
  refine cw_region ?_
  refine ol_val (v := sv []) (by exact xr_assign rfl rfl) rfl rfl rfl ?_
  refine ol_nil ?_
  refine cw_seq ?_
  refine cw_seq ?_
  refine cw_region ?_
  refine ol_val (v := .int .i64 0) (by exact xr_assign rfl rfl) rfl rfl rfl ?_
  refine ol_nil ?_
  obtain ⟨e2, l3, h4⟩ := bs h
  refine cw_mid (fun ρ' w' => ρ' 5 = sv e2 ∧ Gr w w') ?_ ?_
  · refine cw_block ?_
    refine cw_round (fun (s1 : (List UInt8) × Int) ρ' w' => ρ' 0 = .int .u64 a0 ∧ ρ' 1 = .int .i64 a1 ∧ ρ' 5 = sv s1.1 ∧ ρ' 6 = .int .i64 s1.2 ∧ Gr w w') l3 ?_ ?_
    · skip
      exact ⟨rfl, rfl, rfl, rfl, fB⟩
    · rintro s1 x7 ρ5 w6 ⟨e0, e1, e5, e6, fB⟩ h
      unfold rickyardref01_Lay.s0 at h
      refine cw_seq ?_
      refine cw_seq ?_
      refine cw_region ?_
      refine ol_val (v := .int .i64 s1.2) (by exact xr_move rfl e6) rfl rfl rfl ?_
      refine ol_val (v := .int .i64 a1) (by exact xr_move rfl e1) rfl rfl rfl ?_
      refine ol_val (v := .bool (decide (s1.2 < a1))) (by exact xr_lss rfl rfl rfl) rfl rfl rfl ?_
      refine ol_nil ?_
      rcases is h with ⟨c8, h⟩ | ⟨c8, h⟩
      · refine cw_condT rfl c8 ?_
        refine cw_skip ?_
        refine cw_seq ?_
        refine cw_block ?_
        refine cw_region ?_
        refine ol_val (v := sv s1.1) (by exact xr_move rfl e5) rfl rfl rfl ?_
        refine ol_val (v := .int .u64 a0) (by exact xr_move rfl e0) rfl rfl rfl ?_
        refine ol_val (v := .int .i64 s1.2) (by exact xr_move rfl e6) rfl rfl rfl ?_
        obtain ⟨t9, k10, h⟩ := bs h
        refine ol_op (by exact opv_call rfl cal132 (ac rfl (ac rfl an)) (rickyardref01_Octet.ok fu _ a0 s1.2 _ k10)) rfl rfl rfl ?_
        rintro _ w12 ⟨rfl, q11⟩
        have fB := fB.gr q11
        refine ol_op (by exact opv_buildSlice (K := (kI .u8)) (xs := [t9]) (vals := [.int .u8 t9]) rfl Try.underlying22 el5 rfl rfl ⟨rfl, rfl, trivial⟩ rfl rfl rfl fB.size) rfl rfl rfl ?_
        rintro v13 w18 ⟨o15, q14, z16⟩
        have fB := fB.gr q14
        refine ol_val (v := sv (List.map toB [t9])) (by exact xr_toStr rfl Try.underlying22 Try.underlying5 Try.underlying9 rfl o15.rd) rfl rfl rfl ?_
        obtain ⟨g19, h⟩ := gs h
        refine ol_val (v := sv (s1.1 ++ (List.map toB [t9]))) (by exact xr_addStr rfl rfl rfl g19) rfl rfl rfl ?_
        refine ol_val (v := sv (s1.1 ++ (List.map toB [t9]))) (by exact xr_assign rfl rfl) rfl rfl rfl ?_
        refine ol_nil ?_
        refine blk_i ?_
        refine cw_region ?_
        refine ol_val (v := .int .i64 s1.2) (by exact xr_move rfl e6) rfl rfl rfl ?_
        refine ol_val (v := .int .i64 (IntKind.i64.wrap (s1.2 + 1))) (by exact xr_add rfl rfl rfl) rfl rfl rfl ?_
        refine ol_val (v := .int .i64 (IntKind.i64.wrap (s1.2 + 1))) (by exact xr_assign rfl rfl) rfl rfl rfl ?_
        refine ol_nil ?_
        obtain rfl := Option.some.inj h
        refine lp_in ?_
        exact ⟨e0, e1, rfl, rfl, fB⟩
      · refine cw_condF rfl c8 ?_
        refine cw_exit ?_
        repeat (first | with_reducible refine thn_e ?_ | with_reducible refine blk_e rfl ?_)
        obtain rfl := Option.some.inj h
        refine lp_exit ?_
        rintro rfl
        refine thn_x ?_
        exact ⟨e5, fB⟩
  · rintro ρ20 w21 ⟨e5, fB⟩
    have h := h4
    refine cw_seq ?_
    refine cw_region ?_
    refine ol_val (v := sv e2) (by exact xr_move rfl e5) rfl rfl rfl ?_
    refine ol_val (v := sv e2) (by exact xr_assign rfl rfl) rfl rfl rfl ?_
    refine ol_nil ?_
    refine cw_ret ?_
    repeat (first | with_reducible refine thn_r ?_ | with_reducible refine blk_r ?_)
    obtain rfl := Option.some.inj h
    refine fin_ret1 Try.results99 rfl ?_
    exact ⟨_, rfl, rfl, fB⟩
end Go.Proofs.Ytjhajfkfhdnciaa
