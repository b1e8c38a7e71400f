/- RootPicks: texts merged, part 7 of 9. The last part proves that the law RootPicks holds for every input. -/
import Derived.Test.YtklhbaghbmndeaaPkRootPicks6
set_option linter.unusedVariables false
set_option linter.unusedSimpArgs false
namespace Go.Proofs.Ytklhbaghbmndeaa
open Go Go.Xw
def rickyardref13_Right.s2 (fu : Nat) (a0 : S_api_Super) (s98 : (List Int) × Int) : Int → Option (Sum (Sum (Sum (Sum Bool (List Int)) ((List Int) × Int)) Unit) Int) := fun s130 => (if (decide (s130 < s98.2)) = true then (if 0 ≤ s130 ∧ s130 < (List.length a0.Charts : Int) then (if 0 ≤ s98.2 ∧ s98.2 < (List.length a0.Charts : Int) then (if (decide ((ix a0.Charts s130) = (ix a0.Charts s98.2))) = true then some (Sum.inl (Sum.inl (Sum.inl (Sum.inl (false))))) else some (Sum.inr ((IntKind.i64.wrap (s130 + 1))))) else none) else none) else some (Sum.inl (Sum.inr ())))
def rickyardref13_Right.s1 (fu : Nat) (a0 : S_api_Super) : ((List Int) × Int) → Option (Sum (Sum Bool (List Int)) ((List Int) × Int)) := fun s98 => (if (decide (s98.2 < (List.length a0.Charts : Int))) = true then (if 0 ≤ s98.2 ∧ s98.2 < (List.length a0.Charts : Int) then (if List.length s98.1 + List.length [(ix a0.Charts s98.2)] ≤ LIM then ((loopM (rickyardref13_Right.s2 fu a0 s98) fu (0)).bind fun e131 => match e131 with | Sum.inl p => some p | Sum.inr x134 => some (Sum.inr ((s98.1 ++ [(ix a0.Charts s98.2)]), (IntKind.i64.wrap (s98.2 + 1))))) else none) else none) else some (Sum.inl (Sum.inr (s98.1))))
def rickyardref13_Right.s3 (fu : Nat) (a0 : S_api_Super) (x102 : (List Int)) : Int → Option (Sum (Sum Bool Unit) Int) := fun s149 => (if (decide (s149 < (List.length x102 : Int))) = true then (((if 0 ≤ s149 ∧ s149 < (List.length x102 : Int) then (if (decide ((ix x102 s149) < 2)) = true then some (true) else (if 0 ≤ s149 ∧ s149 < (List.length x102 : Int) then some ((decide ((ix x102 s149) ≥ a0.Tickets.Geometry.Blocks))) else none)) else none) : Option Bool).bind fun x158 => (if x158 = true then some (Sum.inl (Sum.inl (false))) else some (Sum.inr ((IntKind.i64.wrap (s149 + 1)))))) else some (Sum.inl (Sum.inr ())))
def rickyardref13_Right.f (fu : Nat) (a0 : S_api_Super) : Option Bool := (((if (decide (a0.Epoch < 1)) = true then some (true) else (if (decide (a0.Epoch > 4611686018427387904)) = true then some (true) else ((rickyardref12_Right.f fu a0.Tickets.Geometry : Option Bool).bind fun t11 => some ((!t11))))) : Option Bool).bind fun x7 => (if x7 = true then some (false) else (((if (decide (a0.Tickets.High < 0)) = true then some (true) else (if (decide (a0.Tickets.High > a0.Tickets.Geometry.Slots)) = true then some (true) else (if (decide (a0.Tickets.Free < 0)) = true then some (true) else (if (decide (a0.Tickets.Free > a0.Tickets.High)) = true then some (true) else ((rickyardref12_Charts.f fu a0.Tickets.Geometry : Option Int).bind fun t37 => some ((!decide ((List.length a0.Charts : Int) = t37)))))))) : Option Bool).bind fun x19 => (if x19 = true then some (false) else (((if (decide (a0.Tickets.High = 0)) = true then (if (!decide (a0.Tickets.Top = 0)) = true then some (Sum.inl (false)) else some (Sum.inr ([]))) else (if List.length ([] : List Int) + List.length [a0.Tickets.Top] ≤ LIM then some (Sum.inr ((([] : List Int) ++ [a0.Tickets.Top]))) else none)) : Option (Sum Bool (List Int))).bind fun x47 => match x47 with | Sum.inl p => some p | Sum.inr x50 => (((if (!decide (a0.Dir = 0)) = true then (if List.length x50 + List.length [a0.Dir] ≤ LIM then some ((x50 ++ [a0.Dir])) else none) else some (x50)) : Option (List Int)).bind fun x73 => ((loopM (rickyardref13_Right.s1 fu a0) fu (x73, 0)).bind fun e99 => match e99 with | Sum.inl p => some p | Sum.inr x102 => ((loopM (rickyardref13_Right.s3 fu a0 x102) fu (0)).bind fun e150 => match e150 with | Sum.inl p => some p | Sum.inr x153 => some (true)))))))))
set_option maxRecDepth 100000 in
set_option maxHeartbeats 400000 in
theorem rickyardref13_Right.ok (fu : Nat) (w : World) (a0 : S_api_Super) (V0_0 : Value) (R0_0 : Rd (kI .i64) w V0_0 a0.Charts) (r : Bool) (h : rickyardref13_Right.f fu a0 = some r) :
  Calls Try.prog 75 (([aggV [Seg.cell (.int .i64 a0.Epoch), Seg.cell (.int .i64 a0.Tickets.Geometry.Blocks), Seg.cell (.int .i64 a0.Tickets.Geometry.Slots), Seg.cell (.int .i64 a0.Tickets.Geometry.Gens), Seg.cell (.int .i64 a0.Tickets.Top), Seg.cell (.int .i64 a0.Tickets.High), Seg.cell (.int .i64 a0.Tickets.Free), Seg.cell (.int .i64 a0.Dir), Seg.cell V0_0 R0_0.one]] : List Value).toArray) w (fun e w' => ∃ v, e = .returned v ∧ v = .bool r ∧ Gr w w') := by
 unfold rickyardref13_Right.f at h
 have fB : Gr w w := Fr.refl _ _
 refine calls_cw Try.func75 rfl Try.ntmps75 rfl ?_
 refine cw_seq ?_
 refine cw_region ?_
 refine ol_op (by exact opv_box (ss := [Seg.cell (.int .i64 a0.Epoch), Seg.cell (.int .i64 a0.Tickets.Geometry.Blocks), Seg.cell (.int .i64 a0.Tickets.Geometry.Slots), Seg.cell (.int .i64 a0.Tickets.Geometry.Gens), Seg.cell (.int .i64 a0.Tickets.Top), Seg.cell (.int .i64 a0.Tickets.High), Seg.cell (.int .i64 a0.Tickets.Free), Seg.cell (.int .i64 a0.Dir), Seg.cell V0_0 R0_0.one]) rfl rfl rfl) rfl rfl rfl ?_
 rintro _ w6 ⟨G1, rfl, b2, q3, z4⟩
 have z4 := Nat.le_trans fB.size z4
 have fB := fB.gr q3
 refine ol_val (v := .bool false) (by exact xr_assign rfl rfl) rfl rfl rfl ?_
 refine ol_nil ?_
 refine cw_seq ?_
 refine cw_seq ?_
 obtain ⟨x7, j8, h⟩ := bs h
 refine cw_mid (fun ρ' w' => ρ' 1 = .pointer (some ⟨G1, 0, none⟩) ∧ ρ' 21 = .bool x7 ∧ Gr w6 w') ?_ ?_
 ·skip
  refine cw_region ?_
  refine ol_val (v := .pointer (some ⟨G1, 0, none⟩)) (by exact xr_fieldAddr (p := 0) (q := 0) rfl fl110_0 rfl) rfl rfl rfl ?_
  refine ol_val (v := .int .i64 a0.Epoch) (by exact xr_load1 (v := .int .i64 a0.Epoch) rfl ag3 rfl (b2.seg 0 rfl rfl)) rfl rfl rfl ?_
  refine ol_val (v := .bool (decide (a0.Epoch < 1))) (by exact xr_lss rfl rfl rfl) rfl rfl rfl ?_
  refine ol_val (v := .bool (decide (a0.Epoch < 1))) (by exact xr_move rfl rfl) rfl rfl rfl ?_
  rcases is j8 with ⟨c9, j8⟩ | ⟨c9, j8⟩
  ·skip
   refine ol_gskip rfl rfl rfl rfl rfl c9 ?_
   refine ol_gskip rfl rfl rfl rfl rfl c9 ?_
   refine ol_gskip rfl rfl rfl rfl rfl c9 ?_
   refine ol_val (v := .bool true) (by exact xr_pickT rfl rfl c9 rfl) rfl rfl rfl ?_
   refine ol_val (v := .bool true) (by exact xr_move rfl rfl) rfl rfl rfl ?_
   refine ol_gskip rfl rfl rfl rfl rfl rfl ?_
   refine ol_gskip rfl rfl rfl rfl rfl rfl ?_
   refine ol_gskip rfl rfl rfl rfl rfl rfl ?_
   refine ol_gskip rfl rfl rfl rfl rfl rfl ?_
   refine ol_gskip rfl rfl rfl rfl rfl rfl ?_
   refine ol_val (v := .bool true) (by exact xr_pickT rfl rfl rfl rfl) rfl rfl rfl ?_
   refine ol_nil ?_
   obtain rfl := Option.some.inj j8
   refine thn_i ?_
   exact ⟨rfl, rfl, Fr.refl _ _⟩
  refine ol_gval (v := .pointer (some ⟨G1, 0, none⟩)) (by exact xr_fieldAddr (p := 0) (q := 0) rfl fl110_0 rfl) rfl rfl rfl rfl rfl c9 ?_
  refine ol_gval (v := .int .i64 a0.Epoch) (by exact xr_load1 (v := .int .i64 a0.Epoch) rfl ag3 rfl (b2.seg 0 rfl rfl)) rfl rfl rfl rfl rfl c9 ?_
  refine ol_gval (v := .bool (decide (a0.Epoch > 4611686018427387904))) (by exact xr_gtr rfl rfl rfl) rfl rfl rfl rfl rfl c9 ?_
  refine ol_val (v := .bool (decide (a0.Epoch > 4611686018427387904))) (by exact xr_pickF rfl rfl c9 rfl) rfl rfl rfl ?_
  refine ol_val (v := .bool (decide (a0.Epoch > 4611686018427387904))) (by exact xr_move rfl rfl) rfl rfl rfl ?_
  rcases is j8 with ⟨c10, j8⟩ | ⟨c10, j8⟩
  ·skip
   refine ol_gskip rfl rfl rfl rfl rfl c10 ?_
   refine ol_gskip rfl rfl rfl rfl rfl c10 ?_
   refine ol_gskip rfl rfl rfl rfl rfl c10 ?_
   refine ol_gskip rfl rfl rfl rfl rfl c10 ?_
   refine ol_gskip rfl rfl rfl rfl rfl c10 ?_
   refine ol_val (v := .bool true) (by exact xr_pickT rfl rfl c10 rfl) rfl rfl rfl ?_
   refine ol_nil ?_
   obtain rfl := Option.some.inj j8
   refine thn_i ?_
   exact ⟨rfl, rfl, Fr.refl _ _⟩
  refine ol_gval (v := .pointer (some ⟨G1, 1, none⟩)) (by exact xr_fieldAddr (p := 0) (q := 1) rfl fl110_1 rfl) rfl rfl rfl rfl rfl c10 ?_
  refine ol_gval (v := .pointer (some ⟨G1, 1, none⟩)) (by exact xr_fieldAddr (p := 1) (q := 0) rfl fl108_0 rfl) rfl rfl rfl rfl rfl c10 ?_
  refine ol_gval (v := aggV [Seg.cell (.int .i64 a0.Tickets.Geometry.Blocks), Seg.cell (.int .i64 a0.Tickets.Geometry.Slots), Seg.cell (.int .i64 a0.Tickets.Geometry.Gens)]) (by exact xr_loadS (ss := [Seg.cell (.int .i64 a0.Tickets.Geometry.Blocks), Seg.cell (.int .i64 a0.Tickets.Geometry.Slots), Seg.cell (.int .i64 a0.Tickets.Geometry.Gens)]) rfl ag106 sz106 rfl rfl (b2.segs 1 3 rfl)) rfl rfl rfl rfl rfl c10 ?_
  obtain ⟨t11, k12, j8⟩ := bs j8
  refine ol_gop (by exact opv_call rfl cal115 (ac rfl an) (rickyardref12_Right.ok fu _ a0.Tickets.Geometry _ k12)) rfl rfl rfl rfl rfl c10 ?_
  rintro _ w14 ⟨rfl, q13⟩
  have b2 := b2.gr q13
  have fB := fB.gr q13
  refine ol_gval (v := .bool (!t11)) (by exact xr_not rfl rfl) rfl rfl rfl rfl rfl c10 ?_
  refine ol_val (v := .bool (!t11)) (by exact xr_pickF rfl rfl c10 rfl) rfl rfl rfl ?_
  refine ol_nil ?_
  obtain rfl := Option.some.inj j8
  refine thn_i ?_
  exact ⟨rfl, rfl, q13⟩
 rintro ρ15 w16 ⟨e1, e21, q17⟩
 have b2 := b2.gr q17
 have fB := fB.gr q17
 rcases is h with ⟨c18, h⟩ | ⟨c18, h⟩
 ·refine cw_condT e21 c18 ?_
  refine cw_seq ?_
  refine cw_region ?_
  refine ol_val (v := .bool false) (by exact xr_assign rfl rfl) rfl rfl rfl ?_
  refine ol_nil ?_
  refine cw_ret ?_
  repeat (first | with_reducible refine thn_r ?_ | with_reducible refine blk_r ?_)
  obtain rfl := Option.some.inj h
  refine fin_ret1 Try.results75 rfl ?_
  exact ⟨_, rfl, rfl, fB⟩
 refine cw_condF e21 c18 ?_
 refine cw_skip ?_
 refine cw_seq ?_
 refine cw_seq ?_
 obtain ⟨x19, j20, h⟩ := bs h
 refine cw_mid (fun ρ' w' => ρ' 1 = .pointer (some ⟨G1, 0, none⟩) ∧ ρ' 60 = .bool x19 ∧ Gr w16 w') ?_ ?_
 ·skip
  rcases is j20 with ⟨c21, j20⟩ | ⟨c21, j20⟩
  ·skip
   refine cw_drawL 38 [fun vz wz => vz = (.pointer (some ⟨G1, 1, none⟩) : Value), fun vz wz => vz = (.pointer (some ⟨G1, 5, none⟩) : Value), fun vz wz => vz = (.int .i64 a0.Tickets.High : Value), fun vz wz => vz = (.bool (decide (a0.Tickets.High < 0)) : Value), fun vz wz => vz = (.bool (decide (a0.Tickets.High < 0)) : Value), fun vz _ => vz = undef, fun vz _ => vz = undef, fun vz _ => vz = undef, fun vz _ => vz = undef, fun vz _ => vz = undef, fun vz _ => vz = undef, fun vz _ => vz = undef, fun vz _ => vz = undef, fun vz wz => vz = (.bool true : Value), fun vz wz => vz = (.bool true : Value), fun vz _ => vz = undef, fun vz _ => vz = undef, fun vz _ => vz = undef, fun vz _ => vz = undef, fun vz wz => vz = (.bool true : Value), fun vz wz => vz = (.bool true : Value), fun vz _ => vz = undef, fun vz _ => vz = undef, fun vz _ => vz = undef, fun vz _ => vz = undef, fun vz _ => vz = undef, fun vz _ => vz = undef, fun vz _ => vz = undef, fun vz wz => vz = (.bool true : Value), fun vz wz => vz = (.bool true : Value), fun vz _ => vz = undef, fun vz _ => vz = undef, fun vz _ => vz = undef, fun vz _ => vz = undef, fun vz _ => vz = undef, fun vz _ => vz = undef, fun vz _ => vz = undef, fun vz _ => vz = undef] mo rfl ⟨fun _ _ _ h _ => h, fun _ _ _ h _ => h, fun _ _ _ h _ => h, fun _ _ _ h _ => h, fun _ _ _ h _ => h, fun _ _ _ h _ => h, fun _ _ _ h _ => h, fun _ _ _ h _ => h, fun _ _ _ h _ => h, fun _ _ _ h _ => h, fun _ _ _ h _ => h, fun _ _ _ h _ => h, fun _ _ _ h _ => h, fun _ _ _ h _ => h, fun _ _ _ h _ => h, fun _ _ _ h _ => h, fun _ _ _ h _ => h, fun _ _ _ h _ => h, fun _ _ _ h _ => h, fun _ _ _ h _ => h, fun _ _ _ h _ => h, fun _ _ _ h _ => h, fun _ _ _ h _ => h, fun _ _ _ h _ => h, fun _ _ _ h _ => h, fun _ _ _ h _ => h, fun _ _ _ h _ => h, fun _ _ _ h _ => h, fun _ _ _ h _ => h, fun _ _ _ h _ => h, fun _ _ _ h _ => h, fun _ _ _ h _ => h, fun _ _ _ h _ => h, fun _ _ _ h _ => h, fun _ _ _ h _ => h, fun _ _ _ h _ => h, fun _ _ _ h _ => h, fun _ _ _ h _ => h, trivial⟩ ?_ ?_
   ·refine ⟨?_, ?_, ?_, ?_, ?_, ?_, ?_, ?_, ?_, ?_, ?_, ?_, ?_, ?_, ?_, ?_, ?_, ?_, ?_, ?_, ?_, ?_, ?_, ?_, ?_, ?_, ?_, ?_, ?_, ?_, ?_, ?_, ?_, ?_, ?_, ?_, ?_, ?_, trivial⟩
    ·intro ρz wz hz hk hd
     exact sk_val (v := .pointer (some ⟨G1, 1, none⟩)) (by exact xr_fieldAddr (p := 0) (q := 1) rfl fl110_1 ((hk 1 rfl).trans e1)) rfl rfl
    ·intro ρz wz hz hk hd
     have d22 := hd 0 rfl 22 rfl
     exact sk_val (v := .pointer (some ⟨G1, 5, none⟩)) (by exact xr_fieldAddr (p := 1) (q := 4) rfl fl108_2 d22) rfl rfl
    ·intro ρz wz hz hk hd
     have d23 := hd 1 rfl 23 rfl
     exact sk_val (v := .int .i64 a0.Tickets.High) (by exact xr_load1 (v := .int .i64 a0.Tickets.High) rfl ag3 d23 ((b2.gr hz).seg 5 rfl rfl)) rfl rfl
    ·intro ρz wz hz hk hd
     have d24 := hd 2 rfl 24 rfl
     exact sk_val (v := .bool (decide (a0.Tickets.High < 0))) (by exact xr_lss rfl d24 rfl) rfl rfl
    ·intro ρz wz hz hk hd
     have d25 := hd 3 rfl 25 rfl
     exact sk_val (v := .bool (decide (a0.Tickets.High < 0))) (by exact xr_move rfl d25) rfl rfl
    ·intro ρz wz hz hk hd
     have d26 := hd 4 rfl 26 rfl
     exact sk_skip rfl rfl d26 c21 rfl
    ·intro ρz wz hz hk hd
     have d26 := hd 4 rfl 26 rfl
     exact sk_skip rfl rfl d26 c21 rfl
    ·intro ρz wz hz hk hd
     have d26 := hd 4 rfl 26 rfl
     exact sk_skip rfl rfl d26 c21 rfl
    ·intro ρz wz hz hk hd
     have d26 := hd 4 rfl 26 rfl
     exact sk_skip rfl rfl d26 c21 rfl
    ·intro ρz wz hz hk hd
     have d26 := hd 4 rfl 26 rfl
     exact sk_skip rfl rfl d26 c21 rfl
    ·intro ρz wz hz hk hd
     have d26 := hd 4 rfl 26 rfl
     exact sk_skip rfl rfl d26 c21 rfl
    ·intro ρz wz hz hk hd
     have d26 := hd 4 rfl 26 rfl
     exact sk_skip rfl rfl d26 c21 rfl
    ·intro ρz wz hz hk hd
     have d26 := hd 4 rfl 26 rfl
     exact sk_skip rfl rfl d26 c21 rfl
    ·intro ρz wz hz hk hd
     have d26 := hd 4 rfl 26 rfl
     exact sk_val (v := .bool true) (by exact xr_pickT rfl d26 c21 rfl) rfl rfl
    ·intro ρz wz hz hk hd
     have d35 := hd 13 rfl 35 rfl
     exact sk_val (v := .bool true) (by exact xr_move rfl d35) rfl rfl
    ·intro ρz wz hz hk hd
     have d36 := hd 14 rfl 36 rfl
     exact sk_skip rfl rfl d36 rfl rfl
    ·intro ρz wz hz hk hd
     have d36 := hd 14 rfl 36 rfl
     exact sk_skip rfl rfl d36 rfl rfl
    ·intro ρz wz hz hk hd
     have d36 := hd 14 rfl 36 rfl
     exact sk_skip rfl rfl d36 rfl rfl
    ·intro ρz wz hz hk hd
     have d36 := hd 14 rfl 36 rfl
     exact sk_skip rfl rfl d36 rfl rfl
    ·intro ρz wz hz hk hd
     have d36 := hd 14 rfl 36 rfl
     exact sk_val (v := .bool true) (by exact xr_pickT rfl d36 rfl rfl) rfl rfl
    ·intro ρz wz hz hk hd
     have d41 := hd 19 rfl 41 rfl
     exact sk_val (v := .bool true) (by exact xr_move rfl d41) rfl rfl
    ·intro ρz wz hz hk hd
     have d42 := hd 20 rfl 42 rfl
     exact sk_skip rfl rfl d42 rfl rfl
    ·intro ρz wz hz hk hd
     have d42 := hd 20 rfl 42 rfl
     exact sk_skip rfl rfl d42 rfl rfl
    ·intro ρz wz hz hk hd
     have d42 := hd 20 rfl 42 rfl
     exact sk_skip rfl rfl d42 rfl rfl
    ·intro ρz wz hz hk hd
     have d42 := hd 20 rfl 42 rfl
     exact sk_skip rfl rfl d42 rfl rfl
    ·intro ρz wz hz hk hd
     have d42 := hd 20 rfl 42 rfl
     exact sk_skip rfl rfl d42 rfl rfl
    ·intro ρz wz hz hk hd
     have d42 := hd 20 rfl 42 rfl
     exact sk_skip rfl rfl d42 rfl rfl
    ·intro ρz wz hz hk hd
     have d42 := hd 20 rfl 42 rfl
     exact sk_skip rfl rfl d42 rfl rfl
    ·intro ρz wz hz hk hd
     have d42 := hd 20 rfl 42 rfl
     exact sk_val (v := .bool true) (by exact xr_pickT rfl d42 rfl rfl) rfl rfl
    ·intro ρz wz hz hk hd
     have d50 := hd 28 rfl 50 rfl
     exact sk_val (v := .bool true) (by exact xr_move rfl d50) rfl rfl
    ·intro ρz wz hz hk hd
     have d51 := hd 29 rfl 51 rfl
     exact sk_skip rfl rfl d51 rfl rfl
    ·intro ρz wz hz hk hd
     have d51 := hd 29 rfl 51 rfl
     exact sk_skip rfl rfl d51 rfl rfl
    ·intro ρz wz hz hk hd
     have d51 := hd 29 rfl 51 rfl
     exact sk_skip rfl rfl d51 rfl rfl
    ·intro ρz wz hz hk hd
     have d51 := hd 29 rfl 51 rfl
     exact sk_skip rfl rfl d51 rfl rfl
    ·intro ρz wz hz hk hd
     have d51 := hd 29 rfl 51 rfl
     exact sk_skip rfl rfl d51 rfl rfl
    ·intro ρz wz hz hk hd
     have d51 := hd 29 rfl 51 rfl
     exact sk_skip rfl rfl d51 rfl rfl
    ·intro ρz wz hz hk hd
     have d51 := hd 29 rfl 51 rfl
     exact sk_skip rfl rfl d51 rfl rfl
    intro ρz wz hz hk hd
    have d51 := hd 29 rfl 51 rfl
    exact sk_skip rfl rfl d51 rfl rfl
   intro ρ22 w23 q24 hk hd
   have e1 := (hk 1 rfl).trans e1
   have e51 := hd 29 rfl 51 rfl
   have b2 := b2.gr q24
   have fB := fB.gr q24
   refine ol_val (v := .bool true) (by exact xr_pickT rfl e51 rfl rfl) rfl rfl rfl ?_
   refine ol_nil ?_
   obtain rfl := Option.some.inj j20
   refine thn_i ?_
   exact ⟨e1, rfl, q24⟩
  rcases is j20 with ⟨c25, j20⟩ | ⟨c25, j20⟩
  ·skip
   refine cw_drawL 38 [fun vz wz => vz = (.pointer (some ⟨G1, 1, none⟩) : Value), fun vz wz => vz = (.pointer (some ⟨G1, 5, none⟩) : Value), fun vz wz => vz = (.int .i64 a0.Tickets.High : Value), fun vz wz => vz = (.bool (decide (a0.Tickets.High < 0)) : Value), fun vz wz => vz = (.bool (decide (a0.Tickets.High < 0)) : Value), fun vz wz => vz = (.pointer (some ⟨G1, 1, none⟩) : Value), fun vz wz => vz = (.pointer (some ⟨G1, 5, none⟩) : Value), fun vz wz => vz = (.int .i64 a0.Tickets.High : Value), fun vz wz => vz = (.pointer (some ⟨G1, 1, none⟩) : Value), fun vz wz => vz = (.pointer (some ⟨G1, 1, none⟩) : Value), fun vz wz => vz = (.pointer (some ⟨G1, 2, none⟩) : Value), fun vz wz => vz = (.int .i64 a0.Tickets.Geometry.Slots : Value), fun vz wz => vz = (.bool (decide (a0.Tickets.High > a0.Tickets.Geometry.Slots)) : Value), fun vz wz => vz = (.bool (decide (a0.Tickets.High > a0.Tickets.Geometry.Slots)) : Value), fun vz wz => vz = (.bool (decide (a0.Tickets.High > a0.Tickets.Geometry.Slots)) : Value), fun vz _ => vz = undef, fun vz _ => vz = undef, fun vz _ => vz = undef, fun vz _ => vz = undef, fun vz wz => vz = (.bool true : Value), fun vz wz => vz = (.bool true : Value), fun vz _ => vz = undef, fun vz _ => vz = undef, fun vz _ => vz = undef, fun vz _ => vz = undef, fun vz _ => vz = undef, fun vz _ => vz = undef, fun vz _ => vz = undef, fun vz wz => vz = (.bool true : Value), fun vz wz => vz = (.bool true : Value), fun vz _ => vz = undef, fun vz _ => vz = undef, fun vz _ => vz = undef, fun vz _ => vz = undef, fun vz _ => vz = undef, fun vz _ => vz = undef, fun vz _ => vz = undef, fun vz _ => vz = undef] mo rfl ⟨fun _ _ _ h _ => h, fun _ _ _ h _ => h, fun _ _ _ h _ => h, fun _ _ _ h _ => h, fun _ _ _ h _ => h, fun _ _ _ h _ => h, fun _ _ _ h _ => h, fun _ _ _ h _ => h, fun _ _ _ h _ => h, fun _ _ _ h _ => h, fun _ _ _ h _ => h, fun _ _ _ h _ => h, fun _ _ _ h _ => h, fun _ _ _ h _ => h, fun _ _ _ h _ => h, fun _ _ _ h _ => h, fun _ _ _ h _ => h, fun _ _ _ h _ => h, fun _ _ _ h _ => h, fun _ _ _ h _ => h, fun _ _ _ h _ => h, fun _ _ _ h _ => h, fun _ _ _ h _ => h, fun _ _ _ h _ => h, fun _ _ _ h _ => h, fun _ _ _ h _ => h, fun _ _ _ h _ => h, fun _ _ _ h _ => h, fun _ _ _ h _ => h, fun _ _ _ h _ => h, fun _ _ _ h _ => h, fun _ _ _ h _ => h, fun _ _ _ h _ => h, fun _ _ _ h _ => h, fun _ _ _ h _ => h, fun _ _ _ h _ => h, fun _ _ _ h _ => h, fun _ _ _ h _ => h, trivial⟩ ?_ ?_
   ·refine ⟨?_, ?_, ?_, ?_, ?_, ?_, ?_, ?_, ?_, ?_, ?_, ?_, ?_, ?_, ?_, ?_, ?_, ?_, ?_, ?_, ?_, ?_, ?_, ?_, ?_, ?_, ?_, ?_, ?_, ?_, ?_, ?_, ?_, ?_, ?_, ?_, ?_, ?_, trivial⟩
    ·intro ρz wz hz hk hd
     exact sk_val (v := .pointer (some ⟨G1, 1, none⟩)) (by exact xr_fieldAddr (p := 0) (q := 1) rfl fl110_1 ((hk 1 rfl).trans e1)) rfl rfl
    ·intro ρz wz hz hk hd
     have d22 := hd 0 rfl 22 rfl
     exact sk_val (v := .pointer (some ⟨G1, 5, none⟩)) (by exact xr_fieldAddr (p := 1) (q := 4) rfl fl108_2 d22) rfl rfl
    ·intro ρz wz hz hk hd
     have d23 := hd 1 rfl 23 rfl
     exact sk_val (v := .int .i64 a0.Tickets.High) (by exact xr_load1 (v := .int .i64 a0.Tickets.High) rfl ag3 d23 ((b2.gr hz).seg 5 rfl rfl)) rfl rfl
    ·intro ρz wz hz hk hd
     have d24 := hd 2 rfl 24 rfl
     exact sk_val (v := .bool (decide (a0.Tickets.High < 0))) (by exact xr_lss rfl d24 rfl) rfl rfl
    ·intro ρz wz hz hk hd
     have d25 := hd 3 rfl 25 rfl
     exact sk_val (v := .bool (decide (a0.Tickets.High < 0))) (by exact xr_move rfl d25) rfl rfl
    ·intro ρz wz hz hk hd
     have d26 := hd 4 rfl 26 rfl
     exact sk_gval (v := .pointer (some ⟨G1, 1, none⟩)) (by exact xr_fieldAddr (p := 0) (q := 1) rfl fl110_1 ((hk 1 rfl).trans e1)) rfl rfl d26 c21 rfl
    ·intro ρz wz hz hk hd
     have d27 := hd 5 rfl 27 rfl
     have d26 := hd 4 rfl 26 rfl
     exact sk_gval (v := .pointer (some ⟨G1, 5, none⟩)) (by exact xr_fieldAddr (p := 1) (q := 4) rfl fl108_2 d27) rfl rfl d26 c21 rfl
    ·intro ρz wz hz hk hd
     have d28 := hd 6 rfl 28 rfl
     have d26 := hd 4 rfl 26 rfl
     exact sk_gval (v := .int .i64 a0.Tickets.High) (by exact xr_load1 (v := .int .i64 a0.Tickets.High) rfl ag3 d28 ((b2.gr hz).seg 5 rfl rfl)) rfl rfl d26 c21 rfl
    ·intro ρz wz hz hk hd
     have d26 := hd 4 rfl 26 rfl
     exact sk_gval (v := .pointer (some ⟨G1, 1, none⟩)) (by exact xr_fieldAddr (p := 0) (q := 1) rfl fl110_1 ((hk 1 rfl).trans e1)) rfl rfl d26 c21 rfl
    ·intro ρz wz hz hk hd
     have d30 := hd 8 rfl 30 rfl
     have d26 := hd 4 rfl 26 rfl
     exact sk_gval (v := .pointer (some ⟨G1, 1, none⟩)) (by exact xr_fieldAddr (p := 1) (q := 0) rfl fl108_0 d30) rfl rfl d26 c21 rfl
    ·intro ρz wz hz hk hd
     have d31 := hd 9 rfl 31 rfl
     have d26 := hd 4 rfl 26 rfl
     exact sk_gval (v := .pointer (some ⟨G1, 2, none⟩)) (by exact xr_fieldAddr (p := 1) (q := 1) rfl fl106_1 d31) rfl rfl d26 c21 rfl
    ·intro ρz wz hz hk hd
     have d32 := hd 10 rfl 32 rfl
     have d26 := hd 4 rfl 26 rfl
     exact sk_gval (v := .int .i64 a0.Tickets.Geometry.Slots) (by exact xr_load1 (v := .int .i64 a0.Tickets.Geometry.Slots) rfl ag3 d32 ((b2.gr hz).seg 2 rfl rfl)) rfl rfl d26 c21 rfl
    ·intro ρz wz hz hk hd
     have d29 := hd 7 rfl 29 rfl
     have d33 := hd 11 rfl 33 rfl
     have d26 := hd 4 rfl 26 rfl
     exact sk_gval (by exact xr_gtr rfl d29 d33) rfl rfl d26 c21 rfl
    ·intro ρz wz hz hk hd
     have d26 := hd 4 rfl 26 rfl
     have d34 := hd 12 rfl 34 rfl
     exact sk_val (by exact xr_pickF rfl d26 c21 d34) rfl rfl
    ·intro ρz wz hz hk hd
     have d35 := hd 13 rfl 35 rfl
     exact sk_val (by exact xr_move rfl d35) rfl rfl
    ·intro ρz wz hz hk hd
     have d36 := hd 14 rfl 36 rfl
     exact sk_skip rfl rfl d36 c25 rfl
    ·intro ρz wz hz hk hd
     have d36 := hd 14 rfl 36 rfl
     exact sk_skip rfl rfl d36 c25 rfl
    ·intro ρz wz hz hk hd
     have d36 := hd 14 rfl 36 rfl
     exact sk_skip rfl rfl d36 c25 rfl
    ·intro ρz wz hz hk hd
     have d36 := hd 14 rfl 36 rfl
     exact sk_skip rfl rfl d36 c25 rfl
    ·intro ρz wz hz hk hd
     have d36 := hd 14 rfl 36 rfl
     exact sk_val (v := .bool true) (by exact xr_pickT rfl d36 c25 rfl) rfl rfl
    ·intro ρz wz hz hk hd
     have d41 := hd 19 rfl 41 rfl
     exact sk_val (v := .bool true) (by exact xr_move rfl d41) rfl rfl
    ·intro ρz wz hz hk hd
     have d42 := hd 20 rfl 42 rfl
     exact sk_skip rfl rfl d42 rfl rfl
    ·intro ρz wz hz hk hd
     have d42 := hd 20 rfl 42 rfl
     exact sk_skip rfl rfl d42 rfl rfl
    ·intro ρz wz hz hk hd
     have d42 := hd 20 rfl 42 rfl
     exact sk_skip rfl rfl d42 rfl rfl
    ·intro ρz wz hz hk hd
     have d42 := hd 20 rfl 42 rfl
     exact sk_skip rfl rfl d42 rfl rfl
    ·intro ρz wz hz hk hd
     have d42 := hd 20 rfl 42 rfl
     exact sk_skip rfl rfl d42 rfl rfl
    ·intro ρz wz hz hk hd
     have d42 := hd 20 rfl 42 rfl
     exact sk_skip rfl rfl d42 rfl rfl
    ·intro ρz wz hz hk hd
     have d42 := hd 20 rfl 42 rfl
     exact sk_skip rfl rfl d42 rfl rfl
    ·intro ρz wz hz hk hd
     have d42 := hd 20 rfl 42 rfl
     exact sk_val (v := .bool true) (by exact xr_pickT rfl d42 rfl rfl) rfl rfl
    ·intro ρz wz hz hk hd
     have d50 := hd 28 rfl 50 rfl
     exact sk_val (v := .bool true) (by exact xr_move rfl d50) rfl rfl
    ·intro ρz wz hz hk hd
     have d51 := hd 29 rfl 51 rfl
     exact sk_skip rfl rfl d51 rfl rfl
    ·intro ρz wz hz hk hd
     have d51 := hd 29 rfl 51 rfl
     exact sk_skip rfl rfl d51 rfl rfl
    ·intro ρz wz hz hk hd
     have d51 := hd 29 rfl 51 rfl
     exact sk_skip rfl rfl d51 rfl rfl
    ·intro ρz wz hz hk hd
     have d51 := hd 29 rfl 51 rfl
     exact sk_skip rfl rfl d51 rfl rfl
    ·intro ρz wz hz hk hd
     have d51 := hd 29 rfl 51 rfl
     exact sk_skip rfl rfl d51 rfl rfl
    ·intro ρz wz hz hk hd
     have d51 := hd 29 rfl 51 rfl
     exact sk_skip rfl rfl d51 rfl rfl
    ·intro ρz wz hz hk hd
     have d51 := hd 29 rfl 51 rfl
     exact sk_skip rfl rfl d51 rfl rfl
    intro ρz wz hz hk hd
    have d51 := hd 29 rfl 51 rfl
    exact sk_skip rfl rfl d51 rfl rfl
   intro ρ26 w27 q28 hk hd
   have e1 := (hk 1 rfl).trans e1
   have e51 := hd 29 rfl 51 rfl
   have b2 := b2.gr q28
   have fB := fB.gr q28
   refine ol_val (v := .bool true) (by exact xr_pickT rfl e51 rfl rfl) rfl rfl rfl ?_
   refine ol_nil ?_
   obtain rfl := Option.some.inj j20
   refine thn_i ?_
   exact ⟨e1, rfl, q28⟩
  rcases is j20 with ⟨c29, j20⟩ | ⟨c29, j20⟩
  ·skip
   refine cw_drawL 38 [fun vz wz => vz = (.pointer (some ⟨G1, 1, none⟩) : Value), fun vz wz => vz = (.pointer (some ⟨G1, 5, none⟩) : Value), fun vz wz => vz = (.int .i64 a0.Tickets.High : Value), fun vz wz => vz = (.bool (decide (a0.Tickets.High < 0)) : Value), fun vz wz => vz = (.bool (decide (a0.Tickets.High < 0)) : Value), fun vz wz => vz = (.pointer (some ⟨G1, 1, none⟩) : Value), fun vz wz => vz = (.pointer (some ⟨G1, 5, none⟩) : Value), fun vz wz => vz = (.int .i64 a0.Tickets.High : Value), fun vz wz => vz = (.pointer (some ⟨G1, 1, none⟩) : Value), fun vz wz => vz = (.pointer (some ⟨G1, 1, none⟩) : Value), fun vz wz => vz = (.pointer (some ⟨G1, 2, none⟩) : Value), fun vz wz => vz = (.int .i64 a0.Tickets.Geometry.Slots : Value), fun vz wz => vz = (.bool (decide (a0.Tickets.High > a0.Tickets.Geometry.Slots)) : Value), fun vz wz => vz = (.bool (decide (a0.Tickets.High > a0.Tickets.Geometry.Slots)) : Value), fun vz wz => vz = (.bool (decide (a0.Tickets.High > a0.Tickets.Geometry.Slots)) : Value), fun vz wz => vz = (.pointer (some ⟨G1, 1, none⟩) : Value), fun vz wz => vz = (.pointer (some ⟨G1, 6, none⟩) : Value), fun vz wz => vz = (.int .i64 a0.Tickets.Free : Value), fun vz wz => vz = (.bool (decide (a0.Tickets.Free < 0)) : Value), fun vz wz => vz = (.bool (decide (a0.Tickets.Free < 0)) : Value), fun vz wz => vz = (.bool (decide (a0.Tickets.Free < 0)) : Value), fun vz _ => vz = undef, fun vz _ => vz = undef, fun vz _ => vz = undef, fun vz _ => vz = undef, fun vz _ => vz = undef, fun vz _ => vz = undef, fun vz _ => vz = undef, fun vz wz => vz = (.bool true : Value), fun vz wz => vz = (.bool true : Value), fun vz _ => vz = undef, fun vz _ => vz = undef, fun vz _ => vz = undef, fun vz _ => vz = undef, fun vz _ => vz = undef, fun vz _ => vz = undef, fun vz _ => vz = undef, fun vz _ => vz = undef] mo rfl ⟨fun _ _ _ h _ => h, fun _ _ _ h _ => h, fun _ _ _ h _ => h, fun _ _ _ h _ => h, fun _ _ _ h _ => h, fun _ _ _ h _ => h, fun _ _ _ h _ => h, fun _ _ _ h _ => h, fun _ _ _ h _ => h, fun _ _ _ h _ => h, fun _ _ _ h _ => h, fun _ _ _ h _ => h, fun _ _ _ h _ => h, fun _ _ _ h _ => h, fun _ _ _ h _ => h, fun _ _ _ h _ => h, fun _ _ _ h _ => h, fun _ _ _ h _ => h, fun _ _ _ h _ => h, fun _ _ _ h _ => h, fun _ _ _ h _ => h, fun _ _ _ h _ => h, fun _ _ _ h _ => h, fun _ _ _ h _ => h, fun _ _ _ h _ => h, fun _ _ _ h _ => h, fun _ _ _ h _ => h, fun _ _ _ h _ => h, fun _ _ _ h _ => h, fun _ _ _ h _ => h, fun _ _ _ h _ => h, fun _ _ _ h _ => h, fun _ _ _ h _ => h, fun _ _ _ h _ => h, fun _ _ _ h _ => h, fun _ _ _ h _ => h, fun _ _ _ h _ => h, fun _ _ _ h _ => h, trivial⟩ ?_ ?_
   ·refine ⟨?_, ?_, ?_, ?_, ?_, ?_, ?_, ?_, ?_, ?_, ?_, ?_, ?_, ?_, ?_, ?_, ?_, ?_, ?_, ?_, ?_, ?_, ?_, ?_, ?_, ?_, ?_, ?_, ?_, ?_, ?_, ?_, ?_, ?_, ?_, ?_, ?_, ?_, trivial⟩
    ·intro ρz wz hz hk hd
     exact sk_val (v := .pointer (some ⟨G1, 1, none⟩)) (by exact xr_fieldAddr (p := 0) (q := 1) rfl fl110_1 ((hk 1 rfl).trans e1)) rfl rfl
    ·intro ρz wz hz hk hd
     have d22 := hd 0 rfl 22 rfl
     exact sk_val (v := .pointer (some ⟨G1, 5, none⟩)) (by exact xr_fieldAddr (p := 1) (q := 4) rfl fl108_2 d22) rfl rfl
    ·intro ρz wz hz hk hd
     have d23 := hd 1 rfl 23 rfl
     exact sk_val (v := .int .i64 a0.Tickets.High) (by exact xr_load1 (v := .int .i64 a0.Tickets.High) rfl ag3 d23 ((b2.gr hz).seg 5 rfl rfl)) rfl rfl
    ·intro ρz wz hz hk hd
     have d24 := hd 2 rfl 24 rfl
     exact sk_val (v := .bool (decide (a0.Tickets.High < 0))) (by exact xr_lss rfl d24 rfl) rfl rfl
    ·intro ρz wz hz hk hd
     have d25 := hd 3 rfl 25 rfl
     exact sk_val (v := .bool (decide (a0.Tickets.High < 0))) (by exact xr_move rfl d25) rfl rfl
    ·intro ρz wz hz hk hd
     have d26 := hd 4 rfl 26 rfl
     exact sk_gval (v := .pointer (some ⟨G1, 1, none⟩)) (by exact xr_fieldAddr (p := 0) (q := 1) rfl fl110_1 ((hk 1 rfl).trans e1)) rfl rfl d26 c21 rfl
    ·intro ρz wz hz hk hd
     have d27 := hd 5 rfl 27 rfl
     have d26 := hd 4 rfl 26 rfl
     exact sk_gval (v := .pointer (some ⟨G1, 5, none⟩)) (by exact xr_fieldAddr (p := 1) (q := 4) rfl fl108_2 d27) rfl rfl d26 c21 rfl
    ·intro ρz wz hz hk hd
     have d28 := hd 6 rfl 28 rfl
     have d26 := hd 4 rfl 26 rfl
     exact sk_gval (v := .int .i64 a0.Tickets.High) (by exact xr_load1 (v := .int .i64 a0.Tickets.High) rfl ag3 d28 ((b2.gr hz).seg 5 rfl rfl)) rfl rfl d26 c21 rfl
    ·intro ρz wz hz hk hd
     have d26 := hd 4 rfl 26 rfl
     exact sk_gval (v := .pointer (some ⟨G1, 1, none⟩)) (by exact xr_fieldAddr (p := 0) (q := 1) rfl fl110_1 ((hk 1 rfl).trans e1)) rfl rfl d26 c21 rfl
    ·intro ρz wz hz hk hd
     have d30 := hd 8 rfl 30 rfl
     have d26 := hd 4 rfl 26 rfl
     exact sk_gval (v := .pointer (some ⟨G1, 1, none⟩)) (by exact xr_fieldAddr (p := 1) (q := 0) rfl fl108_0 d30) rfl rfl d26 c21 rfl
    ·intro ρz wz hz hk hd
     have d31 := hd 9 rfl 31 rfl
     have d26 := hd 4 rfl 26 rfl
     exact sk_gval (v := .pointer (some ⟨G1, 2, none⟩)) (by exact xr_fieldAddr (p := 1) (q := 1) rfl fl106_1 d31) rfl rfl d26 c21 rfl
    ·intro ρz wz hz hk hd
     have d32 := hd 10 rfl 32 rfl
     have d26 := hd 4 rfl 26 rfl
     exact sk_gval (v := .int .i64 a0.Tickets.Geometry.Slots) (by exact xr_load1 (v := .int .i64 a0.Tickets.Geometry.Slots) rfl ag3 d32 ((b2.gr hz).seg 2 rfl rfl)) rfl rfl d26 c21 rfl
    ·intro ρz wz hz hk hd
     have d29 := hd 7 rfl 29 rfl
     have d33 := hd 11 rfl 33 rfl
     have d26 := hd 4 rfl 26 rfl
     exact sk_gval (by exact xr_gtr rfl d29 d33) rfl rfl d26 c21 rfl
    ·intro ρz wz hz hk hd
     have d26 := hd 4 rfl 26 rfl
     have d34 := hd 12 rfl 34 rfl
     exact sk_val (by exact xr_pickF rfl d26 c21 d34) rfl rfl
    ·intro ρz wz hz hk hd
     have d35 := hd 13 rfl 35 rfl
     exact sk_val (by exact xr_move rfl d35) rfl rfl
    ·intro ρz wz hz hk hd
     have d36 := hd 14 rfl 36 rfl
     exact sk_gval (v := .pointer (some ⟨G1, 1, none⟩)) (by exact xr_fieldAddr (p := 0) (q := 1) rfl fl110_1 ((hk 1 rfl).trans e1)) rfl rfl d36 c25 rfl
    ·intro ρz wz hz hk hd
     have d37 := hd 15 rfl 37 rfl
     have d36 := hd 14 rfl 36 rfl
     exact sk_gval (v := .pointer (some ⟨G1, 6, none⟩)) (by exact xr_fieldAddr (p := 1) (q := 5) rfl fl108_3 d37) rfl rfl d36 c25 rfl
    ·intro ρz wz hz hk hd
     have d38 := hd 16 rfl 38 rfl
     have d36 := hd 14 rfl 36 rfl
     exact sk_gval (v := .int .i64 a0.Tickets.Free) (by exact xr_load1 (v := .int .i64 a0.Tickets.Free) rfl ag3 d38 ((b2.gr hz).seg 6 rfl rfl)) rfl rfl d36 c25 rfl
    ·intro ρz wz hz hk hd
     have d39 := hd 17 rfl 39 rfl
     have d36 := hd 14 rfl 36 rfl
     exact sk_gval (v := .bool (decide (a0.Tickets.Free < 0))) (by exact xr_lss rfl d39 rfl) rfl rfl d36 c25 rfl
    ·intro ρz wz hz hk hd
     have d36 := hd 14 rfl 36 rfl
     have d40 := hd 18 rfl 40 rfl
     exact sk_val (v := .bool (decide (a0.Tickets.Free < 0))) (by exact xr_pickF rfl d36 c25 d40) rfl rfl
    ·intro ρz wz hz hk hd
     have d41 := hd 19 rfl 41 rfl
     exact sk_val (v := .bool (decide (a0.Tickets.Free < 0))) (by exact xr_move rfl d41) rfl rfl
    ·intro ρz wz hz hk hd
     have d42 := hd 20 rfl 42 rfl
     exact sk_skip rfl rfl d42 c29 rfl
    ·intro ρz wz hz hk hd
     have d42 := hd 20 rfl 42 rfl
     exact sk_skip rfl rfl d42 c29 rfl
    ·intro ρz wz hz hk hd
     have d42 := hd 20 rfl 42 rfl
     exact sk_skip rfl rfl d42 c29 rfl
    ·intro ρz wz hz hk hd
     have d42 := hd 20 rfl 42 rfl
     exact sk_skip rfl rfl d42 c29 rfl
    ·intro ρz wz hz hk hd
     have d42 := hd 20 rfl 42 rfl
     exact sk_skip rfl rfl d42 c29 rfl
    ·intro ρz wz hz hk hd
     have d42 := hd 20 rfl 42 rfl
     exact sk_skip rfl rfl d42 c29 rfl
    ·intro ρz wz hz hk hd
     have d42 := hd 20 rfl 42 rfl
     exact sk_skip rfl rfl d42 c29 rfl
    ·intro ρz wz hz hk hd
     have d42 := hd 20 rfl 42 rfl
     exact sk_val (v := .bool true) (by exact xr_pickT rfl d42 c29 rfl) rfl rfl
    ·intro ρz wz hz hk hd
     have d50 := hd 28 rfl 50 rfl
     exact sk_val (v := .bool true) (by exact xr_move rfl d50) rfl rfl
    ·intro ρz wz hz hk hd
     have d51 := hd 29 rfl 51 rfl
     exact sk_skip rfl rfl d51 rfl rfl
    ·intro ρz wz hz hk hd
     have d51 := hd 29 rfl 51 rfl
     exact sk_skip rfl rfl d51 rfl rfl
    ·intro ρz wz hz hk hd
     have d51 := hd 29 rfl 51 rfl
     exact sk_skip rfl rfl d51 rfl rfl
    ·intro ρz wz hz hk hd
     have d51 := hd 29 rfl 51 rfl
     exact sk_skip rfl rfl d51 rfl rfl
    ·intro ρz wz hz hk hd
     have d51 := hd 29 rfl 51 rfl
     exact sk_skip rfl rfl d51 rfl rfl
    ·intro ρz wz hz hk hd
     have d51 := hd 29 rfl 51 rfl
     exact sk_skip rfl rfl d51 rfl rfl
    ·intro ρz wz hz hk hd
     have d51 := hd 29 rfl 51 rfl
     exact sk_skip rfl rfl d51 rfl rfl
    intro ρz wz hz hk hd
    have d51 := hd 29 rfl 51 rfl
    exact sk_skip rfl rfl d51 rfl rfl
   intro ρ30 w31 q32 hk hd
   have e1 := (hk 1 rfl).trans e1
   have e51 := hd 29 rfl 51 rfl
   have b2 := b2.gr q32
   have fB := fB.gr q32
   refine ol_val (v := .bool true) (by exact xr_pickT rfl e51 rfl rfl) rfl rfl rfl ?_
   refine ol_nil ?_
   obtain rfl := Option.some.inj j20
   refine thn_i ?_
   exact ⟨e1, rfl, q32⟩
  rcases is j20 with ⟨c33, j20⟩ | ⟨c33, j20⟩
  ·skip
   refine cw_drawL 38 [fun vz wz => vz = (.pointer (some ⟨G1, 1, none⟩) : Value), fun vz wz => vz = (.pointer (some ⟨G1, 5, none⟩) : Value), fun vz wz => vz = (.int .i64 a0.Tickets.High : Value), fun vz wz => vz = (.bool (decide (a0.Tickets.High < 0)) : Value), fun vz wz => vz = (.bool (decide (a0.Tickets.High < 0)) : Value), fun vz wz => vz = (.pointer (some ⟨G1, 1, none⟩) : Value), fun vz wz => vz = (.pointer (some ⟨G1, 5, none⟩) : Value), fun vz wz => vz = (.int .i64 a0.Tickets.High : Value), fun vz wz => vz = (.pointer (some ⟨G1, 1, none⟩) : Value), fun vz wz => vz = (.pointer (some ⟨G1, 1, none⟩) : Value), fun vz wz => vz = (.pointer (some ⟨G1, 2, none⟩) : Value), fun vz wz => vz = (.int .i64 a0.Tickets.Geometry.Slots : Value), fun vz wz => vz = (.bool (decide (a0.Tickets.High > a0.Tickets.Geometry.Slots)) : Value), fun vz wz => vz = (.bool (decide (a0.Tickets.High > a0.Tickets.Geometry.Slots)) : Value), fun vz wz => vz = (.bool (decide (a0.Tickets.High > a0.Tickets.Geometry.Slots)) : Value), fun vz wz => vz = (.pointer (some ⟨G1, 1, none⟩) : Value), fun vz wz => vz = (.pointer (some ⟨G1, 6, none⟩) : Value), fun vz wz => vz = (.int .i64 a0.Tickets.Free : Value), fun vz wz => vz = (.bool (decide (a0.Tickets.Free < 0)) : Value), fun vz wz => vz = (.bool (decide (a0.Tickets.Free < 0)) : Value), fun vz wz => vz = (.bool (decide (a0.Tickets.Free < 0)) : Value), fun vz wz => vz = (.pointer (some ⟨G1, 1, none⟩) : Value), fun vz wz => vz = (.pointer (some ⟨G1, 6, none⟩) : Value), fun vz wz => vz = (.int .i64 a0.Tickets.Free : Value), fun vz wz => vz = (.pointer (some ⟨G1, 1, none⟩) : Value), fun vz wz => vz = (.pointer (some ⟨G1, 5, none⟩) : Value), fun vz wz => vz = (.int .i64 a0.Tickets.High : Value), fun vz wz => vz = (.bool (decide (a0.Tickets.Free > a0.Tickets.High)) : Value), fun vz wz => vz = (.bool (decide (a0.Tickets.Free > a0.Tickets.High)) : Value), fun vz wz => vz = (.bool (decide (a0.Tickets.Free > a0.Tickets.High)) : Value), fun vz _ => vz = undef, fun vz _ => vz = undef, fun vz _ => vz = undef, fun vz _ => vz = undef, fun vz _ => vz = undef, fun vz _ => vz = undef, fun vz _ => vz = undef, fun vz _ => vz = undef] mo rfl ⟨fun _ _ _ h _ => h, fun _ _ _ h _ => h, fun _ _ _ h _ => h, fun _ _ _ h _ => h, fun _ _ _ h _ => h, fun _ _ _ h _ => h, fun _ _ _ h _ => h, fun _ _ _ h _ => h, fun _ _ _ h _ => h, fun _ _ _ h _ => h, fun _ _ _ h _ => h, fun _ _ _ h _ => h, fun _ _ _ h _ => h, fun _ _ _ h _ => h, fun _ _ _ h _ => h, fun _ _ _ h _ => h, fun _ _ _ h _ => h, fun _ _ _ h _ => h, fun _ _ _ h _ => h, fun _ _ _ h _ => h, fun _ _ _ h _ => h, fun _ _ _ h _ => h, fun _ _ _ h _ => h, fun _ _ _ h _ => h, fun _ _ _ h _ => h, fun _ _ _ h _ => h, fun _ _ _ h _ => h, fun _ _ _ h _ => h, fun _ _ _ h _ => h, fun _ _ _ h _ => h, fun _ _ _ h _ => h, fun _ _ _ h _ => h, fun _ _ _ h _ => h, fun _ _ _ h _ => h, fun _ _ _ h _ => h, fun _ _ _ h _ => h, fun _ _ _ h _ => h, fun _ _ _ h _ => h, trivial⟩ ?_ ?_
   ·refine ⟨?_, ?_, ?_, ?_, ?_, ?_, ?_, ?_, ?_, ?_, ?_, ?_, ?_, ?_, ?_, ?_, ?_, ?_, ?_, ?_, ?_, ?_, ?_, ?_, ?_, ?_, ?_, ?_, ?_, ?_, ?_, ?_, ?_, ?_, ?_, ?_, ?_, ?_, trivial⟩
    ·intro ρz wz hz hk hd
     exact sk_val (v := .pointer (some ⟨G1, 1, none⟩)) (by exact xr_fieldAddr (p := 0) (q := 1) rfl fl110_1 ((hk 1 rfl).trans e1)) rfl rfl
    ·intro ρz wz hz hk hd
     have d22 := hd 0 rfl 22 rfl
     exact sk_val (v := .pointer (some ⟨G1, 5, none⟩)) (by exact xr_fieldAddr (p := 1) (q := 4) rfl fl108_2 d22) rfl rfl
    ·intro ρz wz hz hk hd
     have d23 := hd 1 rfl 23 rfl
     exact sk_val (v := .int .i64 a0.Tickets.High) (by exact xr_load1 (v := .int .i64 a0.Tickets.High) rfl ag3 d23 ((b2.gr hz).seg 5 rfl rfl)) rfl rfl
    ·intro ρz wz hz hk hd
     have d24 := hd 2 rfl 24 rfl
     exact sk_val (v := .bool (decide (a0.Tickets.High < 0))) (by exact xr_lss rfl d24 rfl) rfl rfl
    ·intro ρz wz hz hk hd
     have d25 := hd 3 rfl 25 rfl
     exact sk_val (v := .bool (decide (a0.Tickets.High < 0))) (by exact xr_move rfl d25) rfl rfl
    ·intro ρz wz hz hk hd
     have d26 := hd 4 rfl 26 rfl
     exact sk_gval (v := .pointer (some ⟨G1, 1, none⟩)) (by exact xr_fieldAddr (p := 0) (q := 1) rfl fl110_1 ((hk 1 rfl).trans e1)) rfl rfl d26 c21 rfl
    ·intro ρz wz hz hk hd
     have d27 := hd 5 rfl 27 rfl
     have d26 := hd 4 rfl 26 rfl
     exact sk_gval (v := .pointer (some ⟨G1, 5, none⟩)) (by exact xr_fieldAddr (p := 1) (q := 4) rfl fl108_2 d27) rfl rfl d26 c21 rfl
    ·intro ρz wz hz hk hd
     have d28 := hd 6 rfl 28 rfl
     have d26 := hd 4 rfl 26 rfl
     exact sk_gval (v := .int .i64 a0.Tickets.High) (by exact xr_load1 (v := .int .i64 a0.Tickets.High) rfl ag3 d28 ((b2.gr hz).seg 5 rfl rfl)) rfl rfl d26 c21 rfl
    ·intro ρz wz hz hk hd
     have d26 := hd 4 rfl 26 rfl
     exact sk_gval (v := .pointer (some ⟨G1, 1, none⟩)) (by exact xr_fieldAddr (p := 0) (q := 1) rfl fl110_1 ((hk 1 rfl).trans e1)) rfl rfl d26 c21 rfl
    ·intro ρz wz hz hk hd
     have d30 := hd 8 rfl 30 rfl
     have d26 := hd 4 rfl 26 rfl
     exact sk_gval (v := .pointer (some ⟨G1, 1, none⟩)) (by exact xr_fieldAddr (p := 1) (q := 0) rfl fl108_0 d30) rfl rfl d26 c21 rfl
    ·intro ρz wz hz hk hd
     have d31 := hd 9 rfl 31 rfl
     have d26 := hd 4 rfl 26 rfl
     exact sk_gval (v := .pointer (some ⟨G1, 2, none⟩)) (by exact xr_fieldAddr (p := 1) (q := 1) rfl fl106_1 d31) rfl rfl d26 c21 rfl
    ·intro ρz wz hz hk hd
     have d32 := hd 10 rfl 32 rfl
     have d26 := hd 4 rfl 26 rfl
     exact sk_gval (v := .int .i64 a0.Tickets.Geometry.Slots) (by exact xr_load1 (v := .int .i64 a0.Tickets.Geometry.Slots) rfl ag3 d32 ((b2.gr hz).seg 2 rfl rfl)) rfl rfl d26 c21 rfl
    ·intro ρz wz hz hk hd
     have d29 := hd 7 rfl 29 rfl
     have d33 := hd 11 rfl 33 rfl
     have d26 := hd 4 rfl 26 rfl
     exact sk_gval (by exact xr_gtr rfl d29 d33) rfl rfl d26 c21 rfl
    ·intro ρz wz hz hk hd
     have d26 := hd 4 rfl 26 rfl
     have d34 := hd 12 rfl 34 rfl
     exact sk_val (by exact xr_pickF rfl d26 c21 d34) rfl rfl
    ·intro ρz wz hz hk hd
     have d35 := hd 13 rfl 35 rfl
     exact sk_val (by exact xr_move rfl d35) rfl rfl
    ·intro ρz wz hz hk hd
     have d36 := hd 14 rfl 36 rfl
     exact sk_gval (v := .pointer (some ⟨G1, 1, none⟩)) (by exact xr_fieldAddr (p := 0) (q := 1) rfl fl110_1 ((hk 1 rfl).trans e1)) rfl rfl d36 c25 rfl
    ·intro ρz wz hz hk hd
     have d37 := hd 15 rfl 37 rfl
     have d36 := hd 14 rfl 36 rfl
     exact sk_gval (v := .pointer (some ⟨G1, 6, none⟩)) (by exact xr_fieldAddr (p := 1) (q := 5) rfl fl108_3 d37) rfl rfl d36 c25 rfl
    ·intro ρz wz hz hk hd
     have d38 := hd 16 rfl 38 rfl
     have d36 := hd 14 rfl 36 rfl
     exact sk_gval (v := .int .i64 a0.Tickets.Free) (by exact xr_load1 (v := .int .i64 a0.Tickets.Free) rfl ag3 d38 ((b2.gr hz).seg 6 rfl rfl)) rfl rfl d36 c25 rfl
    ·intro ρz wz hz hk hd
     have d39 := hd 17 rfl 39 rfl
     have d36 := hd 14 rfl 36 rfl
     exact sk_gval (v := .bool (decide (a0.Tickets.Free < 0))) (by exact xr_lss rfl d39 rfl) rfl rfl d36 c25 rfl
    ·intro ρz wz hz hk hd
     have d36 := hd 14 rfl 36 rfl
     have d40 := hd 18 rfl 40 rfl
     exact sk_val (v := .bool (decide (a0.Tickets.Free < 0))) (by exact xr_pickF rfl d36 c25 d40) rfl rfl
    ·intro ρz wz hz hk hd
     have d41 := hd 19 rfl 41 rfl
     exact sk_val (v := .bool (decide (a0.Tickets.Free < 0))) (by exact xr_move rfl d41) rfl rfl
    ·intro ρz wz hz hk hd
     have d42 := hd 20 rfl 42 rfl
     exact sk_gval (v := .pointer (some ⟨G1, 1, none⟩)) (by exact xr_fieldAddr (p := 0) (q := 1) rfl fl110_1 ((hk 1 rfl).trans e1)) rfl rfl d42 c29 rfl
    ·intro ρz wz hz hk hd
     have d43 := hd 21 rfl 43 rfl
     have d42 := hd 20 rfl 42 rfl
     exact sk_gval (v := .pointer (some ⟨G1, 6, none⟩)) (by exact xr_fieldAddr (p := 1) (q := 5) rfl fl108_3 d43) rfl rfl d42 c29 rfl
    ·intro ρz wz hz hk hd
     have d44 := hd 22 rfl 44 rfl
     have d42 := hd 20 rfl 42 rfl
     exact sk_gval (v := .int .i64 a0.Tickets.Free) (by exact xr_load1 (v := .int .i64 a0.Tickets.Free) rfl ag3 d44 ((b2.gr hz).seg 6 rfl rfl)) rfl rfl d42 c29 rfl
    ·intro ρz wz hz hk hd
     have d42 := hd 20 rfl 42 rfl
     exact sk_gval (v := .pointer (some ⟨G1, 1, none⟩)) (by exact xr_fieldAddr (p := 0) (q := 1) rfl fl110_1 ((hk 1 rfl).trans e1)) rfl rfl d42 c29 rfl
    ·intro ρz wz hz hk hd
     have d46 := hd 24 rfl 46 rfl
     have d42 := hd 20 rfl 42 rfl
     exact sk_gval (v := .pointer (some ⟨G1, 5, none⟩)) (by exact xr_fieldAddr (p := 1) (q := 4) rfl fl108_2 d46) rfl rfl d42 c29 rfl
    ·intro ρz wz hz hk hd
     have d47 := hd 25 rfl 47 rfl
     have d42 := hd 20 rfl 42 rfl
     exact sk_gval (v := .int .i64 a0.Tickets.High) (by exact xr_load1 (v := .int .i64 a0.Tickets.High) rfl ag3 d47 ((b2.gr hz).seg 5 rfl rfl)) rfl rfl d42 c29 rfl
    ·intro ρz wz hz hk hd
     have d45 := hd 23 rfl 45 rfl
     have d48 := hd 26 rfl 48 rfl
     have d42 := hd 20 rfl 42 rfl
     exact sk_gval (v := .bool (decide (a0.Tickets.Free > a0.Tickets.High))) (by exact xr_gtr rfl d45 d48) rfl rfl d42 c29 rfl
    ·intro ρz wz hz hk hd
     have d42 := hd 20 rfl 42 rfl
     have d49 := hd 27 rfl 49 rfl
     exact sk_val (v := .bool (decide (a0.Tickets.Free > a0.Tickets.High))) (by exact xr_pickF rfl d42 c29 d49) rfl rfl
    ·intro ρz wz hz hk hd
     have d50 := hd 28 rfl 50 rfl
     exact sk_val (v := .bool (decide (a0.Tickets.Free > a0.Tickets.High))) (by exact xr_move rfl d50) rfl rfl
    ·intro ρz wz hz hk hd
     have d51 := hd 29 rfl 51 rfl
     exact sk_skip rfl rfl d51 c33 rfl
    ·intro ρz wz hz hk hd
     have d51 := hd 29 rfl 51 rfl
     exact sk_skip rfl rfl d51 c33 rfl
    ·intro ρz wz hz hk hd
     have d51 := hd 29 rfl 51 rfl
     exact sk_skip rfl rfl d51 c33 rfl
    ·intro ρz wz hz hk hd
     have d51 := hd 29 rfl 51 rfl
     exact sk_skip rfl rfl d51 c33 rfl
    ·intro ρz wz hz hk hd
     have d51 := hd 29 rfl 51 rfl
     exact sk_skip rfl rfl d51 c33 rfl
    ·intro ρz wz hz hk hd
     have d51 := hd 29 rfl 51 rfl
     exact sk_skip rfl rfl d51 c33 rfl
    ·intro ρz wz hz hk hd
     have d51 := hd 29 rfl 51 rfl
     exact sk_skip rfl rfl d51 c33 rfl
    intro ρz wz hz hk hd
    have d51 := hd 29 rfl 51 rfl
    exact sk_skip rfl rfl d51 c33 rfl
   intro ρ34 w35 q36 hk hd
   have e1 := (hk 1 rfl).trans e1
   have e51 := hd 29 rfl 51 rfl
   have b2 := b2.gr q36
   have fB := fB.gr q36
   refine ol_val (v := .bool true) (by exact xr_pickT rfl e51 c33 rfl) rfl rfl rfl ?_
   refine ol_nil ?_
   obtain rfl := Option.some.inj j20
   refine thn_i ?_
   exact ⟨e1, rfl, q36⟩
  obtain ⟨t37, k38, j20⟩ := bs j20
  refine cw_drawL 38 [fun vz wz => vz = (.pointer (some ⟨G1, 1, none⟩) : Value), fun vz wz => vz = (.pointer (some ⟨G1, 5, none⟩) : Value), fun vz wz => vz = (.int .i64 a0.Tickets.High : Value), fun vz wz => vz = (.bool (decide (a0.Tickets.High < 0)) : Value), fun vz wz => vz = (.bool (decide (a0.Tickets.High < 0)) : Value), fun vz wz => vz = (.pointer (some ⟨G1, 1, none⟩) : Value), fun vz wz => vz = (.pointer (some ⟨G1, 5, none⟩) : Value), fun vz wz => vz = (.int .i64 a0.Tickets.High : Value), fun vz wz => vz = (.pointer (some ⟨G1, 1, none⟩) : Value), fun vz wz => vz = (.pointer (some ⟨G1, 1, none⟩) : Value), fun vz wz => vz = (.pointer (some ⟨G1, 2, none⟩) : Value), fun vz wz => vz = (.int .i64 a0.Tickets.Geometry.Slots : Value), fun vz wz => vz = (.bool (decide (a0.Tickets.High > a0.Tickets.Geometry.Slots)) : Value), fun vz wz => vz = (.bool (decide (a0.Tickets.High > a0.Tickets.Geometry.Slots)) : Value), fun vz wz => vz = (.bool (decide (a0.Tickets.High > a0.Tickets.Geometry.Slots)) : Value), fun vz wz => vz = (.pointer (some ⟨G1, 1, none⟩) : Value), fun vz wz => vz = (.pointer (some ⟨G1, 6, none⟩) : Value), fun vz wz => vz = (.int .i64 a0.Tickets.Free : Value), fun vz wz => vz = (.bool (decide (a0.Tickets.Free < 0)) : Value), fun vz wz => vz = (.bool (decide (a0.Tickets.Free < 0)) : Value), fun vz wz => vz = (.bool (decide (a0.Tickets.Free < 0)) : Value), fun vz wz => vz = (.pointer (some ⟨G1, 1, none⟩) : Value), fun vz wz => vz = (.pointer (some ⟨G1, 6, none⟩) : Value), fun vz wz => vz = (.int .i64 a0.Tickets.Free : Value), fun vz wz => vz = (.pointer (some ⟨G1, 1, none⟩) : Value), fun vz wz => vz = (.pointer (some ⟨G1, 5, none⟩) : Value), fun vz wz => vz = (.int .i64 a0.Tickets.High : Value), fun vz wz => vz = (.bool (decide (a0.Tickets.Free > a0.Tickets.High)) : Value), fun vz wz => vz = (.bool (decide (a0.Tickets.Free > a0.Tickets.High)) : Value), fun vz wz => vz = (.bool (decide (a0.Tickets.Free > a0.Tickets.High)) : Value), fun vz wz => vz = (.pointer (some ⟨G1, 8, none⟩) : Value), fun vz wz => vz = (V0_0 : Value), fun vz wz => vz = (.int .i64 (List.length a0.Charts : Int) : Value), fun vz wz => vz = (.pointer (some ⟨G1, 1, none⟩) : Value), fun vz wz => vz = (.pointer (some ⟨G1, 1, none⟩) : Value), fun vz wz => vz = (aggV [Seg.cell (.int .i64 a0.Tickets.Geometry.Blocks), Seg.cell (.int .i64 a0.Tickets.Geometry.Slots), Seg.cell (.int .i64 a0.Tickets.Geometry.Gens)] : Value), fun vz wz => vz = (.int .i64 t37 : Value), fun vz wz => vz = (.bool (!decide ((List.length a0.Charts : Int) = t37)) : Value)] mo rfl ⟨fun _ _ _ h _ => h, fun _ _ _ h _ => h, fun _ _ _ h _ => h, fun _ _ _ h _ => h, fun _ _ _ h _ => h, fun _ _ _ h _ => h, fun _ _ _ h _ => h, fun _ _ _ h _ => h, fun _ _ _ h _ => h, fun _ _ _ h _ => h, fun _ _ _ h _ => h, fun _ _ _ h _ => h, fun _ _ _ h _ => h, fun _ _ _ h _ => h, fun _ _ _ h _ => h, fun _ _ _ h _ => h, fun _ _ _ h _ => h, fun _ _ _ h _ => h, fun _ _ _ h _ => h, fun _ _ _ h _ => h, fun _ _ _ h _ => h, fun _ _ _ h _ => h, fun _ _ _ h _ => h, fun _ _ _ h _ => h, fun _ _ _ h _ => h, fun _ _ _ h _ => h, fun _ _ _ h _ => h, fun _ _ _ h _ => h, fun _ _ _ h _ => h, fun _ _ _ h _ => h, fun _ _ _ h _ => h, fun _ _ _ h _ => h, fun _ _ _ h _ => h, fun _ _ _ h _ => h, fun _ _ _ h _ => h, fun _ _ _ h _ => h, fun _ _ _ h _ => h, fun _ _ _ h _ => h, trivial⟩ ?_ ?_
  ·refine ⟨?_, ?_, ?_, ?_, ?_, ?_, ?_, ?_, ?_, ?_, ?_, ?_, ?_, ?_, ?_, ?_, ?_, ?_, ?_, ?_, ?_, ?_, ?_, ?_, ?_, ?_, ?_, ?_, ?_, ?_, ?_, ?_, ?_, ?_, ?_, ?_, ?_, ?_, trivial⟩
   ·intro ρz wz hz hk hd
    exact sk_val (v := .pointer (some ⟨G1, 1, none⟩)) (by exact xr_fieldAddr (p := 0) (q := 1) rfl fl110_1 ((hk 1 rfl).trans e1)) rfl rfl
   ·intro ρz wz hz hk hd
    have d22 := hd 0 rfl 22 rfl
    exact sk_val (v := .pointer (some ⟨G1, 5, none⟩)) (by exact xr_fieldAddr (p := 1) (q := 4) rfl fl108_2 d22) rfl rfl
   ·intro ρz wz hz hk hd
    have d23 := hd 1 rfl 23 rfl
    exact sk_val (v := .int .i64 a0.Tickets.High) (by exact xr_load1 (v := .int .i64 a0.Tickets.High) rfl ag3 d23 ((b2.gr hz).seg 5 rfl rfl)) rfl rfl
   ·intro ρz wz hz hk hd
    have d24 := hd 2 rfl 24 rfl
    exact sk_val (v := .bool (decide (a0.Tickets.High < 0))) (by exact xr_lss rfl d24 rfl) rfl rfl
   ·intro ρz wz hz hk hd
    have d25 := hd 3 rfl 25 rfl
    exact sk_val (v := .bool (decide (a0.Tickets.High < 0))) (by exact xr_move rfl d25) rfl rfl
   ·intro ρz wz hz hk hd
    have d26 := hd 4 rfl 26 rfl
    exact sk_gval (v := .pointer (some ⟨G1, 1, none⟩)) (by exact xr_fieldAddr (p := 0) (q := 1) rfl fl110_1 ((hk 1 rfl).trans e1)) rfl rfl d26 c21 rfl
   ·intro ρz wz hz hk hd
    have d27 := hd 5 rfl 27 rfl
    have d26 := hd 4 rfl 26 rfl
    exact sk_gval (v := .pointer (some ⟨G1, 5, none⟩)) (by exact xr_fieldAddr (p := 1) (q := 4) rfl fl108_2 d27) rfl rfl d26 c21 rfl
   ·intro ρz wz hz hk hd
    have d28 := hd 6 rfl 28 rfl
    have d26 := hd 4 rfl 26 rfl
    exact sk_gval (v := .int .i64 a0.Tickets.High) (by exact xr_load1 (v := .int .i64 a0.Tickets.High) rfl ag3 d28 ((b2.gr hz).seg 5 rfl rfl)) rfl rfl d26 c21 rfl
   ·intro ρz wz hz hk hd
    have d26 := hd 4 rfl 26 rfl
    exact sk_gval (v := .pointer (some ⟨G1, 1, none⟩)) (by exact xr_fieldAddr (p := 0) (q := 1) rfl fl110_1 ((hk 1 rfl).trans e1)) rfl rfl d26 c21 rfl
   ·intro ρz wz hz hk hd
    have d30 := hd 8 rfl 30 rfl
    have d26 := hd 4 rfl 26 rfl
    exact sk_gval (v := .pointer (some ⟨G1, 1, none⟩)) (by exact xr_fieldAddr (p := 1) (q := 0) rfl fl108_0 d30) rfl rfl d26 c21 rfl
   ·intro ρz wz hz hk hd
    have d31 := hd 9 rfl 31 rfl
    have d26 := hd 4 rfl 26 rfl
    exact sk_gval (v := .pointer (some ⟨G1, 2, none⟩)) (by exact xr_fieldAddr (p := 1) (q := 1) rfl fl106_1 d31) rfl rfl d26 c21 rfl
   ·intro ρz wz hz hk hd
    have d32 := hd 10 rfl 32 rfl
    have d26 := hd 4 rfl 26 rfl
    exact sk_gval (v := .int .i64 a0.Tickets.Geometry.Slots) (by exact xr_load1 (v := .int .i64 a0.Tickets.Geometry.Slots) rfl ag3 d32 ((b2.gr hz).seg 2 rfl rfl)) rfl rfl d26 c21 rfl
   ·intro ρz wz hz hk hd
    have d29 := hd 7 rfl 29 rfl
    have d33 := hd 11 rfl 33 rfl
    have d26 := hd 4 rfl 26 rfl
    exact sk_gval (by exact xr_gtr rfl d29 d33) rfl rfl d26 c21 rfl
   ·intro ρz wz hz hk hd
    have d26 := hd 4 rfl 26 rfl
    have d34 := hd 12 rfl 34 rfl
    exact sk_val (by exact xr_pickF rfl d26 c21 d34) rfl rfl
   ·intro ρz wz hz hk hd
    have d35 := hd 13 rfl 35 rfl
    exact sk_val (by exact xr_move rfl d35) rfl rfl
   ·intro ρz wz hz hk hd
    have d36 := hd 14 rfl 36 rfl
    exact sk_gval (v := .pointer (some ⟨G1, 1, none⟩)) (by exact xr_fieldAddr (p := 0) (q := 1) rfl fl110_1 ((hk 1 rfl).trans e1)) rfl rfl d36 c25 rfl
   ·intro ρz wz hz hk hd
    have d37 := hd 15 rfl 37 rfl
    have d36 := hd 14 rfl 36 rfl
    exact sk_gval (v := .pointer (some ⟨G1, 6, none⟩)) (by exact xr_fieldAddr (p := 1) (q := 5) rfl fl108_3 d37) rfl rfl d36 c25 rfl
   ·intro ρz wz hz hk hd
    have d38 := hd 16 rfl 38 rfl
    have d36 := hd 14 rfl 36 rfl
    exact sk_gval (v := .int .i64 a0.Tickets.Free) (by exact xr_load1 (v := .int .i64 a0.Tickets.Free) rfl ag3 d38 ((b2.gr hz).seg 6 rfl rfl)) rfl rfl d36 c25 rfl
   ·intro ρz wz hz hk hd
    have d39 := hd 17 rfl 39 rfl
    have d36 := hd 14 rfl 36 rfl
    exact sk_gval (v := .bool (decide (a0.Tickets.Free < 0))) (by exact xr_lss rfl d39 rfl) rfl rfl d36 c25 rfl
   ·intro ρz wz hz hk hd
    have d36 := hd 14 rfl 36 rfl
    have d40 := hd 18 rfl 40 rfl
    exact sk_val (v := .bool (decide (a0.Tickets.Free < 0))) (by exact xr_pickF rfl d36 c25 d40) rfl rfl
   ·intro ρz wz hz hk hd
    have d41 := hd 19 rfl 41 rfl
    exact sk_val (v := .bool (decide (a0.Tickets.Free < 0))) (by exact xr_move rfl d41) rfl rfl
   ·intro ρz wz hz hk hd
    have d42 := hd 20 rfl 42 rfl
    exact sk_gval (v := .pointer (some ⟨G1, 1, none⟩)) (by exact xr_fieldAddr (p := 0) (q := 1) rfl fl110_1 ((hk 1 rfl).trans e1)) rfl rfl d42 c29 rfl
   ·intro ρz wz hz hk hd
    have d43 := hd 21 rfl 43 rfl
    have d42 := hd 20 rfl 42 rfl
    exact sk_gval (v := .pointer (some ⟨G1, 6, none⟩)) (by exact xr_fieldAddr (p := 1) (q := 5) rfl fl108_3 d43) rfl rfl d42 c29 rfl
   ·intro ρz wz hz hk hd
    have d44 := hd 22 rfl 44 rfl
    have d42 := hd 20 rfl 42 rfl
    exact sk_gval (v := .int .i64 a0.Tickets.Free) (by exact xr_load1 (v := .int .i64 a0.Tickets.Free) rfl ag3 d44 ((b2.gr hz).seg 6 rfl rfl)) rfl rfl d42 c29 rfl
   ·intro ρz wz hz hk hd
    have d42 := hd 20 rfl 42 rfl
    exact sk_gval (v := .pointer (some ⟨G1, 1, none⟩)) (by exact xr_fieldAddr (p := 0) (q := 1) rfl fl110_1 ((hk 1 rfl).trans e1)) rfl rfl d42 c29 rfl
   ·intro ρz wz hz hk hd
    have d46 := hd 24 rfl 46 rfl
    have d42 := hd 20 rfl 42 rfl
    exact sk_gval (v := .pointer (some ⟨G1, 5, none⟩)) (by exact xr_fieldAddr (p := 1) (q := 4) rfl fl108_2 d46) rfl rfl d42 c29 rfl
   ·intro ρz wz hz hk hd
    have d47 := hd 25 rfl 47 rfl
    have d42 := hd 20 rfl 42 rfl
    exact sk_gval (v := .int .i64 a0.Tickets.High) (by exact xr_load1 (v := .int .i64 a0.Tickets.High) rfl ag3 d47 ((b2.gr hz).seg 5 rfl rfl)) rfl rfl d42 c29 rfl
   ·intro ρz wz hz hk hd
    have d45 := hd 23 rfl 45 rfl
    have d48 := hd 26 rfl 48 rfl
    have d42 := hd 20 rfl 42 rfl
    exact sk_gval (v := .bool (decide (a0.Tickets.Free > a0.Tickets.High))) (by exact xr_gtr rfl d45 d48) rfl rfl d42 c29 rfl
   ·intro ρz wz hz hk hd
    have d42 := hd 20 rfl 42 rfl
    have d49 := hd 27 rfl 49 rfl
    exact sk_val (v := .bool (decide (a0.Tickets.Free > a0.Tickets.High))) (by exact xr_pickF rfl d42 c29 d49) rfl rfl
   ·intro ρz wz hz hk hd
    have d50 := hd 28 rfl 50 rfl
    exact sk_val (v := .bool (decide (a0.Tickets.Free > a0.Tickets.High))) (by exact xr_move rfl d50) rfl rfl
   ·intro ρz wz hz hk hd
    have d51 := hd 29 rfl 51 rfl
    exact sk_gval (v := .pointer (some ⟨G1, 8, none⟩)) (by exact xr_fieldAddr (p := 0) (q := 8) rfl fl110_3 ((hk 1 rfl).trans e1)) rfl rfl d51 c33 rfl
   ·intro ρz wz hz hk hd
    have d52 := hd 30 rfl 52 rfl
    have d51 := hd 29 rfl 51 rfl
    exact sk_gval (v := V0_0) (by exact xr_load1 (v := V0_0) rfl ag25 d52 ((b2.gr hz).seg 8 rfl rfl)) rfl rfl d51 c33 rfl
   ·intro ρz wz hz hk hd
    have d53 := hd 31 rfl 53 rfl
    have d51 := hd 29 rfl 51 rfl
    exact sk_gval (v := .int .i64 (List.length a0.Charts : Int)) (by exact xr_lenR rfl Try.underlying25 d53 (R0_0.gr (fB.gr hz))) rfl rfl d51 c33 rfl
   ·intro ρz wz hz hk hd
    have d51 := hd 29 rfl 51 rfl
    exact sk_gval (v := .pointer (some ⟨G1, 1, none⟩)) (by exact xr_fieldAddr (p := 0) (q := 1) rfl fl110_1 ((hk 1 rfl).trans e1)) rfl rfl d51 c33 rfl
   ·intro ρz wz hz hk hd
    have d55 := hd 33 rfl 55 rfl
    have d51 := hd 29 rfl 51 rfl
    exact sk_gval (v := .pointer (some ⟨G1, 1, none⟩)) (by exact xr_fieldAddr (p := 1) (q := 0) rfl fl108_0 d55) rfl rfl d51 c33 rfl
   ·intro ρz wz hz hk hd
    have d56 := hd 34 rfl 56 rfl
    have d51 := hd 29 rfl 51 rfl
    exact sk_gval (by exact xr_loadS (ss := [Seg.cell (.int .i64 a0.Tickets.Geometry.Blocks), Seg.cell (.int .i64 a0.Tickets.Geometry.Slots), Seg.cell (.int .i64 a0.Tickets.Geometry.Gens)]) rfl ag106 sz106 rfl d56 ((b2.gr hz).segs 1 3 rfl)) rfl rfl d51 c33 rfl
   ·intro ρz wz hz hk hd
    have d57 := hd 35 rfl 57 rfl
    have d51 := hd 29 rfl 51 rfl
    refine sk_gop (by exact opv_call rfl cal116 (ac d57 an) (rickyardref12_Charts.ok fu _ a0.Tickets.Geometry _ k38)) rfl rfl d51 c33 ?_
    rintro _ wy ⟨rfl, q39⟩
    exact ⟨rfl, q39⟩
   intro ρz wz hz hk hd
   have d54 := hd 32 rfl 54 rfl
   have d58 := hd 36 rfl 58 rfl
   have d51 := hd 29 rfl 51 rfl
   exact sk_gval (v := .bool (!decide ((List.length a0.Charts : Int) = t37))) (by exact xr_neI rfl Try.underlying3 rfl d54 d58) rfl rfl d51 c33 rfl
  intro ρ40 w41 q42 hk hd
  have e1 := (hk 1 rfl).trans e1
  have e51 := hd 29 rfl 51 rfl
  have e59 := hd 37 rfl 59 rfl
  have b2 := b2.gr q42
  have fB := fB.gr q42
  refine ol_val (v := .bool (!decide ((List.length a0.Charts : Int) = t37))) (by exact xr_pickF rfl e51 c33 e59) rfl rfl rfl ?_
  refine ol_nil ?_
  obtain rfl := Option.some.inj j20
  refine thn_i ?_
  exact ⟨e1, rfl, q42⟩
 rintro ρ43 w44 ⟨e1, e60, q45⟩
 have b2 := b2.gr q45
 have fB := fB.gr q45
 rcases is h with ⟨c46, h⟩ | ⟨c46, h⟩
 ·refine cw_condT e60 c46 ?_
  refine cw_seq ?_
  refine cw_region ?_
  refine ol_val (v := .bool false) (by exact xr_assign rfl rfl) rfl rfl rfl ?_
  refine ol_nil ?_
  refine cw_ret ?_
  repeat (first | with_reducible refine thn_r ?_ | with_reducible refine blk_r ?_)
  obtain rfl := Option.some.inj h
  refine fin_ret1 Try.results75 rfl ?_
  exact ⟨_, rfl, rfl, fB⟩
 refine cw_condF e60 c46 ?_
 refine cw_skip ?_
 refine cw_seq ?_
 refine cw_region ?_
 refine ol_val (v := .slice none 0 0) (by exact xr_assign rfl rfl) rfl rfl rfl ?_
 refine ol_nil ?_
 refine cw_seq ?_
 refine cw_seq ?_
 refine cw_region ?_
 refine ol_val (v := .pointer (some ⟨G1, 1, none⟩)) (by exact xr_fieldAddr (p := 0) (q := 1) rfl fl110_1 e1) rfl rfl rfl ?_
 refine ol_val (v := .pointer (some ⟨G1, 5, none⟩)) (by exact xr_fieldAddr (p := 1) (q := 4) rfl fl108_2 rfl) rfl rfl rfl ?_
 refine ol_val (v := .int .i64 a0.Tickets.High) (by exact xr_load1 (v := .int .i64 a0.Tickets.High) rfl ag3 rfl (b2.seg 5 rfl rfl)) rfl rfl rfl ?_
 refine ol_val (v := .bool (decide (a0.Tickets.High = 0))) (by exact xr_eqI rfl Try.underlying3 rfl rfl rfl) rfl rfl rfl ?_
 refine ol_nil ?_
 obtain ⟨x47, j48, h49⟩ := bs h
 refine cw_mid (fun ρ' w' => ∃ x50, x47 = Sum.inr x50 ∧ ∃ v51 : Value, ∃ o52 : Own (kI .i64) 3 w' w.heap.size v51 x50, ρ' 1 = .pointer (some ⟨G1, 0, none⟩) ∧ ρ' 3 = v51 ∧ Blk w' G1 110 [Seg.cell (.int .i64 a0.Epoch), Seg.cell (.int .i64 a0.Tickets.Geometry.Blocks), Seg.cell (.int .i64 a0.Tickets.Geometry.Slots), Seg.cell (.int .i64 a0.Tickets.Geometry.Gens), Seg.cell (.int .i64 a0.Tickets.Top), Seg.cell (.int .i64 a0.Tickets.High), Seg.cell (.int .i64 a0.Tickets.Free), Seg.cell (.int .i64 a0.Dir), Seg.cell V0_0 R0_0.one] ∧ Gr w w') ?_ ?_
 ·have h := j48
  rcases is h with ⟨c54, h⟩ | ⟨c54, h⟩
  ·refine cw_condT rfl c54 ?_
   refine cw_seq ?_
   refine cw_region ?_
   refine ol_val (v := .pointer (some ⟨G1, 1, none⟩)) (by exact xr_fieldAddr (p := 0) (q := 1) rfl fl110_1 e1) rfl rfl rfl ?_
   refine ol_val (v := .pointer (some ⟨G1, 4, none⟩)) (by exact xr_fieldAddr (p := 1) (q := 3) rfl fl108_1 rfl) rfl rfl rfl ?_
   refine ol_val (v := .int .i64 a0.Tickets.Top) (by exact xr_load1 (v := .int .i64 a0.Tickets.Top) rfl ag3 rfl (b2.seg 4 rfl rfl)) rfl rfl rfl ?_
   refine ol_val (v := .bool (!decide (a0.Tickets.Top = 0))) (by exact xr_neI rfl Try.underlying3 rfl rfl rfl) rfl rfl rfl ?_
   refine ol_nil ?_
   rcases is h with ⟨c55, h⟩ | ⟨c55, h⟩
   ·refine cw_condT rfl c55 ?_
    refine cw_seq ?_
    refine cw_region ?_
    refine ol_val (v := .bool false) (by exact xr_assign rfl rfl) rfl rfl rfl ?_
    refine ol_nil ?_
    refine cw_ret ?_
    repeat (first | with_reducible refine thn_r ?_ | with_reducible refine blk_r ?_)
    obtain rfl := Option.some.inj h
    have h := h49
    obtain rfl := Option.some.inj h
    refine fin_ret1 Try.results75 rfl ?_
    exact ⟨_, rfl, rfl, fB⟩
   refine cw_condF rfl c55 ?_
   refine cw_skip ?_
   obtain rfl := Option.some.inj h
   refine thn_i ?_
   exact ⟨_, rfl, (.slice none 0 0), Own.nil _ _ _ _, e1, rfl, b2, fB⟩
  refine cw_condF rfl c54 ?_
  refine cw_region ?_
  refine ol_val (v := .slice none 0 0) (by exact xr_move rfl rfl) rfl rfl rfl ?_
  refine ol_val (v := .pointer (some ⟨G1, 1, none⟩)) (by exact xr_fieldAddr (p := 0) (q := 1) rfl fl110_1 e1) rfl rfl rfl ?_
  refine ol_val (v := .pointer (some ⟨G1, 4, none⟩)) (by exact xr_fieldAddr (p := 1) (q := 3) rfl fl108_1 rfl) rfl rfl rfl ?_
  refine ol_val (v := .int .i64 a0.Tickets.Top) (by exact xr_load1 (v := .int .i64 a0.Tickets.Top) rfl ag3 rfl (b2.seg 4 rfl rfl)) rfl rfl rfl ?_
  refine ol_op (by exact opv_buildSlice (K := (kI .i64)) (xs := [a0.Tickets.Top]) (vals := [.int .i64 a0.Tickets.Top]) rfl Try.underlying25 el3 rfl rfl ⟨rfl, rfl, trivial⟩ rfl rfl rfl fB.size) rfl rfl rfl ?_
  rintro v56 w61 ⟨o58, q57, z59⟩
  have b2 := b2.gr q57
  have fB := fB.gr q57
  obtain ⟨g66, h⟩ := gs h
  have f68 := Off.nil G1
  have f69 := Own.geN w.heap.size
  refine ol_op (by exact opv_append (K := (kI .i64)) rfl Try.underlying25 el3 rfl rfl rfl rfl rfl (Own.nil (kI .i64) 3 _ _) o58.rd g66 fB.size) rfl rfl rfl ?_
  rintro v62 w70 ⟨o63, q64, n65⟩
  have b2 := b2.wrO q64 f68
  have fB := fB.wrO q64 f69
  refine ol_val (v := v62) (by exact xr_assign rfl rfl) rfl rfl rfl ?_
  refine ol_nil ?_
  obtain rfl := Option.some.inj h
  refine thn_i ?_
  exact ⟨_, rfl, v62, o63, e1, rfl, b2, fB⟩
 rintro ρ71 w72 ⟨x50, rfl, v51, o52, e1, e3, b2, fB⟩
 have h := h49
 refine cw_seq ?_
 refine cw_seq ?_
 refine cw_region ?_
 refine ol_val (v := .pointer (some ⟨G1, 7, none⟩)) (by exact xr_fieldAddr (p := 0) (q := 7) rfl fl110_2 e1) rfl rfl rfl ?_
 refine ol_val (v := .int .i64 a0.Dir) (by exact xr_load1 (v := .int .i64 a0.Dir) rfl ag3 rfl (b2.seg 7 rfl rfl)) rfl rfl rfl ?_
 refine ol_val (v := .bool (!decide (a0.Dir = 0))) (by exact xr_neI rfl Try.underlying3 rfl rfl rfl) rfl rfl rfl ?_
 refine ol_nil ?_
 obtain ⟨x73, j74, h75⟩ := bs h
 refine cw_mid (fun ρ' w' => ∃ v76 : Value, ∃ o77 : Own (kI .i64) 3 w' w.heap.size v76 x73, ρ' 1 = .pointer (some ⟨G1, 0, none⟩) ∧ ρ' 3 = v76 ∧ Blk w' G1 110 [Seg.cell (.int .i64 a0.Epoch), Seg.cell (.int .i64 a0.Tickets.Geometry.Blocks), Seg.cell (.int .i64 a0.Tickets.Geometry.Slots), Seg.cell (.int .i64 a0.Tickets.Geometry.Gens), Seg.cell (.int .i64 a0.Tickets.Top), Seg.cell (.int .i64 a0.Tickets.High), Seg.cell (.int .i64 a0.Tickets.Free), Seg.cell (.int .i64 a0.Dir), Seg.cell V0_0 R0_0.one] ∧ Gr w w') ?_ ?_
 ·have h := j74
  rcases is h with ⟨c79, h⟩ | ⟨c79, h⟩
  ·refine cw_condT rfl c79 ?_
   refine cw_region ?_
   refine ol_val (v := v51) (by exact xr_move rfl e3) rfl rfl rfl ?_
   refine ol_val (v := .pointer (some ⟨G1, 7, none⟩)) (by exact xr_fieldAddr (p := 0) (q := 7) rfl fl110_2 e1) rfl rfl rfl ?_
   refine ol_val (v := .int .i64 a0.Dir) (by exact xr_load1 (v := .int .i64 a0.Dir) rfl ag3 rfl (b2.seg 7 rfl rfl)) rfl rfl rfl ?_
   refine ol_op (by exact opv_buildSlice (K := (kI .i64)) (xs := [a0.Dir]) (vals := [.int .i64 a0.Dir]) rfl Try.underlying25 el3 rfl rfl ⟨rfl, rfl, trivial⟩ rfl rfl rfl fB.size) rfl rfl rfl ?_
   rintro v80 w85 ⟨o82, q81, z83⟩
   have a86 := OffV.new o52 z83
   have b2 := b2.gr q81
   have o52 := o52.gr q81
   have fB := fB.gr q81
   obtain ⟨g91, h⟩ := gs h
   have f93 := off_ty b2 o52 (by decide)
   have f94 := o52.geO
   refine ol_op (by exact opv_append (K := (kI .i64)) rfl Try.underlying25 el3 rfl rfl rfl rfl rfl o52 o82.rd g91 fB.size) rfl rfl rfl ?_
   rintro v87 w95 ⟨o88, q89, n90⟩
   have b2 := b2.wrO q89 f93
   have fB := fB.wrO q89 f94
   refine ol_val (v := v87) (by exact xr_assign rfl rfl) rfl rfl rfl ?_
   refine ol_nil ?_
   obtain rfl := Option.some.inj h
   refine thn_i ?_
   exact ⟨v87, o88, e1, rfl, b2, fB⟩
  refine cw_condF rfl c79 ?_
  refine cw_skip ?_
  obtain rfl := Option.some.inj h
  refine thn_i ?_
  exact ⟨v51, o52, e1, e3, b2, fB⟩
 rintro ρ96 w97 ⟨v76, o77, e1, e3, b2, fB⟩
 have h := h75
 refine cw_seq ?_
 refine cw_seq ?_
 refine cw_region ?_
 refine ol_val (v := .int .i64 0) (by exact xr_assign rfl rfl) rfl rfl rfl ?_
 refine ol_nil ?_
 obtain ⟨e99, l100, h101⟩ := bs h
 refine cw_mid (fun ρ' w' => ∃ x102, e99 = Sum.inr x102 ∧ ∃ v103 : Value, ∃ o104 : Own (kI .i64) 3 w' w.heap.size v103 x102, ρ' 1 = .pointer (some ⟨G1, 0, none⟩) ∧ ρ' 3 = v103 ∧ Blk w' G1 110 [Seg.cell (.int .i64 a0.Epoch), Seg.cell (.int .i64 a0.Tickets.Geometry.Blocks), Seg.cell (.int .i64 a0.Tickets.Geometry.Slots), Seg.cell (.int .i64 a0.Tickets.Geometry.Gens), Seg.cell (.int .i64 a0.Tickets.Top), Seg.cell (.int .i64 a0.Tickets.High), Seg.cell (.int .i64 a0.Tickets.Free), Seg.cell (.int .i64 a0.Dir), Seg.cell V0_0 R0_0.one] ∧ Gr w w') ?_ ?_
 ·refine cw_block ?_
  refine cw_round (fun (s98 : (List Int) × Int) ρ' w' => ∃ v106 : Value, ∃ o107 : Own (kI .i64) 3 w' w.heap.size v106 s98.1, ρ' 1 = .pointer (some ⟨G1, 0, none⟩) ∧ ρ' 3 = v106 ∧ ρ' 4 = .int .i64 s98.2 ∧ Blk w' G1 110 [Seg.cell (.int .i64 a0.Epoch), Seg.cell (.int .i64 a0.Tickets.Geometry.Blocks), Seg.cell (.int .i64 a0.Tickets.Geometry.Slots), Seg.cell (.int .i64 a0.Tickets.Geometry.Gens), Seg.cell (.int .i64 a0.Tickets.Top), Seg.cell (.int .i64 a0.Tickets.High), Seg.cell (.int .i64 a0.Tickets.Free), Seg.cell (.int .i64 a0.Dir), Seg.cell V0_0 R0_0.one] ∧ Gr w w') l100 ?_ ?_
  ·skip
   exact ⟨v76, o77, e1, e3, rfl, b2, fB⟩
  rintro s98 x111 ρ109 w110 ⟨v106, o107, e1, e3, e4, b2, fB⟩ h
  unfold rickyardref13_Right.s1 at h
  refine cw_seq ?_
  refine cw_seq ?_
  refine cw_region ?_
  refine ol_val (v := .int .i64 s98.2) (by exact xr_move rfl e4) rfl rfl rfl ?_
  refine ol_val (v := .pointer (some ⟨G1, 8, none⟩)) (by exact xr_fieldAddr (p := 0) (q := 8) rfl fl110_3 e1) rfl rfl rfl ?_
  refine ol_val (v := V0_0) (by exact xr_load1 (v := V0_0) rfl ag25 rfl (b2.seg 8 rfl rfl)) rfl rfl rfl ?_
  refine ol_val (v := .int .i64 (List.length a0.Charts : Int)) (by exact xr_lenR rfl Try.underlying25 rfl (R0_0.gr fB)) rfl rfl rfl ?_
  refine ol_val (v := .bool (decide (s98.2 < (List.length a0.Charts : Int)))) (by exact xr_lss rfl rfl rfl) rfl rfl rfl ?_
  refine ol_nil ?_
  rcases is h with ⟨c112, h⟩ | ⟨c112, h⟩
  ·refine cw_condT rfl c112 ?_
   refine cw_skip ?_
   refine cw_seq ?_
   refine cw_block ?_
   refine cw_seq ?_
   refine cw_region ?_
   refine ol_val (v := v106) (by exact xr_move rfl e3) rfl rfl rfl ?_
   refine ol_val (v := .pointer (some ⟨G1, 8, none⟩)) (by exact xr_fieldAddr (p := 0) (q := 8) rfl fl110_3 e1) rfl rfl rfl ?_
   refine ol_val (v := V0_0) (by exact xr_load1 (v := V0_0) rfl ag25 rfl (b2.seg 8 rfl rfl)) rfl rfl rfl ?_
   refine ol_val (v := .int .i64 s98.2) (by exact xr_move rfl e4) rfl rfl rfl ?_
   obtain ⟨g113, h⟩ := gs h
   refine ol_val (v := .pointer (some ⟨(sb V0_0), so V0_0 + Int.toNat s98.2 * 1, none⟩)) (by exact xr_indexR (K := (kI .i64)) (v := V0_0) rfl Try.underlying25 sz3 rfl (R0_0.gr fB) rfl g113.1 g113.2) rfl rfl rfl ?_
   refine ol_val (v := .int .i64 (ix a0.Charts s98.2)) (by exact xr_load1 (v := .int .i64 (ix a0.Charts s98.2)) rfl ag3 rfl ((R0_0.gr fB).elem g113.1 g113.2)) rfl rfl rfl ?_
   refine ol_op (by exact opv_buildSlice (K := (kI .i64)) (xs := [(ix a0.Charts s98.2)]) (vals := [.int .i64 (ix a0.Charts s98.2)]) rfl Try.underlying25 el3 rfl rfl ⟨rfl, rfl, trivial⟩ rfl rfl rfl fB.size) rfl rfl rfl ?_
   rintro v114 w119 ⟨o116, q115, z117⟩
   have a120 := OffV.new o107 z117
   have b2 := b2.gr q115
   have o107 := o107.gr q115
   have fB := fB.gr q115
   obtain ⟨g125, h⟩ := gs h
   have f127 := off_ty b2 o107 (by decide)
   have f128 := o107.geO
   refine ol_op (by exact opv_append (K := (kI .i64)) rfl Try.underlying25 el3 rfl rfl rfl rfl rfl o107 o116.rd g125 fB.size) rfl rfl rfl ?_
   rintro v121 w129 ⟨o122, q123, n124⟩
   have b2 := b2.wrO q123 f127
   have fB := fB.wrO q123 f128
   refine ol_val (v := v121) (by exact xr_assign rfl rfl) rfl rfl rfl ?_
   refine ol_nil ?_
   refine cw_seq ?_
   refine cw_region ?_
   refine ol_val (v := .int .i64 0) (by exact xr_assign rfl rfl) rfl rfl rfl ?_
   refine ol_nil ?_
   obtain ⟨e131, l132, h133⟩ := bs h
   refine cw_mid (fun ρ' w' => ∃ x134, e131 = Sum.inr x134 ∧ ∃ o122 : Own (kI .i64) 3 w' w.heap.size v121 (s98.1 ++ [(ix a0.Charts s98.2)]), ρ' 1 = .pointer (some ⟨G1, 0, none⟩) ∧ ρ' 3 = v121 ∧ ρ' 4 = .int .i64 s98.2 ∧ Blk w' G1 110 [Seg.cell (.int .i64 a0.Epoch), Seg.cell (.int .i64 a0.Tickets.Geometry.Blocks), Seg.cell (.int .i64 a0.Tickets.Geometry.Slots), Seg.cell (.int .i64 a0.Tickets.Geometry.Gens), Seg.cell (.int .i64 a0.Tickets.Top), Seg.cell (.int .i64 a0.Tickets.High), Seg.cell (.int .i64 a0.Tickets.Free), Seg.cell (.int .i64 a0.Dir), Seg.cell V0_0 R0_0.one] ∧ Gr w w') ?_ ?_
   ·refine cw_block ?_
    refine cw_round (fun (s130 : Int) ρ' w' => ∃ o122 : Own (kI .i64) 3 w' w.heap.size v121 (s98.1 ++ [(ix a0.Charts s98.2)]), ρ' 1 = .pointer (some ⟨G1, 0, none⟩) ∧ ρ' 3 = v121 ∧ ρ' 4 = .int .i64 s98.2 ∧ ρ' 5 = .int .i64 s130 ∧ Blk w' G1 110 [Seg.cell (.int .i64 a0.Epoch), Seg.cell (.int .i64 a0.Tickets.Geometry.Blocks), Seg.cell (.int .i64 a0.Tickets.Geometry.Slots), Seg.cell (.int .i64 a0.Tickets.Geometry.Gens), Seg.cell (.int .i64 a0.Tickets.Top), Seg.cell (.int .i64 a0.Tickets.High), Seg.cell (.int .i64 a0.Tickets.Free), Seg.cell (.int .i64 a0.Dir), Seg.cell V0_0 R0_0.one] ∧ Gr w w') l132 ?_ ?_
    ·skip
     exact ⟨o122, e1, rfl, e4, rfl, b2, fB⟩
    rintro s130 x137 ρ135 w136 ⟨o122, e1, e3, e4, e5, b2, fB⟩ h
    unfold rickyardref13_Right.s2 at h
    refine cw_seq ?_
    refine cw_seq ?_
    refine cw_region ?_
    refine ol_val (v := .int .i64 s130) (by exact xr_move rfl e5) rfl rfl rfl ?_
    refine ol_val (v := .int .i64 s98.2) (by exact xr_move rfl e4) rfl rfl rfl ?_
    refine ol_val (v := .bool (decide (s130 < s98.2))) (by exact xr_lss rfl rfl rfl) rfl rfl rfl ?_
    refine ol_nil ?_
    rcases is h with ⟨c138, h⟩ | ⟨c138, h⟩
    ·refine cw_condT rfl c138 ?_
     refine cw_skip ?_
     refine cw_seq ?_
     refine cw_block ?_
     refine cw_seq ?_
     obtain ⟨g139, h⟩ := gs h
     obtain ⟨g140, h⟩ := gs h
     refine cw_drawL 10 [fun vz wz => vz = (.pointer (some ⟨G1, 8, none⟩) : Value), fun vz wz => vz = (V0_0 : Value), fun vz wz => vz = (.int .i64 s130 : Value), fun vz wz => vz = (.pointer (some ⟨(sb V0_0), so V0_0 + Int.toNat s130 * 1, none⟩) : Value), fun vz wz => vz = (.int .i64 (ix a0.Charts s130) : Value), fun vz wz => vz = (.pointer (some ⟨G1, 8, none⟩) : Value), fun vz wz => vz = (V0_0 : Value), fun vz wz => vz = (.int .i64 s98.2 : Value), fun vz wz => vz = (.pointer (some ⟨(sb V0_0), so V0_0 + Int.toNat s98.2 * 1, none⟩) : Value), fun vz wz => vz = (.int .i64 (ix a0.Charts s98.2) : Value)] mo rfl ⟨fun _ _ _ h _ => h, fun _ _ _ h _ => h, fun _ _ _ h _ => h, fun _ _ _ h _ => h, fun _ _ _ h _ => h, fun _ _ _ h _ => h, fun _ _ _ h _ => h, fun _ _ _ h _ => h, fun _ _ _ h _ => h, fun _ _ _ h _ => h, trivial⟩ ?_ ?_
     ·refine ⟨?_, ?_, ?_, ?_, ?_, ?_, ?_, ?_, ?_, ?_, trivial⟩
      ·intro ρz wz hz hk hd
       exact sk_val (v := .pointer (some ⟨G1, 8, none⟩)) (by exact xr_fieldAddr (p := 0) (q := 8) rfl fl110_3 ((hk 1 rfl).trans e1)) rfl rfl
      ·intro ρz wz hz hk hd
       have d103 := hd 0 rfl 103 rfl
       exact sk_val (v := V0_0) (by exact xr_load1 (v := V0_0) rfl ag25 d103 ((b2.gr hz).seg 8 rfl rfl)) rfl rfl
      ·intro ρz wz hz hk hd
       exact sk_val (v := .int .i64 s130) (by exact xr_move rfl ((hk 5 rfl).trans e5)) rfl rfl
      ·intro ρz wz hz hk hd
       have d104 := hd 1 rfl 104 rfl
       have d105 := hd 2 rfl 105 rfl
       exact sk_val (by exact xr_indexR (K := (kI .i64)) (v := V0_0) rfl Try.underlying25 sz3 d104 (R0_0.gr (fB.gr hz)) d105 g139.1 g139.2) rfl rfl
      ·intro ρz wz hz hk hd
       have d106 := hd 3 rfl 106 rfl
       exact sk_val (v := .int .i64 (ix a0.Charts s130)) (by exact xr_load1 (v := .int .i64 (ix a0.Charts s130)) rfl ag3 d106 ((R0_0.gr (fB.gr hz)).elem g139.1 g139.2)) rfl rfl
      ·intro ρz wz hz hk hd
       exact sk_val (v := .pointer (some ⟨G1, 8, none⟩)) (by exact xr_fieldAddr (p := 0) (q := 8) rfl fl110_3 ((hk 1 rfl).trans e1)) rfl rfl
      ·intro ρz wz hz hk hd
       have d108 := hd 5 rfl 108 rfl
       exact sk_val (v := V0_0) (by exact xr_load1 (v := V0_0) rfl ag25 d108 ((b2.gr hz).seg 8 rfl rfl)) rfl rfl
      ·intro ρz wz hz hk hd
       exact sk_val (v := .int .i64 s98.2) (by exact xr_move rfl ((hk 4 rfl).trans e4)) rfl rfl
      ·intro ρz wz hz hk hd
       have d109 := hd 6 rfl 109 rfl
       have d110 := hd 7 rfl 110 rfl
       exact sk_val (by exact xr_indexR (K := (kI .i64)) (v := V0_0) rfl Try.underlying25 sz3 d109 (R0_0.gr (fB.gr hz)) d110 g140.1 g140.2) rfl rfl
      intro ρz wz hz hk hd
      have d111 := hd 8 rfl 111 rfl
      exact sk_val (v := .int .i64 (ix a0.Charts s98.2)) (by exact xr_load1 (v := .int .i64 (ix a0.Charts s98.2)) rfl ag3 d111 ((R0_0.gr (fB.gr hz)).elem g140.1 g140.2)) rfl rfl
     intro ρ141 w142 q143 hk hd
     have e1 := (hk 1 rfl).trans e1
     have e3 := (hk 3 rfl).trans e3
     have e4 := (hk 4 rfl).trans e4
     have e5 := (hk 5 rfl).trans e5
     have e107 := hd 4 rfl 107 rfl
     have e112 := hd 9 rfl 112 rfl
     have b2 := b2.gr q143
     have o122 := o122.gr q143
     have fB := fB.gr q143
     refine ol_val (v := .bool (decide ((ix a0.Charts s130) = (ix a0.Charts s98.2)))) (by exact xr_eqI rfl Try.underlying3 rfl e107 e112) rfl rfl rfl ?_
     refine ol_nil ?_
     rcases is h with ⟨c144, h⟩ | ⟨c144, h⟩
     ·refine cw_condT rfl c144 ?_
      refine cw_seq ?_
      refine cw_region ?_
      refine ol_val (v := .bool false) (by exact xr_assign rfl rfl) rfl rfl rfl ?_
      refine ol_nil ?_
      refine cw_ret ?_
      repeat (first | with_reducible refine thn_r ?_ | with_reducible refine blk_r ?_)
      obtain rfl := Option.some.inj h
      refine lp_ret ?_
      rintro rfl
      repeat (first | with_reducible refine thn_r ?_ | with_reducible refine blk_r ?_)
      have h := h133
      obtain rfl := Option.some.inj h
      refine lp_ret ?_
      rintro rfl
      repeat (first | with_reducible refine thn_r ?_ | with_reducible refine blk_r ?_)
      have h := h101
      obtain rfl := Option.some.inj h
      refine fin_ret1 Try.results75 rfl ?_
      exact ⟨_, rfl, rfl, fB⟩
     refine cw_condF rfl c144 ?_
     refine cw_skip ?_
     refine blk_i ?_
     refine cw_region ?_
     refine ol_val (v := .int .i64 s130) (by exact xr_move rfl e5) rfl rfl rfl ?_
     refine ol_val (v := .int .i64 (IntKind.i64.wrap (s130 + 1))) (by exact xr_add rfl rfl rfl) rfl rfl rfl ?_
     refine ol_val (v := .int .i64 (IntKind.i64.wrap (s130 + 1))) (by exact xr_assign rfl rfl) rfl rfl rfl ?_
     refine ol_nil ?_
     obtain rfl := Option.some.inj h
     refine lp_in ?_
     exact ⟨o122, e1, e3, e4, rfl, b2, fB⟩
    refine cw_condF rfl c138 ?_
    refine cw_exit ?_
    repeat (first | with_reducible refine thn_e ?_ | with_reducible refine blk_e rfl ?_)
    obtain rfl := Option.some.inj h
    refine lp_exit ?_
    rintro rfl
    refine thn_x ?_
    exact ⟨_, rfl, o122, e1, e3, e4, b2, fB⟩
   rintro ρ145 w146 ⟨x134, rfl, o122, e1, e3, e4, b2, fB⟩
   have h := h133
   refine blk_i ?_
   refine cw_region ?_
   refine ol_val (v := .int .i64 s98.2) (by exact xr_move rfl e4) rfl rfl rfl ?_
   refine ol_val (v := .int .i64 (IntKind.i64.wrap (s98.2 + 1))) (by exact xr_add rfl rfl rfl) rfl rfl rfl ?_
   refine ol_val (v := .int .i64 (IntKind.i64.wrap (s98.2 + 1))) (by exact xr_assign rfl rfl) rfl rfl rfl ?_
   refine ol_nil ?_
   obtain rfl := Option.some.inj h
   refine lp_in ?_
   exact ⟨v121, o122, e1, e3, rfl, b2, fB⟩
  refine cw_condF rfl c112 ?_
  refine cw_exit ?_
  repeat (first | with_reducible refine thn_e ?_ | with_reducible refine blk_e rfl ?_)
  obtain rfl := Option.some.inj h
  refine lp_exit ?_
  rintro rfl
  refine thn_x ?_
  exact ⟨_, rfl, v106, o107, e1, e3, b2, fB⟩
 rintro ρ147 w148 ⟨x102, rfl, v103, o104, e1, e3, b2, fB⟩
 have h := h101
 refine cw_seq ?_
 refine cw_seq ?_
 refine cw_region ?_
 refine ol_val (v := .int .i64 0) (by exact xr_assign rfl rfl) rfl rfl rfl ?_
 refine ol_nil ?_
 obtain ⟨e150, l151, h152⟩ := bs h
 refine cw_mid (fun ρ' w' => ∃ x153, e150 = Sum.inr x153 ∧ Gr w w') ?_ ?_
 ·refine cw_block ?_
  refine cw_round (fun (s149 : Int) ρ' w' => ∃ o104 : Own (kI .i64) 3 w' w.heap.size v103 x102, ρ' 1 = .pointer (some ⟨G1, 0, none⟩) ∧ ρ' 3 = v103 ∧ ρ' 6 = .int .i64 s149 ∧ Blk w' G1 110 [Seg.cell (.int .i64 a0.Epoch), Seg.cell (.int .i64 a0.Tickets.Geometry.Blocks), Seg.cell (.int .i64 a0.Tickets.Geometry.Slots), Seg.cell (.int .i64 a0.Tickets.Geometry.Gens), Seg.cell (.int .i64 a0.Tickets.Top), Seg.cell (.int .i64 a0.Tickets.High), Seg.cell (.int .i64 a0.Tickets.Free), Seg.cell (.int .i64 a0.Dir), Seg.cell V0_0 R0_0.one] ∧ Gr w w') l151 ?_ ?_
  ·skip
   exact ⟨o104, e1, e3, rfl, b2, fB⟩
  rintro s149 x156 ρ154 w155 ⟨o104, e1, e3, e6, b2, fB⟩ h
  unfold rickyardref13_Right.s3 at h
  refine cw_seq ?_
  refine cw_seq ?_
  refine cw_region ?_
  refine ol_val (v := .int .i64 s149) (by exact xr_move rfl e6) rfl rfl rfl ?_
  refine ol_val (v := v103) (by exact xr_move rfl e3) rfl rfl rfl ?_
  refine ol_val (v := .int .i64 (List.length x102 : Int)) (by exact xr_lenR rfl Try.underlying25 rfl o104.rd) rfl rfl rfl ?_
  refine ol_val (v := .bool (decide (s149 < (List.length x102 : Int)))) (by exact xr_lss rfl rfl rfl) rfl rfl rfl ?_
  refine ol_nil ?_
  rcases is h with ⟨c157, h⟩ | ⟨c157, h⟩
  ·refine cw_condT rfl c157 ?_
   refine cw_skip ?_
   refine cw_seq ?_
   refine cw_block ?_
   refine cw_seq ?_
   obtain ⟨x158, j159, h⟩ := bs h
   refine cw_mid (fun ρ' w' => ρ' 1 = .pointer (some ⟨G1, 0, none⟩) ∧ ρ' 3 = v103 ∧ ρ' 6 = .int .i64 s149 ∧ ρ' 135 = .bool x158 ∧ Gr w155 w') ?_ ?_
   ·skip
    obtain ⟨g160, j159⟩ := gs j159
    rcases is j159 with ⟨c161, j159⟩ | ⟨c161, j159⟩
    ·skip
     refine cw_drawL 15 [fun vz wz => vz = (v103 : Value), fun vz wz => vz = (.int .i64 s149 : Value), fun vz wz => vz = (.pointer (some ⟨(sb v103), so v103 + Int.toNat s149 * 1, none⟩) : Value), fun vz wz => vz = (.int .i64 (ix x102 s149) : Value), fun vz wz => vz = (.bool (decide ((ix x102 s149) < 2)) : Value), fun vz wz => vz = (.bool (decide ((ix x102 s149) < 2)) : Value), fun vz _ => vz = undef, fun vz _ => vz = undef, fun vz _ => vz = undef, fun vz _ => vz = undef, fun vz _ => vz = undef, fun vz _ => vz = undef, fun vz _ => vz = undef, fun vz _ => vz = undef, fun vz _ => vz = undef] mo rfl ⟨fun _ _ _ h _ => h, fun _ _ _ h _ => h, fun _ _ _ h _ => h, fun _ _ _ h _ => h, fun _ _ _ h _ => h, fun _ _ _ h _ => h, fun _ _ _ h _ => h, fun _ _ _ h _ => h, fun _ _ _ h _ => h, fun _ _ _ h _ => h, fun _ _ _ h _ => h, fun _ _ _ h _ => h, fun _ _ _ h _ => h, fun _ _ _ h _ => h, fun _ _ _ h _ => h, trivial⟩ ?_ ?_
     ·refine ⟨?_, ?_, ?_, ?_, ?_, ?_, ?_, ?_, ?_, ?_, ?_, ?_, ?_, ?_, ?_, trivial⟩
      ·intro ρz wz hz hk hd
       exact sk_val (v := v103) (by exact xr_move rfl ((hk 3 rfl).trans e3)) rfl rfl
      ·intro ρz wz hz hk hd
       exact sk_val (v := .int .i64 s149) (by exact xr_move rfl ((hk 6 rfl).trans e6)) rfl rfl
      ·intro ρz wz hz hk hd
       have d120 := hd 0 rfl 120 rfl
       have d121 := hd 1 rfl 121 rfl
       exact sk_val (by exact xr_indexR (K := (kI .i64)) (v := v103) rfl Try.underlying25 sz3 d120 (o104.gr hz).rd d121 g160.1 g160.2) rfl rfl
      ·intro ρz wz hz hk hd
       have d122 := hd 2 rfl 122 rfl
       exact sk_val (v := .int .i64 (ix x102 s149)) (by exact xr_load1 (v := .int .i64 (ix x102 s149)) rfl ag3 d122 ((o104.gr hz).rd.elem g160.1 g160.2)) rfl rfl
      ·intro ρz wz hz hk hd
       have d123 := hd 3 rfl 123 rfl
       exact sk_val (v := .bool (decide ((ix x102 s149) < 2))) (by exact xr_lss rfl d123 rfl) rfl rfl
      ·intro ρz wz hz hk hd
       have d124 := hd 4 rfl 124 rfl
       exact sk_val (v := .bool (decide ((ix x102 s149) < 2))) (by exact xr_move rfl d124) rfl rfl
      ·intro ρz wz hz hk hd
       have d125 := hd 5 rfl 125 rfl
       exact sk_skip rfl rfl d125 c161 rfl
      ·intro ρz wz hz hk hd
       have d125 := hd 5 rfl 125 rfl
       exact sk_skip rfl rfl d125 c161 rfl
      ·intro ρz wz hz hk hd
       have d125 := hd 5 rfl 125 rfl
       exact sk_skip rfl rfl d125 c161 rfl
      ·intro ρz wz hz hk hd
       have d125 := hd 5 rfl 125 rfl
       exact sk_skip rfl rfl d125 c161 rfl
      ·intro ρz wz hz hk hd
       have d125 := hd 5 rfl 125 rfl
       exact sk_skip rfl rfl d125 c161 rfl
      ·intro ρz wz hz hk hd
       have d125 := hd 5 rfl 125 rfl
       exact sk_skip rfl rfl d125 c161 rfl
      ·intro ρz wz hz hk hd
       have d125 := hd 5 rfl 125 rfl
       exact sk_skip rfl rfl d125 c161 rfl
      ·intro ρz wz hz hk hd
       have d125 := hd 5 rfl 125 rfl
       exact sk_skip rfl rfl d125 c161 rfl
      intro ρz wz hz hk hd
      have d125 := hd 5 rfl 125 rfl
      exact sk_skip rfl rfl d125 c161 rfl
     intro ρ162 w163 q164 hk hd
     have e1 := (hk 1 rfl).trans e1
     have e3 := (hk 3 rfl).trans e3
     have e6 := (hk 6 rfl).trans e6
     have e125 := hd 5 rfl 125 rfl
     have b2 := b2.gr q164
     have o104 := o104.gr q164
     have fB := fB.gr q164
     refine ol_val (v := .bool true) (by exact xr_pickT rfl e125 c161 rfl) rfl rfl rfl ?_
     refine ol_nil ?_
     obtain rfl := Option.some.inj j159
     refine thn_i ?_
     exact ⟨e1, e3, e6, rfl, q164⟩
    obtain ⟨g165, j159⟩ := gs j159
    refine cw_drawL 15 [fun vz wz => vz = (v103 : Value), fun vz wz => vz = (.int .i64 s149 : Value), fun vz wz => vz = (.pointer (some ⟨(sb v103), so v103 + Int.toNat s149 * 1, none⟩) : Value), fun vz wz => vz = (.int .i64 (ix x102 s149) : Value), fun vz wz => vz = (.bool (decide ((ix x102 s149) < 2)) : Value), fun vz wz => vz = (.bool (decide ((ix x102 s149) < 2)) : Value), fun vz wz => vz = (v103 : Value), fun vz wz => vz = (.int .i64 s149 : Value), fun vz wz => vz = (.pointer (some ⟨(sb v103), so v103 + Int.toNat s149 * 1, none⟩) : Value), fun vz wz => vz = (.int .i64 (ix x102 s149) : Value), fun vz wz => vz = (.pointer (some ⟨G1, 1, none⟩) : Value), fun vz wz => vz = (.pointer (some ⟨G1, 1, none⟩) : Value), fun vz wz => vz = (.pointer (some ⟨G1, 1, none⟩) : Value), fun vz wz => vz = (.int .i64 a0.Tickets.Geometry.Blocks : Value), fun vz wz => vz = (.bool (decide ((ix x102 s149) ≥ a0.Tickets.Geometry.Blocks)) : Value)] mo rfl ⟨fun _ _ _ h _ => h, fun _ _ _ h _ => h, fun _ _ _ h _ => h, fun _ _ _ h _ => h, fun _ _ _ h _ => h, fun _ _ _ h _ => h, fun _ _ _ h _ => h, fun _ _ _ h _ => h, fun _ _ _ h _ => h, fun _ _ _ h _ => h, fun _ _ _ h _ => h, fun _ _ _ h _ => h, fun _ _ _ h _ => h, fun _ _ _ h _ => h, fun _ _ _ h _ => h, trivial⟩ ?_ ?_
    ·refine ⟨?_, ?_, ?_, ?_, ?_, ?_, ?_, ?_, ?_, ?_, ?_, ?_, ?_, ?_, ?_, trivial⟩
     ·intro ρz wz hz hk hd
      exact sk_val (v := v103) (by exact xr_move rfl ((hk 3 rfl).trans e3)) rfl rfl
     ·intro ρz wz hz hk hd
      exact sk_val (v := .int .i64 s149) (by exact xr_move rfl ((hk 6 rfl).trans e6)) rfl rfl
     ·intro ρz wz hz hk hd
      have d120 := hd 0 rfl 120 rfl
      have d121 := hd 1 rfl 121 rfl
      exact sk_val (by exact xr_indexR (K := (kI .i64)) (v := v103) rfl Try.underlying25 sz3 d120 (o104.gr hz).rd d121 g160.1 g160.2) rfl rfl
     ·intro ρz wz hz hk hd
      have d122 := hd 2 rfl 122 rfl
      exact sk_val (v := .int .i64 (ix x102 s149)) (by exact xr_load1 (v := .int .i64 (ix x102 s149)) rfl ag3 d122 ((o104.gr hz).rd.elem g160.1 g160.2)) rfl rfl
     ·intro ρz wz hz hk hd
      have d123 := hd 3 rfl 123 rfl
      exact sk_val (v := .bool (decide ((ix x102 s149) < 2))) (by exact xr_lss rfl d123 rfl) rfl rfl
     ·intro ρz wz hz hk hd
      have d124 := hd 4 rfl 124 rfl
      exact sk_val (v := .bool (decide ((ix x102 s149) < 2))) (by exact xr_move rfl d124) rfl rfl
     ·intro ρz wz hz hk hd
      have d125 := hd 5 rfl 125 rfl
      exact sk_gval (v := v103) (by exact xr_move rfl ((hk 3 rfl).trans e3)) rfl rfl d125 c161 rfl
     ·intro ρz wz hz hk hd
      have d125 := hd 5 rfl 125 rfl
      exact sk_gval (v := .int .i64 s149) (by exact xr_move rfl ((hk 6 rfl).trans e6)) rfl rfl d125 c161 rfl
     ·intro ρz wz hz hk hd
      have d126 := hd 6 rfl 126 rfl
      have d127 := hd 7 rfl 127 rfl
      have d125 := hd 5 rfl 125 rfl
      exact sk_gval (by exact xr_indexR (K := (kI .i64)) (v := v103) rfl Try.underlying25 sz3 d126 (o104.gr hz).rd d127 g165.1 g165.2) rfl rfl d125 c161 rfl
     ·intro ρz wz hz hk hd
      have d128 := hd 8 rfl 128 rfl
      have d125 := hd 5 rfl 125 rfl
      exact sk_gval (v := .int .i64 (ix x102 s149)) (by exact xr_load1 (v := .int .i64 (ix x102 s149)) rfl ag3 d128 ((o104.gr hz).rd.elem g165.1 g165.2)) rfl rfl d125 c161 rfl
     ·intro ρz wz hz hk hd
      have d125 := hd 5 rfl 125 rfl
      exact sk_gval (v := .pointer (some ⟨G1, 1, none⟩)) (by exact xr_fieldAddr (p := 0) (q := 1) rfl fl110_1 ((hk 1 rfl).trans e1)) rfl rfl d125 c161 rfl
     ·intro ρz wz hz hk hd
      have d130 := hd 10 rfl 130 rfl
      have d125 := hd 5 rfl 125 rfl
      exact sk_gval (v := .pointer (some ⟨G1, 1, none⟩)) (by exact xr_fieldAddr (p := 1) (q := 0) rfl fl108_0 d130) rfl rfl d125 c161 rfl
     ·intro ρz wz hz hk hd
      have d131 := hd 11 rfl 131 rfl
      have d125 := hd 5 rfl 125 rfl
      exact sk_gval (v := .pointer (some ⟨G1, 1, none⟩)) (by exact xr_fieldAddr (p := 1) (q := 0) rfl fl106_0 d131) rfl rfl d125 c161 rfl
     ·intro ρz wz hz hk hd
      have d132 := hd 12 rfl 132 rfl
      have d125 := hd 5 rfl 125 rfl
      exact sk_gval (v := .int .i64 a0.Tickets.Geometry.Blocks) (by exact xr_load1 (v := .int .i64 a0.Tickets.Geometry.Blocks) rfl ag3 d132 ((b2.gr hz).seg 1 rfl rfl)) rfl rfl d125 c161 rfl
     intro ρz wz hz hk hd
     have d129 := hd 9 rfl 129 rfl
     have d133 := hd 13 rfl 133 rfl
     have d125 := hd 5 rfl 125 rfl
     exact sk_gval (by exact xr_geq rfl d129 d133) rfl rfl d125 c161 rfl
    intro ρ166 w167 q168 hk hd
    have e1 := (hk 1 rfl).trans e1
    have e3 := (hk 3 rfl).trans e3
    have e6 := (hk 6 rfl).trans e6
    have e125 := hd 5 rfl 125 rfl
    have e126 := hd 6 rfl 126 rfl
    have e127 := hd 7 rfl 127 rfl
    have e128 := hd 8 rfl 128 rfl
    have e129 := hd 9 rfl 129 rfl
    have e130 := hd 10 rfl 130 rfl
    have e131 := hd 11 rfl 131 rfl
    have e132 := hd 12 rfl 132 rfl
    have e133 := hd 13 rfl 133 rfl
    have e134 := hd 14 rfl 134 rfl
    have b2 := b2.gr q168
    have o104 := o104.gr q168
    have fB := fB.gr q168
    refine ol_val (v := .bool (decide ((ix x102 s149) ≥ a0.Tickets.Geometry.Blocks))) (by exact xr_pickF rfl e125 c161 e134) rfl rfl rfl ?_
    refine ol_nil ?_
    obtain rfl := Option.some.inj j159
    refine thn_i ?_
    exact ⟨e1, e3, e6, rfl, q168⟩
   rintro ρ169 w170 ⟨e1, e3, e6, e135, q171⟩
   have b2 := b2.gr q171
   have o104 := o104.gr q171
   have fB := fB.gr q171
   rcases is h with ⟨c172, h⟩ | ⟨c172, h⟩
   ·refine cw_condT e135 c172 ?_
    refine cw_seq ?_
    refine cw_region ?_
    refine ol_val (v := .bool false) (by exact xr_assign rfl rfl) rfl rfl rfl ?_
    refine ol_nil ?_
    refine cw_ret ?_
    repeat (first | with_reducible refine thn_r ?_ | with_reducible refine blk_r ?_)
    obtain rfl := Option.some.inj h
    refine lp_ret ?_
    rintro rfl
    repeat (first | with_reducible refine thn_r ?_ | with_reducible refine blk_r ?_)
    have h := h152
    obtain rfl := Option.some.inj h
    refine fin_ret1 Try.results75 rfl ?_
    exact ⟨_, rfl, rfl, fB⟩
   refine cw_condF e135 c172 ?_
   refine cw_skip ?_
   refine blk_i ?_
   refine cw_region ?_
   refine ol_val (v := .int .i64 s149) (by exact xr_move rfl e6) rfl rfl rfl ?_
   refine ol_val (v := .int .i64 (IntKind.i64.wrap (s149 + 1))) (by exact xr_add rfl rfl rfl) rfl rfl rfl ?_
   refine ol_val (v := .int .i64 (IntKind.i64.wrap (s149 + 1))) (by exact xr_assign rfl rfl) rfl rfl rfl ?_
   refine ol_nil ?_
   obtain rfl := Option.some.inj h
   refine lp_in ?_
   exact ⟨o104, e1, e3, rfl, b2, fB⟩
  refine cw_condF rfl c157 ?_
  refine cw_exit ?_
  repeat (first | with_reducible refine thn_e ?_ | with_reducible refine blk_e rfl ?_)
  obtain rfl := Option.some.inj h
  refine lp_exit ?_
  rintro rfl
  refine thn_x ?_
  exact ⟨_, rfl, fB⟩
 rintro ρ173 w174 ⟨x153, rfl, fB⟩
 have h := h152
 refine cw_seq ?_
 refine cw_region ?_
 refine ol_val (v := .bool true) (by exact xr_assign rfl rfl) rfl rfl rfl ?_
 refine ol_nil ?_
 refine cw_ret ?_
 repeat (first | with_reducible refine thn_r ?_ | with_reducible refine blk_r ?_)
 obtain rfl := Option.some.inj h
 refine fin_ret1 Try.results75 rfl ?_
 exact ⟨_, rfl, rfl, fB⟩
def rickyardref01_Octet.s0 (fu : Nat) (a1 : Int) : (Int × Int) → Option (Sum Int (Int × Int)) := fun s1 => (if (decide (s1.2 < a1)) = true then some (Sum.inr ((IntKind.u64.wrap (Int.tdiv s1.1 256)), (IntKind.i64.wrap (s1.2 + 1)))) else some (Sum.inl (s1.1)))
def rickyardref01_Octet.f (fu : Nat) (a0 : Int) (a1 : Int) : Option Int := ((loopM (rickyardref01_Octet.s0 fu a1) fu (a0, 0)).bind fun e2 => some ((IntKind.u8.wrap (Int.tmod e2 256))))
set_option maxRecDepth 100000 in
set_option maxHeartbeats 400000 in
theorem rickyardref01_Octet.ok (fu : Nat) (w : World) (a0 : Int) (a1 : Int) (r : Int) (h : rickyardref01_Octet.f fu a0 a1 = some r) :
  Calls Try.prog 137 (([.int .u64 a0, .int .i64 a1] : List Value).toArray) w (fun e w' => ∃ v, e = .returned v ∧ v = .int .u8 r ∧ Gr w w') := by
 unfold rickyardref01_Octet.f at h
 have fB : Gr w w := Fr.refl _ _
 refine calls_cw Try.func137 rfl Try.ntmps137 rfl ?_
 refine cw_seq ?_
 refine cw_region ?_
 refine ol_val (v := .int .u8 0) (by exact xr_assign rfl rfl) rfl rfl rfl ?_
 refine ol_nil ?_
 refine cw_seq ?_
 refine cw_seq ?_
 refine cw_region ?_
 refine ol_val (v := .int .i64 0) (by exact xr_assign rfl rfl) rfl rfl rfl ?_
 refine ol_nil ?_
 obtain ⟨e2, l3, h4⟩ := bs h
 refine cw_mid (fun ρ' w' => ρ' 0 = .int .u64 e2 ∧ Gr w w') ?_ ?_
 ·refine cw_block ?_
  refine cw_round (fun (s1 : Int × Int) ρ' w' => ρ' 0 = .int .u64 s1.1 ∧ ρ' 1 = .int .i64 a1 ∧ ρ' 5 = .int .i64 s1.2 ∧ Gr w w') l3 ?_ ?_
  ·skip
   exact ⟨rfl, rfl, rfl, fB⟩
  rintro s1 x7 ρ5 w6 ⟨e0, e1, e5, fB⟩ h
  unfold rickyardref01_Octet.s0 at h
  refine cw_seq ?_
  refine cw_seq ?_
  refine cw_region ?_
  refine ol_val (v := .int .i64 s1.2) (by exact xr_move rfl e5) rfl rfl rfl ?_
  refine ol_val (v := .int .i64 a1) (by exact xr_move rfl e1) rfl rfl rfl ?_
  refine ol_val (v := .bool (decide (s1.2 < a1))) (by exact xr_lss rfl rfl rfl) rfl rfl rfl ?_
  refine ol_nil ?_
  rcases is h with ⟨c8, h⟩ | ⟨c8, h⟩
  ·refine cw_condT rfl c8 ?_
   refine cw_skip ?_
   refine cw_seq ?_
   refine cw_block ?_
   refine cw_region ?_
   refine ol_val (v := .int .u64 s1.1) (by exact xr_move rfl e0) rfl rfl rfl ?_
   refine ol_val (v := .int .u64 (IntKind.u64.wrap (Int.tdiv s1.1 256))) (by exact xr_quo rfl rfl rfl (by decide)) rfl rfl rfl ?_
   refine ol_val (v := .int .u64 (IntKind.u64.wrap (Int.tdiv s1.1 256))) (by exact xr_assign rfl rfl) rfl rfl rfl ?_
   refine ol_nil ?_
   refine blk_i ?_
   refine cw_region ?_
   refine ol_val (v := .int .i64 s1.2) (by exact xr_move rfl e5) rfl rfl rfl ?_
   refine ol_val (v := .int .i64 (IntKind.i64.wrap (s1.2 + 1))) (by exact xr_add rfl rfl rfl) rfl rfl rfl ?_
   refine ol_val (v := .int .i64 (IntKind.i64.wrap (s1.2 + 1))) (by exact xr_assign rfl rfl) rfl rfl rfl ?_
   refine ol_nil ?_
   obtain rfl := Option.some.inj h
   refine lp_in ?_
   exact ⟨rfl, e1, rfl, fB⟩
  refine cw_condF rfl c8 ?_
  refine cw_exit ?_
  repeat (first | with_reducible refine thn_e ?_ | with_reducible refine blk_e rfl ?_)
  obtain rfl := Option.some.inj h
  refine lp_exit ?_
  rintro rfl
  refine thn_x ?_
  exact ⟨e0, fB⟩
 rintro ρ9 w10 ⟨e0, fB⟩
 have h := h4
 refine cw_seq ?_
 refine cw_region ?_
 refine ol_val (v := .int .u64 e2) (by exact xr_move rfl e0) rfl rfl rfl ?_
 refine ol_val (v := .int .u64 (Int.tmod e2 256)) (by exact xr_rem rfl rfl rfl (by decide)) rfl rfl rfl ?_
 refine ol_val (v := .int .u8 (IntKind.u8.wrap (Int.tmod e2 256))) (by exact xr_conv rfl Try.underlying22 Try.underlying5 rfl) rfl rfl rfl ?_
 refine ol_val (v := .int .u8 (IntKind.u8.wrap (Int.tmod e2 256))) (by exact xr_assign rfl rfl) rfl rfl rfl ?_
 refine ol_nil ?_
 refine cw_ret ?_
 repeat (first | with_reducible refine thn_r ?_ | with_reducible refine blk_r ?_)
 obtain rfl := Option.some.inj h
 refine fin_ret1 Try.results137 rfl ?_
 exact ⟨_, rfl, rfl, fB⟩
def rickyardref01_Lay.s0 (fu : Nat) (a0 : Int) (a1 : Int) : ((List UInt8) × Int) → Option (Sum (List UInt8) ((List UInt8) × Int)) := fun s1 => (if (decide (s1.2 < a1)) = true then ((rickyardref01_Octet.f fu a0 s1.2 : Option Int).bind fun t9 => (if List.length s1.1 + List.length (List.map toB [t9]) ≤ LIM then some (Sum.inr ((s1.1 ++ (List.map toB [t9])), (IntKind.i64.wrap (s1.2 + 1)))) else none)) else some (Sum.inl (s1.1)))
def rickyardref01_Lay.f (fu : Nat) (a0 : Int) (a1 : Int) : Option (List UInt8) := ((loopM (rickyardref01_Lay.s0 fu a0 a1) fu ([], 0)).bind fun e2 => some (e2))
set_option maxRecDepth 100000 in
set_option maxHeartbeats 400000 in
theorem rickyardref01_Lay.ok (fu : Nat) (w : World) (a0 : Int) (a1 : Int) (r : (List UInt8)) (h : rickyardref01_Lay.f fu a0 a1 = some r) :
  Calls Try.prog 117 (([.int .u64 a0, .int .i64 a1] : List Value).toArray) w (fun e w' => ∃ v, e = .returned v ∧ v = sv r ∧ Gr w w') := by
 unfold rickyardref01_Lay.f at h
 have fB : Gr w w := Fr.refl _ _
 refine calls_cw Try.func117 rfl Try.ntmps117 rfl ?_
 refine cw_seq ?_
 refine cw_region ?_
 refine ol_val (v := sv []) (by exact xr_assign rfl rfl) rfl rfl rfl ?_
 refine ol_nil ?_
 refine cw_seq ?_
 refine cw_region ?_
 refine ol_val (v := sv []) (by exact xr_assign rfl rfl) rfl rfl rfl ?_
 refine ol_nil ?_
 refine cw_seq ?_
 refine cw_seq ?_
 refine cw_region ?_
 refine ol_val (v := .int .i64 0) (by exact xr_assign rfl rfl) rfl rfl rfl ?_
 refine ol_nil ?_
 obtain ⟨e2, l3, h4⟩ := bs h
 refine cw_mid (fun ρ' w' => ρ' 5 = sv e2 ∧ Gr w w') ?_ ?_
 ·refine cw_block ?_
  refine cw_round (fun (s1 : (List UInt8) × Int) ρ' w' => ρ' 0 = .int .u64 a0 ∧ ρ' 1 = .int .i64 a1 ∧ ρ' 5 = sv s1.1 ∧ ρ' 6 = .int .i64 s1.2 ∧ Gr w w') l3 ?_ ?_
  ·skip
   exact ⟨rfl, rfl, rfl, rfl, fB⟩
  rintro s1 x7 ρ5 w6 ⟨e0, e1, e5, e6, fB⟩ h
  unfold rickyardref01_Lay.s0 at h
  refine cw_seq ?_
  refine cw_seq ?_
  refine cw_region ?_
  refine ol_val (v := .int .i64 s1.2) (by exact xr_move rfl e6) rfl rfl rfl ?_
  refine ol_val (v := .int .i64 a1) (by exact xr_move rfl e1) rfl rfl rfl ?_
  refine ol_val (v := .bool (decide (s1.2 < a1))) (by exact xr_lss rfl rfl rfl) rfl rfl rfl ?_
  refine ol_nil ?_
  rcases is h with ⟨c8, h⟩ | ⟨c8, h⟩
  ·refine cw_condT rfl c8 ?_
   refine cw_skip ?_
   refine cw_seq ?_
   refine cw_block ?_
   refine cw_region ?_
   refine ol_val (v := sv s1.1) (by exact xr_move rfl e5) rfl rfl rfl ?_
   refine ol_val (v := .int .u64 a0) (by exact xr_move rfl e0) rfl rfl rfl ?_
   refine ol_val (v := .int .i64 s1.2) (by exact xr_move rfl e6) rfl rfl rfl ?_
   obtain ⟨t9, k10, h⟩ := bs h
   refine ol_op (by exact opv_call rfl cal137 (ac rfl (ac rfl an)) (rickyardref01_Octet.ok fu _ a0 s1.2 _ k10)) rfl rfl rfl ?_
   rintro _ w12 ⟨rfl, q11⟩
   have fB := fB.gr q11
   refine ol_op (by exact opv_buildSlice (K := (kI .u8)) (xs := [t9]) (vals := [.int .u8 t9]) rfl Try.underlying43 el5 rfl rfl ⟨rfl, rfl, trivial⟩ rfl rfl rfl fB.size) rfl rfl rfl ?_
   rintro v13 w18 ⟨o15, q14, z16⟩
   have fB := fB.gr q14
   refine ol_val (v := sv (List.map toB [t9])) (by exact xr_toStr rfl Try.underlying43 Try.underlying5 Try.underlying9 rfl o15.rd) rfl rfl rfl ?_
   obtain ⟨g19, h⟩ := gs h
   refine ol_val (v := sv (s1.1 ++ (List.map toB [t9]))) (by exact xr_addStr rfl rfl rfl g19) rfl rfl rfl ?_
   refine ol_val (v := sv (s1.1 ++ (List.map toB [t9]))) (by exact xr_assign rfl rfl) rfl rfl rfl ?_
   refine ol_nil ?_
   refine blk_i ?_
   refine cw_region ?_
   refine ol_val (v := .int .i64 s1.2) (by exact xr_move rfl e6) rfl rfl rfl ?_
   refine ol_val (v := .int .i64 (IntKind.i64.wrap (s1.2 + 1))) (by exact xr_add rfl rfl rfl) rfl rfl rfl ?_
   refine ol_val (v := .int .i64 (IntKind.i64.wrap (s1.2 + 1))) (by exact xr_assign rfl rfl) rfl rfl rfl ?_
   refine ol_nil ?_
   obtain rfl := Option.some.inj h
   refine lp_in ?_
   exact ⟨e0, e1, rfl, rfl, fB⟩
  refine cw_condF rfl c8 ?_
  refine cw_exit ?_
  repeat (first | with_reducible refine thn_e ?_ | with_reducible refine blk_e rfl ?_)
  obtain rfl := Option.some.inj h
  refine lp_exit ?_
  rintro rfl
  refine thn_x ?_
  exact ⟨e5, fB⟩
 rintro ρ20 w21 ⟨e5, fB⟩
 have h := h4
 refine cw_seq ?_
 refine cw_region ?_
 refine ol_val (v := sv e2) (by exact xr_move rfl e5) rfl rfl rfl ?_
 refine ol_val (v := sv e2) (by exact xr_assign rfl rfl) rfl rfl rfl ?_
 refine ol_nil ?_
 refine cw_ret ?_
 repeat (first | with_reducible refine thn_r ?_ | with_reducible refine blk_r ?_)
 obtain rfl := Option.some.inj h
 refine fin_ret1 Try.results117 rfl ?_
 exact ⟨_, rfl, rfl, fB⟩
def rickyardref07_Fill.f (fu : Nat) (a0 : List UInt8) (a1 : Int) : Option (List UInt8) := (if 0 ≤ (mxI (IntKind.i64.wrap (a1 - (List.length a0 : Int))) 0) ∧ Int.toNat (mxI (IntKind.i64.wrap (a1 - (List.length a0 : Int))) 0) ≤ LIM then (if List.length a0 + List.length (List.map toB (List.replicate (Int.toNat (mxI (IntKind.i64.wrap (a1 - (List.length a0 : Int))) 0)) (0 : Int))) ≤ LIM then some ((a0 ++ (List.map toB (List.replicate (Int.toNat (mxI (IntKind.i64.wrap (a1 - (List.length a0 : Int))) 0)) (0 : Int))))) else none) else none)
set_option maxRecDepth 100000 in
set_option maxHeartbeats 400000 in
theorem rickyardref07_Fill.ok (fu : Nat) (w : World) (a0 : List UInt8) (a1 : Int) (r : (List UInt8)) (h : rickyardref07_Fill.f fu a0 a1 = some r) :
  Calls Try.prog 138 (([sv a0, .int .i64 a1] : List Value).toArray) w (fun e w' => ∃ v, e = .returned v ∧ v = sv r ∧ Gr w w') := by
 unfold rickyardref07_Fill.f at h
 have fB : Gr w w := Fr.refl _ _
 refine calls_cw Try.func138 rfl Try.ntmps138 rfl ?_
 refine cw_seq ?_
 refine cw_region ?_
 refine ol_val (v := sv []) (by exact xr_assign rfl rfl) rfl rfl rfl ?_
 refine ol_nil ?_
 refine cw_seq ?_
 refine cw_region ?_
 refine ol_val (v := sv a0) (by exact xr_move rfl rfl) rfl rfl rfl ?_
 refine ol_val (v := .int .i64 a1) (by exact xr_move rfl rfl) rfl rfl rfl ?_
 refine ol_val (v := sv a0) (by exact xr_move rfl rfl) rfl rfl rfl ?_
 refine ol_val (v := .int .i64 (List.length a0 : Int)) (by exact xr_lenStr rfl Try.underlying9 rfl) rfl rfl rfl ?_
 refine ol_val (v := .int .i64 (IntKind.i64.wrap (a1 - (List.length a0 : Int)))) (by exact xr_sub rfl rfl rfl) rfl rfl rfl ?_
 refine ol_val (v := .int .i64 (mxI (IntKind.i64.wrap (a1 - (List.length a0 : Int))) 0)) (by exact xr_max2 rfl rfl rfl) rfl rfl rfl ?_
 obtain ⟨g1, h⟩ := gs h
 refine ol_op (by exact opv_make (K := (kI .u8)) (z := (0 : Int)) rfl Try.underlying43 el5 rfl rfl rfl g1.1 g1.2 rfl fB.size) rfl rfl rfl ?_
 rintro v2 w7 ⟨o4, q3, z5⟩
 have fB := fB.gr q3
 refine ol_val (v := sv (List.map toB (List.replicate (Int.toNat (mxI (IntKind.i64.wrap (a1 - (List.length a0 : Int))) 0)) (0 : Int)))) (by exact xr_toStr rfl Try.underlying43 Try.underlying5 Try.underlying9 rfl o4.rd) rfl rfl rfl ?_
 obtain ⟨g8, h⟩ := gs h
 refine ol_val (v := sv (a0 ++ (List.map toB (List.replicate (Int.toNat (mxI (IntKind.i64.wrap (a1 - (List.length a0 : Int))) 0)) (0 : Int))))) (by exact xr_addStr rfl rfl rfl g8) rfl rfl rfl ?_
 refine ol_val (v := sv (a0 ++ (List.map toB (List.replicate (Int.toNat (mxI (IntKind.i64.wrap (a1 - (List.length a0 : Int))) 0)) (0 : Int))))) (by exact xr_assign rfl rfl) rfl rfl rfl ?_
 refine ol_nil ?_
 refine cw_ret ?_
 repeat (first | with_reducible refine thn_r ?_ | with_reducible refine blk_r ?_)
 obtain rfl := Option.some.inj h
 refine fin_ret1 Try.results138 rfl ?_
 exact ⟨_, rfl, rfl, fB⟩
def rickyardref02_Step.f (fu : Nat) (a0 : Int) : Option Int := (if (decide ((Int.tmod a0 2) = 1)) = true then some ((bXor .u32 (IntKind.u32.wrap (Int.tdiv a0 2)) 2197175160)) else some ((IntKind.u32.wrap (Int.tdiv a0 2))))
set_option maxRecDepth 100000 in
set_option maxHeartbeats 400000 in
theorem rickyardref02_Step.ok (fu : Nat) (w : World) (a0 : Int) (r : Int) (h : rickyardref02_Step.f fu a0 = some r) :
  Calls Try.prog 153 (([.int .u32 a0] : List Value).toArray) w (fun e w' => ∃ v, e = .returned v ∧ v = .int .u32 r ∧ Gr w w') := by
 unfold rickyardref02_Step.f at h
 have fB : Gr w w := Fr.refl _ _
 refine calls_cw Try.func153 rfl Try.ntmps153 rfl ?_
 refine cw_seq ?_
 refine cw_region ?_
 refine ol_val (v := .int .u32 0) (by exact xr_assign rfl rfl) rfl rfl rfl ?_
 refine ol_nil ?_
 refine cw_seq ?_
 refine cw_seq ?_
 refine cw_region ?_
 refine ol_val (v := .int .u32 a0) (by exact xr_move rfl rfl) rfl rfl rfl ?_
 refine ol_val (v := .int .u32 (Int.tmod a0 2)) (by exact xr_rem rfl rfl rfl (by decide)) rfl rfl rfl ?_
 refine ol_val (v := .bool (decide ((Int.tmod a0 2) = 1))) (by exact xr_eqI rfl Try.underlying191 rfl rfl rfl) rfl rfl rfl ?_
 refine ol_nil ?_
 rcases is h with ⟨c1, h⟩ | ⟨c1, h⟩
 ·refine cw_condT rfl c1 ?_
  refine cw_seq ?_
  refine cw_region ?_
  refine ol_val (v := .int .u32 a0) (by exact xr_move rfl rfl) rfl rfl rfl ?_
  refine ol_val (v := .int .u32 (IntKind.u32.wrap (Int.tdiv a0 2))) (by exact xr_quo rfl rfl rfl (by decide)) rfl rfl rfl ?_
  refine ol_val (v := .int .u32 (bXor .u32 (IntKind.u32.wrap (Int.tdiv a0 2)) 2197175160)) (by exact xr_xor rfl rfl rfl) rfl rfl rfl ?_
  refine ol_val (v := .int .u32 (bXor .u32 (IntKind.u32.wrap (Int.tdiv a0 2)) 2197175160)) (by exact xr_assign rfl rfl) rfl rfl rfl ?_
  refine ol_nil ?_
  refine cw_ret ?_
  repeat (first | with_reducible refine thn_r ?_ | with_reducible refine blk_r ?_)
  obtain rfl := Option.some.inj h
  refine fin_ret1 Try.results153 rfl ?_
  exact ⟨_, rfl, rfl, fB⟩
 refine cw_condF rfl c1 ?_
 refine cw_skip ?_
 refine cw_seq ?_
 refine cw_region ?_
 refine ol_val (v := .int .u32 a0) (by exact xr_move rfl rfl) rfl rfl rfl ?_
 refine ol_val (v := .int .u32 (IntKind.u32.wrap (Int.tdiv a0 2))) (by exact xr_quo rfl rfl rfl (by decide)) rfl rfl rfl ?_
 refine ol_val (v := .int .u32 (IntKind.u32.wrap (Int.tdiv a0 2))) (by exact xr_assign rfl rfl) rfl rfl rfl ?_
 refine ol_nil ?_
 refine cw_ret ?_
 repeat (first | with_reducible refine thn_r ?_ | with_reducible refine blk_r ?_)
 obtain rfl := Option.some.inj h
 refine fin_ret1 Try.results153 rfl ?_
 exact ⟨_, rfl, rfl, fB⟩
def rickyardref02_Steps.s0 (fu : Nat) (a1 : Int) : (Int × Int) → Option (Sum Int (Int × Int)) := fun s1 => (if (decide (s1.2 < a1)) = true then ((rickyardref02_Step.f fu s1.1 : Option Int).bind fun t9 => some (Sum.inr (t9, (IntKind.i64.wrap (s1.2 + 1))))) else some (Sum.inl (s1.1)))
def rickyardref02_Steps.f (fu : Nat) (a0 : Int) (a1 : Int) : Option Int := ((loopM (rickyardref02_Steps.s0 fu a1) fu (a0, 0)).bind fun e2 => some (e2))
set_option maxRecDepth 100000 in
set_option maxHeartbeats 400000 in
theorem rickyardref02_Steps.ok (fu : Nat) (w : World) (a0 : Int) (a1 : Int) (r : Int) (h : rickyardref02_Steps.f fu a0 a1 = some r) :
  Calls Try.prog 148 (([.int .u32 a0, .int .i64 a1] : List Value).toArray) w (fun e w' => ∃ v, e = .returned v ∧ v = .int .u32 r ∧ Gr w w') := by
 unfold rickyardref02_Steps.f at h
 have fB : Gr w w := Fr.refl _ _
 refine calls_cw Try.func148 rfl Try.ntmps148 rfl ?_
 refine cw_seq ?_
 refine cw_region ?_
 refine ol_val (v := .int .u32 0) (by exact xr_assign rfl rfl) rfl rfl rfl ?_
 refine ol_nil ?_
 refine cw_seq ?_
 refine cw_seq ?_
 refine cw_region ?_
 refine ol_val (v := .int .i64 0) (by exact xr_assign rfl rfl) rfl rfl rfl ?_
 refine ol_nil ?_
 obtain ⟨e2, l3, h4⟩ := bs h
 refine cw_mid (fun ρ' w' => ρ' 0 = .int .u32 e2 ∧ Gr w w') ?_ ?_
 ·refine cw_block ?_
  refine cw_round (fun (s1 : Int × Int) ρ' w' => ρ' 0 = .int .u32 s1.1 ∧ ρ' 1 = .int .i64 a1 ∧ ρ' 5 = .int .i64 s1.2 ∧ Gr w w') l3 ?_ ?_
  ·skip
   exact ⟨rfl, rfl, rfl, fB⟩
  rintro s1 x7 ρ5 w6 ⟨e0, e1, e5, fB⟩ h
  unfold rickyardref02_Steps.s0 at h
  refine cw_seq ?_
  refine cw_seq ?_
  refine cw_region ?_
  refine ol_val (v := .int .i64 s1.2) (by exact xr_move rfl e5) rfl rfl rfl ?_
  refine ol_val (v := .int .i64 a1) (by exact xr_move rfl e1) rfl rfl rfl ?_
  refine ol_val (v := .bool (decide (s1.2 < a1))) (by exact xr_lss rfl rfl rfl) rfl rfl rfl ?_
  refine ol_nil ?_
  rcases is h with ⟨c8, h⟩ | ⟨c8, h⟩
  ·refine cw_condT rfl c8 ?_
   refine cw_skip ?_
   refine cw_seq ?_
   refine cw_block ?_
   refine cw_region ?_
   refine ol_val (v := .int .u32 s1.1) (by exact xr_move rfl e0) rfl rfl rfl ?_
   obtain ⟨t9, k10, h⟩ := bs h
   refine ol_op (by exact opv_call rfl cal153 (ac rfl an) (rickyardref02_Step.ok fu _ s1.1 _ k10)) rfl rfl rfl ?_
   rintro _ w12 ⟨rfl, q11⟩
   have fB := fB.gr q11
   refine ol_val (v := .int .u32 t9) (by exact xr_assign rfl rfl) rfl rfl rfl ?_
   refine ol_nil ?_
   refine blk_i ?_
   refine cw_region ?_
   refine ol_val (v := .int .i64 s1.2) (by exact xr_move rfl e5) rfl rfl rfl ?_
   refine ol_val (v := .int .i64 (IntKind.i64.wrap (s1.2 + 1))) (by exact xr_add rfl rfl rfl) rfl rfl rfl ?_
   refine ol_val (v := .int .i64 (IntKind.i64.wrap (s1.2 + 1))) (by exact xr_assign rfl rfl) rfl rfl rfl ?_
   refine ol_nil ?_
   obtain rfl := Option.some.inj h
   refine lp_in ?_
   exact ⟨rfl, e1, rfl, fB⟩
  refine cw_condF rfl c8 ?_
  refine cw_exit ?_
  repeat (first | with_reducible refine thn_e ?_ | with_reducible refine blk_e rfl ?_)
  obtain rfl := Option.some.inj h
  refine lp_exit ?_
  rintro rfl
  refine thn_x ?_
  exact ⟨e0, fB⟩
 rintro ρ13 w14 ⟨e0, fB⟩
 have h := h4
 refine cw_seq ?_
 refine cw_region ?_
 refine ol_val (v := .int .u32 e2) (by exact xr_move rfl e0) rfl rfl rfl ?_
 refine ol_val (v := .int .u32 e2) (by exact xr_assign rfl rfl) rfl rfl rfl ?_
 refine ol_nil ?_
 refine cw_ret ?_
 repeat (first | with_reducible refine thn_r ?_ | with_reducible refine blk_r ?_)
 obtain rfl := Option.some.inj h
 refine fin_ret1 Try.results148 rfl ?_
 exact ⟨_, rfl, rfl, fB⟩
def rickyardref02_Sum.s0 (fu : Nat) (a0 : List Int) : (Int × Int) → Option (Sum Int (Int × Int)) := fun s1 => (if (decide (s1.2 < (List.length a0 : Int))) = true then (if 0 ≤ s1.2 ∧ s1.2 < (List.length a0 : Int) then ((rickyardref02_Steps.f fu (bXor .u32 s1.1 (IntKind.u32.wrap (ix a0 s1.2))) 8 : Option Int).bind fun t10 => some (Sum.inr (t10, (IntKind.i64.wrap (s1.2 + 1))))) else none) else some (Sum.inl (s1.1)))
def rickyardref02_Sum.f (fu : Nat) (a0 : List Int) : Option Int := ((loopM (rickyardref02_Sum.s0 fu a0) fu (4294967295, 0)).bind fun e2 => some ((IntKind.u32.wrap (4294967295 - e2))))
set_option maxRecDepth 100000 in
set_option maxHeartbeats 400000 in
theorem rickyardref02_Sum.ok (fu : Nat) (w : World) (a0 : List Int) (V0_0 : Value) (R0_0 : Rd (kI .u8) w V0_0 a0) (r : Int) (h : rickyardref02_Sum.f fu a0 = some r) :
  Calls Try.prog 139 (([V0_0] : List Value).toArray) w (fun e w' => ∃ v, e = .returned v ∧ v = .int .u32 r ∧ Gr w w') := by
 unfold rickyardref02_Sum.f at h
 have fB : Gr w w := Fr.refl _ _
 refine calls_cw Try.func139 rfl Try.ntmps139 rfl ?_
 refine cw_seq ?_
 refine cw_region ?_
 refine ol_val (v := .int .u32 0) (by exact xr_assign rfl rfl) rfl rfl rfl ?_
 refine ol_nil ?_
 refine cw_seq ?_
 refine cw_region ?_
 refine ol_val (v := .int .u32 4294967295) (by exact xr_assign rfl rfl) rfl rfl rfl ?_
 refine ol_nil ?_
 refine cw_seq ?_
 refine cw_seq ?_
 refine cw_region ?_
 refine ol_val (v := .int .i64 0) (by exact xr_assign rfl rfl) rfl rfl rfl ?_
 refine ol_nil ?_
 obtain ⟨e2, l3, h4⟩ := bs h
 refine cw_mid (fun ρ' w' => ρ' 3 = .int .u32 e2 ∧ Gr w w') ?_ ?_
 ·refine cw_block ?_
  refine cw_round (fun (s1 : Int × Int) ρ' w' => ρ' 0 = V0_0 ∧ ρ' 3 = .int .u32 s1.1 ∧ ρ' 4 = .int .i64 s1.2 ∧ Gr w w') l3 ?_ ?_
  ·skip
   exact ⟨rfl, rfl, rfl, fB⟩
  rintro s1 x7 ρ5 w6 ⟨e0, e3, e4, fB⟩ h
  unfold rickyardref02_Sum.s0 at h
  refine cw_seq ?_
  refine cw_seq ?_
  refine cw_region ?_
  refine ol_val (v := .int .i64 s1.2) (by exact xr_move rfl e4) rfl rfl rfl ?_
  refine ol_val (v := V0_0) (by exact xr_move rfl e0) rfl rfl rfl ?_
  refine ol_val (v := .int .i64 (List.length a0 : Int)) (by exact xr_lenR rfl Try.underlying43 rfl (R0_0.gr fB)) rfl rfl rfl ?_
  refine ol_val (v := .bool (decide (s1.2 < (List.length a0 : Int)))) (by exact xr_lss rfl rfl rfl) rfl rfl rfl ?_
  refine ol_nil ?_
  rcases is h with ⟨c8, h⟩ | ⟨c8, h⟩
  ·refine cw_condT rfl c8 ?_
   refine cw_skip ?_
   refine cw_seq ?_
   refine cw_block ?_
   refine cw_region ?_
   refine ol_val (v := .int .u32 s1.1) (by exact xr_move rfl e3) rfl rfl rfl ?_
   refine ol_val (v := V0_0) (by exact xr_move rfl e0) rfl rfl rfl ?_
   refine ol_val (v := .int .i64 s1.2) (by exact xr_move rfl e4) rfl rfl rfl ?_
   obtain ⟨g9, h⟩ := gs h
   refine ol_val (v := .pointer (some ⟨(sb V0_0), so V0_0 + Int.toNat s1.2 * 1, none⟩)) (by exact xr_indexR (K := (kI .u8)) (v := V0_0) rfl Try.underlying43 sz5 rfl (R0_0.gr fB) rfl g9.1 g9.2) rfl rfl rfl ?_
   refine ol_val (v := .int .u8 (ix a0 s1.2)) (by exact xr_load1 (v := .int .u8 (ix a0 s1.2)) rfl ag5 rfl ((R0_0.gr fB).elem g9.1 g9.2)) rfl rfl rfl ?_
   refine ol_val (v := .int .u32 (IntKind.u32.wrap (ix a0 s1.2))) (by exact xr_conv rfl Try.underlying5 Try.underlying191 rfl) rfl rfl rfl ?_
   refine ol_val (v := .int .u32 (bXor .u32 s1.1 (IntKind.u32.wrap (ix a0 s1.2)))) (by exact xr_xor rfl rfl rfl) rfl rfl rfl ?_
   obtain ⟨t10, k11, h⟩ := bs h
   refine ol_op (by exact opv_call rfl cal148 (ac rfl (ac rfl an)) (rickyardref02_Steps.ok fu _ (bXor .u32 s1.1 (IntKind.u32.wrap (ix a0 s1.2))) 8 _ k11)) rfl rfl rfl ?_
   rintro _ w13 ⟨rfl, q12⟩
   have fB := fB.gr q12
   refine ol_val (v := .int .u32 t10) (by exact xr_assign rfl rfl) rfl rfl rfl ?_
   refine ol_nil ?_
   refine blk_i ?_
   refine cw_region ?_
   refine ol_val (v := .int .i64 s1.2) (by exact xr_move rfl e4) rfl rfl rfl ?_
   refine ol_val (v := .int .i64 (IntKind.i64.wrap (s1.2 + 1))) (by exact xr_add rfl rfl rfl) rfl rfl rfl ?_
   refine ol_val (v := .int .i64 (IntKind.i64.wrap (s1.2 + 1))) (by exact xr_assign rfl rfl) rfl rfl rfl ?_
   refine ol_nil ?_
   obtain rfl := Option.some.inj h
   refine lp_in ?_
   exact ⟨e0, rfl, rfl, fB⟩
  refine cw_condF rfl c8 ?_
  refine cw_exit ?_
  repeat (first | with_reducible refine thn_e ?_ | with_reducible refine blk_e rfl ?_)
  obtain rfl := Option.some.inj h
  refine lp_exit ?_
  rintro rfl
  refine thn_x ?_
  exact ⟨e3, fB⟩
 rintro ρ14 w15 ⟨e3, fB⟩
 have h := h4
 refine cw_seq ?_
 refine cw_region ?_
 refine ol_val (v := .int .u32 e2) (by exact xr_move rfl e3) rfl rfl rfl ?_
 refine ol_val (v := .int .u32 (IntKind.u32.wrap (4294967295 - e2))) (by exact xr_sub rfl rfl rfl) rfl rfl rfl ?_
 refine ol_val (v := .int .u32 (IntKind.u32.wrap (4294967295 - e2))) (by exact xr_assign rfl rfl) rfl rfl rfl ?_
 refine ol_nil ?_
 refine cw_ret ?_
 repeat (first | with_reducible refine thn_r ?_ | with_reducible refine blk_r ?_)
 obtain rfl := Option.some.inj h
 refine fin_ret1 Try.results139 rfl ?_
 exact ⟨_, rfl, rfl, fB⟩
def rickyardref07_Seal.f (fu : Nat) (a0 : Int) (a1 : Int) (a2 : List UInt8) : Option (List UInt8) := ((rickyardref07_Fill.f fu a2 56 : Option (List UInt8)).bind fun t6 => (if List.length (List.map toB [(IntKind.u8.wrap a0), (IntKind.u8.wrap a1), 0, 0]) + List.length t6 ≤ LIM then ((rickyardref02_Sum.f fu (List.map ofB ((List.map toB [(IntKind.u8.wrap a0), (IntKind.u8.wrap a1), 0, 0]) ++ t6)) : Option Int).bind fun t17 => ((rickyardref01_Lay.f fu (IntKind.u64.wrap t17) 4 : Option (List UInt8)).bind fun t21 => (if List.length t21 + List.length ((List.map toB [(IntKind.u8.wrap a0), (IntKind.u8.wrap a1), 0, 0]) ++ t6) ≤ LIM then some ((t21 ++ ((List.map toB [(IntKind.u8.wrap a0), (IntKind.u8.wrap a1), 0, 0]) ++ t6))) else none))) else none))
set_option maxRecDepth 100000 in
set_option maxHeartbeats 400000 in
theorem rickyardref07_Seal.ok (fu : Nat) (w : World) (a0 : Int) (a1 : Int) (a2 : List UInt8) (r : (List UInt8)) (h : rickyardref07_Seal.f fu a0 a1 a2 = some r) :
  Calls Try.prog 118 (([.int .i64 a0, .int .i64 a1, sv a2] : List Value).toArray) w (fun e w' => ∃ v, e = .returned v ∧ v = sv r ∧ Gr w w') := by
 unfold rickyardref07_Seal.f at h
 have fB : Gr w w := Fr.refl _ _
 refine calls_cw Try.func118 rfl Try.ntmps118 rfl ?_
 refine cw_seq ?_
 refine cw_region ?_
 refine ol_val (v := sv []) (by exact xr_assign rfl rfl) rfl rfl rfl ?_
 refine ol_nil ?_
 refine cw_seq ?_
 obtain ⟨t6, k7, h⟩ := bs h
 refine cw_drawL 8 [fun vz wz => vz = (.int .i64 a0 : Value), fun vz wz => vz = (.int .u8 (IntKind.u8.wrap a0) : Value), fun vz wz => vz = (.int .i64 a1 : Value), fun vz wz => vz = (.int .u8 (IntKind.u8.wrap a1) : Value), fun vz wz => ∃ v1 : Value, ∃ o3 : Own (kI .u8) 5 wz w.heap.size v1 [(IntKind.u8.wrap a0), (IntKind.u8.wrap a1), 0, 0], vz = (v1 : Value), fun vz wz => vz = (sv (List.map toB [(IntKind.u8.wrap a0), (IntKind.u8.wrap a1), 0, 0]) : Value), fun vz wz => vz = (sv a2 : Value), fun vz wz => vz = (sv t6 : Value)] mo rfl ⟨fun _ _ _ h _ => h, fun _ _ _ h _ => h, fun _ _ _ h _ => h, fun _ _ _ h _ => h, fun _ _ _ ⟨v1, o3, h⟩ q => ⟨v1, o3.gr q, h⟩, fun _ _ _ h _ => h, fun _ _ _ h _ => h, fun _ _ _ h _ => h, trivial⟩ ?_ ?_
 ·refine ⟨?_, ?_, ?_, ?_, ?_, ?_, ?_, ?_, trivial⟩
  ·intro ρz wz hz hk hd
   exact sk_val (v := .int .i64 a0) (by exact xr_move rfl ((hk 0 rfl).trans rfl)) rfl rfl
  ·intro ρz wz hz hk hd
   have d8 := hd 0 rfl 8 rfl
   exact sk_val (v := .int .u8 (IntKind.u8.wrap a0)) (by exact xr_conv rfl Try.underlying3 Try.underlying5 d8) rfl rfl
  ·intro ρz wz hz hk hd
   exact sk_val (v := .int .i64 a1) (by exact xr_move rfl ((hk 1 rfl).trans rfl)) rfl rfl
  ·intro ρz wz hz hk hd
   have d10 := hd 2 rfl 10 rfl
   exact sk_val (v := .int .u8 (IntKind.u8.wrap a1)) (by exact xr_conv rfl Try.underlying3 Try.underlying5 d10) rfl rfl
  ·intro ρz wz hz hk hd
   have d9 := hd 1 rfl 9 rfl
   have d11 := hd 3 rfl 11 rfl
   refine sk_op (by exact opv_buildSlice (K := (kI .u8)) (xs := [(IntKind.u8.wrap a0), (IntKind.u8.wrap a1), 0, 0]) (vals := [.int .u8 (IntKind.u8.wrap a0), .int .u8 (IntKind.u8.wrap a1), .int .u8 0, .int .u8 0]) rfl Try.underlying43 el5 rfl rfl ⟨rfl, d9, ⟨rfl, d11, ⟨rfl, rfl, ⟨rfl, rfl, trivial⟩⟩⟩⟩ rfl rfl rfl (Nat.le_trans fB.size hz.size)) rfl ?_
   rintro v1 wy ⟨o3, q2, z4⟩
   exact ⟨⟨v1, o3, rfl⟩, q2⟩
  ·intro ρz wz hz hk hd
   obtain ⟨v1, o3, d12⟩ := hd 4 rfl 12 rfl
   exact sk_val (by exact xr_toStr rfl Try.underlying43 Try.underlying5 Try.underlying9 d12 o3.rd) rfl rfl
  ·intro ρz wz hz hk hd
   exact sk_val (v := sv a2) (by exact xr_move rfl ((hk 2 rfl).trans rfl)) rfl rfl
  intro ρz wz hz hk hd
  have d14 := hd 6 rfl 14 rfl
  refine sk_op (by exact opv_call rfl cal138 (ac d14 (ac rfl an)) (rickyardref07_Fill.ok fu _ a2 56 _ k7)) rfl ?_
  rintro _ wy ⟨rfl, q8⟩
  exact ⟨rfl, q8⟩
 intro ρ9 w10 q11 hk hd
 have e13 := hd 5 rfl 13 rfl
 have e15 := hd 7 rfl 15 rfl
 have fB := fB.gr q11
 obtain ⟨g12, h⟩ := gs h
 refine ol_val (v := sv ((List.map toB [(IntKind.u8.wrap a0), (IntKind.u8.wrap a1), 0, 0]) ++ t6)) (by exact xr_addStr rfl e13 e15 g12) rfl rfl rfl ?_
 refine ol_val (v := sv ((List.map toB [(IntKind.u8.wrap a0), (IntKind.u8.wrap a1), 0, 0]) ++ t6)) (by exact xr_assign rfl rfl) rfl rfl rfl ?_
 refine ol_nil ?_
 refine cw_seq ?_
 refine cw_region ?_
 refine ol_val (v := sv ((List.map toB [(IntKind.u8.wrap a0), (IntKind.u8.wrap a1), 0, 0]) ++ t6)) (by exact xr_move rfl rfl) rfl rfl rfl ?_
 refine ol_op (by exact opv_toBytes rfl Try.underlying9 Try.underlying43 Try.underlying5 rfl) rfl rfl rfl ?_
 rintro v13 w16 ⟨r15, q14⟩
 have fB := fB.gr q14
 obtain ⟨t17, k18, h⟩ := bs h
 refine ol_op (by exact opv_call rfl cal139 (ac rfl an) (rickyardref02_Sum.ok fu _ (List.map ofB ((List.map toB [(IntKind.u8.wrap a0), (IntKind.u8.wrap a1), 0, 0]) ++ t6)) v13 (r15) _ k18)) rfl rfl rfl ?_
 rintro _ w20 ⟨rfl, q19⟩
 have fB := fB.gr q19
 refine ol_val (v := .int .u64 (IntKind.u64.wrap t17)) (by exact xr_conv rfl Try.underlying191 Try.underlying22 rfl) rfl rfl rfl ?_
 obtain ⟨t21, k22, h⟩ := bs h
 refine ol_op (by exact opv_call rfl cal117 (ac rfl (ac rfl an)) (rickyardref01_Lay.ok fu _ (IntKind.u64.wrap t17) 4 _ k22)) rfl rfl rfl ?_
 rintro _ w24 ⟨rfl, q23⟩
 have fB := fB.gr q23
 refine ol_val (v := sv ((List.map toB [(IntKind.u8.wrap a0), (IntKind.u8.wrap a1), 0, 0]) ++ t6)) (by exact xr_move rfl rfl) rfl rfl rfl ?_
 obtain ⟨g25, h⟩ := gs h
 refine ol_val (v := sv (t21 ++ ((List.map toB [(IntKind.u8.wrap a0), (IntKind.u8.wrap a1), 0, 0]) ++ t6))) (by exact xr_addStr rfl rfl rfl g25) rfl rfl rfl ?_
 refine ol_val (v := sv (t21 ++ ((List.map toB [(IntKind.u8.wrap a0), (IntKind.u8.wrap a1), 0, 0]) ++ t6))) (by exact xr_assign rfl rfl) rfl rfl rfl ?_
 refine ol_nil ?_
 refine cw_ret ?_
 repeat (first | with_reducible refine thn_r ?_ | with_reducible refine blk_r ?_)
 obtain rfl := Option.some.inj h
 refine fin_ret1 Try.results118 rfl ?_
 exact ⟨_, rfl, rfl, fB⟩
def rickyardref13_Put.s0 (fu : Nat) (a0 : S_api_Super) : ((List UInt8) × Int) → Option (Sum (List UInt8) ((List UInt8) × Int)) := fun s44 => (if (decide (s44.2 < (List.length a0.Charts : Int))) = true then (if 0 ≤ s44.2 ∧ s44.2 < (List.length a0.Charts : Int) then ((rickyardref01_Lay.f fu (IntKind.u64.wrap (ix a0.Charts s44.2)) 2 : Option (List UInt8)).bind fun t53 => (if List.length s44.1 + List.length t53 ≤ LIM then some (Sum.inr ((s44.1 ++ t53), (IntKind.i64.wrap (s44.2 + 1)))) else none)) else none) else some (Sum.inl (s44.1)))
def rickyardref13_Put.f (fu : Nat) (a0 : S_api_Super) : Option (List UInt8) := ((rickyardref01_Lay.f fu (IntKind.u64.wrap a0.Epoch) 8 : Option (List UInt8)).bind fun t7 => ((rickyardref01_Lay.f fu (IntKind.u64.wrap a0.Tickets.Geometry.Blocks) 4 : Option (List UInt8)).bind fun t10 => (if List.length t7 + List.length t10 ≤ LIM then ((rickyardref01_Lay.f fu (IntKind.u64.wrap a0.Tickets.Geometry.Slots) 4 : Option (List UInt8)).bind fun t14 => (if List.length (t7 ++ t10) + List.length t14 ≤ LIM then ((rickyardref01_Lay.f fu (IntKind.u64.wrap a0.Tickets.Geometry.Gens) 4 : Option (List UInt8)).bind fun t18 => (if List.length ((t7 ++ t10) ++ t14) + List.length t18 ≤ LIM then ((rickyardref01_Lay.f fu (IntKind.u64.wrap a0.Tickets.High) 4 : Option (List UInt8)).bind fun t22 => (if List.length (((t7 ++ t10) ++ t14) ++ t18) + List.length t22 ≤ LIM then ((rickyardref01_Lay.f fu (IntKind.u64.wrap a0.Tickets.Free) 4 : Option (List UInt8)).bind fun t26 => (if List.length ((((t7 ++ t10) ++ t14) ++ t18) ++ t22) + List.length t26 ≤ LIM then ((rickyardref01_Lay.f fu (IntKind.u64.wrap a0.Tickets.Top) 2 : Option (List UInt8)).bind fun t33 => (if List.length (((((t7 ++ t10) ++ t14) ++ t18) ++ t22) ++ t26) + List.length t33 ≤ LIM then ((rickyardref01_Lay.f fu (IntKind.u64.wrap a0.Dir) 2 : Option (List UInt8)).bind fun t37 => (if List.length ((((((t7 ++ t10) ++ t14) ++ t18) ++ t22) ++ t26) ++ t33) + List.length t37 ≤ LIM then ((loopM (rickyardref13_Put.s0 fu a0) fu ((((((((t7 ++ t10) ++ t14) ++ t18) ++ t22) ++ t26) ++ t33) ++ t37), 0)).bind fun e45 => ((rickyardref07_Seal.f fu 7 (List.length a0.Charts : Int) e45 : Option (List UInt8)).bind fun t60 => some (t60))) else none)) else none)) else none)) else none)) else none)) else none)) else none)))
set_option maxRecDepth 100000 in
set_option maxHeartbeats 400000 in
theorem rickyardref13_Put.ok (fu : Nat) (w : World) (a0 : S_api_Super) (V0_0 : Value) (R0_0 : Rd (kI .i64) w V0_0 a0.Charts) (r : (List UInt8)) (h : rickyardref13_Put.f fu a0 = some r) :
  Calls Try.prog 76 (([aggV [Seg.cell (.int .i64 a0.Epoch), Seg.cell (.int .i64 a0.Tickets.Geometry.Blocks), Seg.cell (.int .i64 a0.Tickets.Geometry.Slots), Seg.cell (.int .i64 a0.Tickets.Geometry.Gens), Seg.cell (.int .i64 a0.Tickets.Top), Seg.cell (.int .i64 a0.Tickets.High), Seg.cell (.int .i64 a0.Tickets.Free), Seg.cell (.int .i64 a0.Dir), Seg.cell V0_0 R0_0.one]] : List Value).toArray) w (fun e w' => ∃ v, e = .returned v ∧ v = sv r ∧ Gr w w') := by
 unfold rickyardref13_Put.f at h
 have fB : Gr w w := Fr.refl _ _
 refine calls_cw Try.func76 rfl Try.ntmps76 rfl ?_
 refine cw_seq ?_
 refine cw_region ?_
 refine ol_op (by exact opv_box (ss := [Seg.cell (.int .i64 a0.Epoch), Seg.cell (.int .i64 a0.Tickets.Geometry.Blocks), Seg.cell (.int .i64 a0.Tickets.Geometry.Slots), Seg.cell (.int .i64 a0.Tickets.Geometry.Gens), Seg.cell (.int .i64 a0.Tickets.Top), Seg.cell (.int .i64 a0.Tickets.High), Seg.cell (.int .i64 a0.Tickets.Free), Seg.cell (.int .i64 a0.Dir), Seg.cell V0_0 R0_0.one]) rfl rfl rfl) rfl rfl rfl ?_
 rintro _ w6 ⟨G1, rfl, b2, q3, z4⟩
 have z4 := Nat.le_trans fB.size z4
 have fB := fB.gr q3
 refine ol_val (v := sv []) (by exact xr_assign rfl rfl) rfl rfl rfl ?_
 refine ol_nil ?_
 refine cw_seq ?_
 obtain ⟨t7, k8, h⟩ := bs h
 obtain ⟨t10, k11, h⟩ := bs h
 obtain ⟨g13, h⟩ := gs h
 obtain ⟨t14, k15, h⟩ := bs h
 obtain ⟨g17, h⟩ := gs h
 obtain ⟨t18, k19, h⟩ := bs h
 obtain ⟨g21, h⟩ := gs h
 obtain ⟨t22, k23, h⟩ := bs h
 obtain ⟨g25, h⟩ := gs h
 obtain ⟨t26, k27, h⟩ := bs h
 refine cw_drawL 36 [fun vz wz => vz = (.pointer (some ⟨G1, 0, none⟩) : Value), fun vz wz => vz = (.int .i64 a0.Epoch : Value), fun vz wz => vz = (.int .u64 (IntKind.u64.wrap a0.Epoch) : Value), fun vz wz => vz = (sv t7 : Value), fun vz wz => vz = (.pointer (some ⟨G1, 1, none⟩) : Value), fun vz wz => vz = (.pointer (some ⟨G1, 1, none⟩) : Value), fun vz wz => vz = (.pointer (some ⟨G1, 1, none⟩) : Value), fun vz wz => vz = (.int .i64 a0.Tickets.Geometry.Blocks : Value), fun vz wz => vz = (.int .u64 (IntKind.u64.wrap a0.Tickets.Geometry.Blocks) : Value), fun vz wz => vz = (sv t10 : Value), fun vz wz => vz = (sv (t7 ++ t10) : Value), fun vz wz => vz = (.pointer (some ⟨G1, 1, none⟩) : Value), fun vz wz => vz = (.pointer (some ⟨G1, 1, none⟩) : Value), fun vz wz => vz = (.pointer (some ⟨G1, 2, none⟩) : Value), fun vz wz => vz = (.int .i64 a0.Tickets.Geometry.Slots : Value), fun vz wz => vz = (.int .u64 (IntKind.u64.wrap a0.Tickets.Geometry.Slots) : Value), fun vz wz => vz = (sv t14 : Value), fun vz wz => vz = (sv ((t7 ++ t10) ++ t14) : Value), fun vz wz => vz = (.pointer (some ⟨G1, 1, none⟩) : Value), fun vz wz => vz = (.pointer (some ⟨G1, 1, none⟩) : Value), fun vz wz => vz = (.pointer (some ⟨G1, 3, none⟩) : Value), fun vz wz => vz = (.int .i64 a0.Tickets.Geometry.Gens : Value), fun vz wz => vz = (.int .u64 (IntKind.u64.wrap a0.Tickets.Geometry.Gens) : Value), fun vz wz => vz = (sv t18 : Value), fun vz wz => vz = (sv (((t7 ++ t10) ++ t14) ++ t18) : Value), fun vz wz => vz = (.pointer (some ⟨G1, 1, none⟩) : Value), fun vz wz => vz = (.pointer (some ⟨G1, 5, none⟩) : Value), fun vz wz => vz = (.int .i64 a0.Tickets.High : Value), fun vz wz => vz = (.int .u64 (IntKind.u64.wrap a0.Tickets.High) : Value), fun vz wz => vz = (sv t22 : Value), fun vz wz => vz = (sv ((((t7 ++ t10) ++ t14) ++ t18) ++ t22) : Value), fun vz wz => vz = (.pointer (some ⟨G1, 1, none⟩) : Value), fun vz wz => vz = (.pointer (some ⟨G1, 6, none⟩) : Value), fun vz wz => vz = (.int .i64 a0.Tickets.Free : Value), fun vz wz => vz = (.int .u64 (IntKind.u64.wrap a0.Tickets.Free) : Value), fun vz wz => vz = (sv t26 : Value)] mo rfl ⟨fun _ _ _ h _ => h, fun _ _ _ h _ => h, fun _ _ _ h _ => h, fun _ _ _ h _ => h, fun _ _ _ h _ => h, fun _ _ _ h _ => h, fun _ _ _ h _ => h, fun _ _ _ h _ => h, fun _ _ _ h _ => h, fun _ _ _ h _ => h, fun _ _ _ h _ => h, fun _ _ _ h _ => h, fun _ _ _ h _ => h, fun _ _ _ h _ => h, fun _ _ _ h _ => h, fun _ _ _ h _ => h, fun _ _ _ h _ => h, fun _ _ _ h _ => h, fun _ _ _ h _ => h, fun _ _ _ h _ => h, fun _ _ _ h _ => h, fun _ _ _ h _ => h, fun _ _ _ h _ => h, fun _ _ _ h _ => h, fun _ _ _ h _ => h, fun _ _ _ h _ => h, fun _ _ _ h _ => h, fun _ _ _ h _ => h, fun _ _ _ h _ => h, fun _ _ _ h _ => h, fun _ _ _ h _ => h, fun _ _ _ h _ => h, fun _ _ _ h _ => h, fun _ _ _ h _ => h, fun _ _ _ h _ => h, fun _ _ _ h _ => h, trivial⟩ ?_ ?_
 ·refine ⟨?_, ?_, ?_, ?_, ?_, ?_, ?_, ?_, ?_, ?_, ?_, ?_, ?_, ?_, ?_, ?_, ?_, ?_, ?_, ?_, ?_, ?_, ?_, ?_, ?_, ?_, ?_, ?_, ?_, ?_, ?_, ?_, ?_, ?_, ?_, ?_, trivial⟩
  ·intro ρz wz hz hk hd
   exact sk_val (v := .pointer (some ⟨G1, 0, none⟩)) (by exact xr_fieldAddr (p := 0) (q := 0) rfl fl110_0 ((hk 1 rfl).trans rfl)) rfl rfl
  ·intro ρz wz hz hk hd
   have d5 := hd 0 rfl 5 rfl
   exact sk_val (v := .int .i64 a0.Epoch) (by exact xr_load1 (v := .int .i64 a0.Epoch) rfl ag3 d5 ((b2.gr hz).seg 0 rfl rfl)) rfl rfl
  ·intro ρz wz hz hk hd
   have d6 := hd 1 rfl 6 rfl
   exact sk_val (v := .int .u64 (IntKind.u64.wrap a0.Epoch)) (by exact xr_conv rfl Try.underlying3 Try.underlying22 d6) rfl rfl
  ·intro ρz wz hz hk hd
   have d7 := hd 2 rfl 7 rfl
   refine sk_op (by exact opv_call rfl cal117 (ac d7 (ac rfl an)) (rickyardref01_Lay.ok fu _ (IntKind.u64.wrap a0.Epoch) 8 _ k8)) rfl ?_
   rintro _ wy ⟨rfl, q9⟩
   exact ⟨rfl, q9⟩
  ·intro ρz wz hz hk hd
   exact sk_val (v := .pointer (some ⟨G1, 1, none⟩)) (by exact xr_fieldAddr (p := 0) (q := 1) rfl fl110_1 ((hk 1 rfl).trans rfl)) rfl rfl
  ·intro ρz wz hz hk hd
   have d9 := hd 4 rfl 9 rfl
   exact sk_val (v := .pointer (some ⟨G1, 1, none⟩)) (by exact xr_fieldAddr (p := 1) (q := 0) rfl fl108_0 d9) rfl rfl
  ·intro ρz wz hz hk hd
   have d10 := hd 5 rfl 10 rfl
   exact sk_val (v := .pointer (some ⟨G1, 1, none⟩)) (by exact xr_fieldAddr (p := 1) (q := 0) rfl fl106_0 d10) rfl rfl
  ·intro ρz wz hz hk hd
   have d11 := hd 6 rfl 11 rfl
   exact sk_val (v := .int .i64 a0.Tickets.Geometry.Blocks) (by exact xr_load1 (v := .int .i64 a0.Tickets.Geometry.Blocks) rfl ag3 d11 ((b2.gr hz).seg 1 rfl rfl)) rfl rfl
  ·intro ρz wz hz hk hd
   have d12 := hd 7 rfl 12 rfl
   exact sk_val (v := .int .u64 (IntKind.u64.wrap a0.Tickets.Geometry.Blocks)) (by exact xr_conv rfl Try.underlying3 Try.underlying22 d12) rfl rfl
  ·intro ρz wz hz hk hd
   have d13 := hd 8 rfl 13 rfl
   refine sk_op (by exact opv_call rfl cal117 (ac d13 (ac rfl an)) (rickyardref01_Lay.ok fu _ (IntKind.u64.wrap a0.Tickets.Geometry.Blocks) 4 _ k11)) rfl ?_
   rintro _ wy ⟨rfl, q12⟩
   exact ⟨rfl, q12⟩
  ·intro ρz wz hz hk hd
   have d8 := hd 3 rfl 8 rfl
   have d14 := hd 9 rfl 14 rfl
   exact sk_val (v := sv (t7 ++ t10)) (by exact xr_addStr rfl d8 d14 g13) rfl rfl
  ·intro ρz wz hz hk hd
   exact sk_val (v := .pointer (some ⟨G1, 1, none⟩)) (by exact xr_fieldAddr (p := 0) (q := 1) rfl fl110_1 ((hk 1 rfl).trans rfl)) rfl rfl
  ·intro ρz wz hz hk hd
   have d16 := hd 11 rfl 16 rfl
   exact sk_val (v := .pointer (some ⟨G1, 1, none⟩)) (by exact xr_fieldAddr (p := 1) (q := 0) rfl fl108_0 d16) rfl rfl
  ·intro ρz wz hz hk hd
   have d17 := hd 12 rfl 17 rfl
   exact sk_val (v := .pointer (some ⟨G1, 2, none⟩)) (by exact xr_fieldAddr (p := 1) (q := 1) rfl fl106_1 d17) rfl rfl
  ·intro ρz wz hz hk hd
   have d18 := hd 13 rfl 18 rfl
   exact sk_val (v := .int .i64 a0.Tickets.Geometry.Slots) (by exact xr_load1 (v := .int .i64 a0.Tickets.Geometry.Slots) rfl ag3 d18 ((b2.gr hz).seg 2 rfl rfl)) rfl rfl
  ·intro ρz wz hz hk hd
   have d19 := hd 14 rfl 19 rfl
   exact sk_val (v := .int .u64 (IntKind.u64.wrap a0.Tickets.Geometry.Slots)) (by exact xr_conv rfl Try.underlying3 Try.underlying22 d19) rfl rfl
  ·intro ρz wz hz hk hd
   have d20 := hd 15 rfl 20 rfl
   refine sk_op (by exact opv_call rfl cal117 (ac d20 (ac rfl an)) (rickyardref01_Lay.ok fu _ (IntKind.u64.wrap a0.Tickets.Geometry.Slots) 4 _ k15)) rfl ?_
   rintro _ wy ⟨rfl, q16⟩
   exact ⟨rfl, q16⟩
  ·intro ρz wz hz hk hd
   have d15 := hd 10 rfl 15 rfl
   have d21 := hd 16 rfl 21 rfl
   exact sk_val (v := sv ((t7 ++ t10) ++ t14)) (by exact xr_addStr rfl d15 d21 g17) rfl rfl
  ·intro ρz wz hz hk hd
   exact sk_val (v := .pointer (some ⟨G1, 1, none⟩)) (by exact xr_fieldAddr (p := 0) (q := 1) rfl fl110_1 ((hk 1 rfl).trans rfl)) rfl rfl
  ·intro ρz wz hz hk hd
   have d23 := hd 18 rfl 23 rfl
   exact sk_val (v := .pointer (some ⟨G1, 1, none⟩)) (by exact xr_fieldAddr (p := 1) (q := 0) rfl fl108_0 d23) rfl rfl
  ·intro ρz wz hz hk hd
   have d24 := hd 19 rfl 24 rfl
   exact sk_val (v := .pointer (some ⟨G1, 3, none⟩)) (by exact xr_fieldAddr (p := 1) (q := 2) rfl fl106_2 d24) rfl rfl
  ·intro ρz wz hz hk hd
   have d25 := hd 20 rfl 25 rfl
   exact sk_val (v := .int .i64 a0.Tickets.Geometry.Gens) (by exact xr_load1 (v := .int .i64 a0.Tickets.Geometry.Gens) rfl ag3 d25 ((b2.gr hz).seg 3 rfl rfl)) rfl rfl
  ·intro ρz wz hz hk hd
   have d26 := hd 21 rfl 26 rfl
   exact sk_val (v := .int .u64 (IntKind.u64.wrap a0.Tickets.Geometry.Gens)) (by exact xr_conv rfl Try.underlying3 Try.underlying22 d26) rfl rfl
  ·intro ρz wz hz hk hd
   have d27 := hd 22 rfl 27 rfl
   refine sk_op (by exact opv_call rfl cal117 (ac d27 (ac rfl an)) (rickyardref01_Lay.ok fu _ (IntKind.u64.wrap a0.Tickets.Geometry.Gens) 4 _ k19)) rfl ?_
   rintro _ wy ⟨rfl, q20⟩
   exact ⟨rfl, q20⟩
  ·intro ρz wz hz hk hd
   have d22 := hd 17 rfl 22 rfl
   have d28 := hd 23 rfl 28 rfl
   exact sk_val (v := sv (((t7 ++ t10) ++ t14) ++ t18)) (by exact xr_addStr rfl d22 d28 g21) rfl rfl
  ·intro ρz wz hz hk hd
   exact sk_val (v := .pointer (some ⟨G1, 1, none⟩)) (by exact xr_fieldAddr (p := 0) (q := 1) rfl fl110_1 ((hk 1 rfl).trans rfl)) rfl rfl
  ·intro ρz wz hz hk hd
   have d30 := hd 25 rfl 30 rfl
   exact sk_val (v := .pointer (some ⟨G1, 5, none⟩)) (by exact xr_fieldAddr (p := 1) (q := 4) rfl fl108_2 d30) rfl rfl
  ·intro ρz wz hz hk hd
   have d31 := hd 26 rfl 31 rfl
   exact sk_val (v := .int .i64 a0.Tickets.High) (by exact xr_load1 (v := .int .i64 a0.Tickets.High) rfl ag3 d31 ((b2.gr hz).seg 5 rfl rfl)) rfl rfl
  ·intro ρz wz hz hk hd
   have d32 := hd 27 rfl 32 rfl
   exact sk_val (v := .int .u64 (IntKind.u64.wrap a0.Tickets.High)) (by exact xr_conv rfl Try.underlying3 Try.underlying22 d32) rfl rfl
  ·intro ρz wz hz hk hd
   have d33 := hd 28 rfl 33 rfl
   refine sk_op (by exact opv_call rfl cal117 (ac d33 (ac rfl an)) (rickyardref01_Lay.ok fu _ (IntKind.u64.wrap a0.Tickets.High) 4 _ k23)) rfl ?_
   rintro _ wy ⟨rfl, q24⟩
   exact ⟨rfl, q24⟩
  ·intro ρz wz hz hk hd
   have d29 := hd 24 rfl 29 rfl
   have d34 := hd 29 rfl 34 rfl
   exact sk_val (v := sv ((((t7 ++ t10) ++ t14) ++ t18) ++ t22)) (by exact xr_addStr rfl d29 d34 g25) rfl rfl
  ·intro ρz wz hz hk hd
   exact sk_val (v := .pointer (some ⟨G1, 1, none⟩)) (by exact xr_fieldAddr (p := 0) (q := 1) rfl fl110_1 ((hk 1 rfl).trans rfl)) rfl rfl
  ·intro ρz wz hz hk hd
   have d36 := hd 31 rfl 36 rfl
   exact sk_val (v := .pointer (some ⟨G1, 6, none⟩)) (by exact xr_fieldAddr (p := 1) (q := 5) rfl fl108_3 d36) rfl rfl
  ·intro ρz wz hz hk hd
   have d37 := hd 32 rfl 37 rfl
   exact sk_val (v := .int .i64 a0.Tickets.Free) (by exact xr_load1 (v := .int .i64 a0.Tickets.Free) rfl ag3 d37 ((b2.gr hz).seg 6 rfl rfl)) rfl rfl
  ·intro ρz wz hz hk hd
   have d38 := hd 33 rfl 38 rfl
   exact sk_val (v := .int .u64 (IntKind.u64.wrap a0.Tickets.Free)) (by exact xr_conv rfl Try.underlying3 Try.underlying22 d38) rfl rfl
  intro ρz wz hz hk hd
  have d39 := hd 34 rfl 39 rfl
  refine sk_op (by exact opv_call rfl cal117 (ac d39 (ac rfl an)) (rickyardref01_Lay.ok fu _ (IntKind.u64.wrap a0.Tickets.Free) 4 _ k27)) rfl ?_
  rintro _ wy ⟨rfl, q28⟩
  exact ⟨rfl, q28⟩
 intro ρ29 w30 q31 hk hd
 have e1 := (hk 1 rfl).trans rfl
 have e35 := hd 30 rfl 35 rfl
 have e40 := hd 35 rfl 40 rfl
 have b2 := b2.gr q31
 have fB := fB.gr q31
 obtain ⟨g32, h⟩ := gs h
 refine ol_val (v := sv (((((t7 ++ t10) ++ t14) ++ t18) ++ t22) ++ t26)) (by exact xr_addStr rfl e35 e40 g32) rfl rfl rfl ?_
 refine ol_val (v := sv (((((t7 ++ t10) ++ t14) ++ t18) ++ t22) ++ t26)) (by exact xr_assign rfl rfl) rfl rfl rfl ?_
 refine ol_nil ?_
 refine cw_seq ?_
 obtain ⟨t33, k34, h⟩ := bs h
 obtain ⟨g36, h⟩ := gs h
 obtain ⟨t37, k38, h⟩ := bs h
 refine cw_drawL 11 [fun vz wz => vz = (sv (((((t7 ++ t10) ++ t14) ++ t18) ++ t22) ++ t26) : Value), fun vz wz => vz = (.pointer (some ⟨G1, 1, none⟩) : Value), fun vz wz => vz = (.pointer (some ⟨G1, 4, none⟩) : Value), fun vz wz => vz = (.int .i64 a0.Tickets.Top : Value), fun vz wz => vz = (.int .u64 (IntKind.u64.wrap a0.Tickets.Top) : Value), fun vz wz => vz = (sv t33 : Value), fun vz wz => vz = (sv ((((((t7 ++ t10) ++ t14) ++ t18) ++ t22) ++ t26) ++ t33) : Value), fun vz wz => vz = (.pointer (some ⟨G1, 7, none⟩) : Value), fun vz wz => vz = (.int .i64 a0.Dir : Value), fun vz wz => vz = (.int .u64 (IntKind.u64.wrap a0.Dir) : Value), fun vz wz => vz = (sv t37 : Value)] mo rfl ⟨fun _ _ _ h _ => h, fun _ _ _ h _ => h, fun _ _ _ h _ => h, fun _ _ _ h _ => h, fun _ _ _ h _ => h, fun _ _ _ h _ => h, fun _ _ _ h _ => h, fun _ _ _ h _ => h, fun _ _ _ h _ => h, fun _ _ _ h _ => h, fun _ _ _ h _ => h, trivial⟩ ?_ ?_
 ·refine ⟨?_, ?_, ?_, ?_, ?_, ?_, ?_, ?_, ?_, ?_, ?_, trivial⟩
  ·intro ρz wz hz hk hd
   exact sk_val (v := sv (((((t7 ++ t10) ++ t14) ++ t18) ++ t22) ++ t26)) (by exact xr_move rfl ((hk 3 rfl).trans rfl)) rfl rfl
  ·intro ρz wz hz hk hd
   exact sk_val (v := .pointer (some ⟨G1, 1, none⟩)) (by exact xr_fieldAddr (p := 0) (q := 1) rfl fl110_1 ((hk 1 rfl).trans e1)) rfl rfl
  ·intro ρz wz hz hk hd
   have d43 := hd 1 rfl 43 rfl
   exact sk_val (v := .pointer (some ⟨G1, 4, none⟩)) (by exact xr_fieldAddr (p := 1) (q := 3) rfl fl108_1 d43) rfl rfl
  ·intro ρz wz hz hk hd
   have d44 := hd 2 rfl 44 rfl
   exact sk_val (v := .int .i64 a0.Tickets.Top) (by exact xr_load1 (v := .int .i64 a0.Tickets.Top) rfl ag3 d44 ((b2.gr hz).seg 4 rfl rfl)) rfl rfl
  ·intro ρz wz hz hk hd
   have d45 := hd 3 rfl 45 rfl
   exact sk_val (v := .int .u64 (IntKind.u64.wrap a0.Tickets.Top)) (by exact xr_conv rfl Try.underlying3 Try.underlying22 d45) rfl rfl
  ·intro ρz wz hz hk hd
   have d46 := hd 4 rfl 46 rfl
   refine sk_op (by exact opv_call rfl cal117 (ac d46 (ac rfl an)) (rickyardref01_Lay.ok fu _ (IntKind.u64.wrap a0.Tickets.Top) 2 _ k34)) rfl ?_
   rintro _ wy ⟨rfl, q35⟩
   exact ⟨rfl, q35⟩
  ·intro ρz wz hz hk hd
   have d42 := hd 0 rfl 42 rfl
   have d47 := hd 5 rfl 47 rfl
   exact sk_val (v := sv ((((((t7 ++ t10) ++ t14) ++ t18) ++ t22) ++ t26) ++ t33)) (by exact xr_addStr rfl d42 d47 g36) rfl rfl
  ·intro ρz wz hz hk hd
   exact sk_val (v := .pointer (some ⟨G1, 7, none⟩)) (by exact xr_fieldAddr (p := 0) (q := 7) rfl fl110_2 ((hk 1 rfl).trans e1)) rfl rfl
  ·intro ρz wz hz hk hd
   have d49 := hd 7 rfl 49 rfl
   exact sk_val (v := .int .i64 a0.Dir) (by exact xr_load1 (v := .int .i64 a0.Dir) rfl ag3 d49 ((b2.gr hz).seg 7 rfl rfl)) rfl rfl
  ·intro ρz wz hz hk hd
   have d50 := hd 8 rfl 50 rfl
   exact sk_val (v := .int .u64 (IntKind.u64.wrap a0.Dir)) (by exact xr_conv rfl Try.underlying3 Try.underlying22 d50) rfl rfl
  intro ρz wz hz hk hd
  have d51 := hd 9 rfl 51 rfl
  refine sk_op (by exact opv_call rfl cal117 (ac d51 (ac rfl an)) (rickyardref01_Lay.ok fu _ (IntKind.u64.wrap a0.Dir) 2 _ k38)) rfl ?_
  rintro _ wy ⟨rfl, q39⟩
  exact ⟨rfl, q39⟩
 intro ρ40 w41 q42 hk hd
 have e1 := (hk 1 rfl).trans e1
 have e48 := hd 6 rfl 48 rfl
 have e52 := hd 10 rfl 52 rfl
 have b2 := b2.gr q42
 have fB := fB.gr q42
 obtain ⟨g43, h⟩ := gs h
 refine ol_val (v := sv (((((((t7 ++ t10) ++ t14) ++ t18) ++ t22) ++ t26) ++ t33) ++ t37)) (by exact xr_addStr rfl e48 e52 g43) rfl rfl rfl ?_
 refine ol_val (v := sv (((((((t7 ++ t10) ++ t14) ++ t18) ++ t22) ++ t26) ++ t33) ++ t37)) (by exact xr_assign rfl rfl) rfl rfl rfl ?_
 refine ol_nil ?_
 refine cw_seq ?_
 refine cw_seq ?_
 refine cw_region ?_
 refine ol_val (v := .int .i64 0) (by exact xr_assign rfl rfl) rfl rfl rfl ?_
 refine ol_nil ?_
 obtain ⟨e45, l46, h47⟩ := bs h
 refine cw_mid (fun ρ' w' => ρ' 1 = .pointer (some ⟨G1, 0, none⟩) ∧ ρ' 3 = sv e45 ∧ Blk w' G1 110 [Seg.cell (.int .i64 a0.Epoch), Seg.cell (.int .i64 a0.Tickets.Geometry.Blocks), Seg.cell (.int .i64 a0.Tickets.Geometry.Slots), Seg.cell (.int .i64 a0.Tickets.Geometry.Gens), Seg.cell (.int .i64 a0.Tickets.Top), Seg.cell (.int .i64 a0.Tickets.High), Seg.cell (.int .i64 a0.Tickets.Free), Seg.cell (.int .i64 a0.Dir), Seg.cell V0_0 R0_0.one] ∧ Gr w w') ?_ ?_
 ·refine cw_block ?_
  refine cw_round (fun (s44 : (List UInt8) × Int) ρ' w' => ρ' 1 = .pointer (some ⟨G1, 0, none⟩) ∧ ρ' 3 = sv s44.1 ∧ ρ' 4 = .int .i64 s44.2 ∧ Blk w' G1 110 [Seg.cell (.int .i64 a0.Epoch), Seg.cell (.int .i64 a0.Tickets.Geometry.Blocks), Seg.cell (.int .i64 a0.Tickets.Geometry.Slots), Seg.cell (.int .i64 a0.Tickets.Geometry.Gens), Seg.cell (.int .i64 a0.Tickets.Top), Seg.cell (.int .i64 a0.Tickets.High), Seg.cell (.int .i64 a0.Tickets.Free), Seg.cell (.int .i64 a0.Dir), Seg.cell V0_0 R0_0.one] ∧ Gr w w') l46 ?_ ?_
  ·skip
   exact ⟨e1, rfl, rfl, b2, fB⟩
  rintro s44 x50 ρ48 w49 ⟨e1, e3, e4, b2, fB⟩ h
  unfold rickyardref13_Put.s0 at h
  refine cw_seq ?_
  refine cw_seq ?_
  refine cw_region ?_
  refine ol_val (v := .int .i64 s44.2) (by exact xr_move rfl e4) rfl rfl rfl ?_
  refine ol_val (v := .pointer (some ⟨G1, 8, none⟩)) (by exact xr_fieldAddr (p := 0) (q := 8) rfl fl110_3 e1) rfl rfl rfl ?_
  refine ol_val (v := V0_0) (by exact xr_load1 (v := V0_0) rfl ag25 rfl (b2.seg 8 rfl rfl)) rfl rfl rfl ?_
  refine ol_val (v := .int .i64 (List.length a0.Charts : Int)) (by exact xr_lenR rfl Try.underlying25 rfl (R0_0.gr fB)) rfl rfl rfl ?_
  refine ol_val (v := .bool (decide (s44.2 < (List.length a0.Charts : Int)))) (by exact xr_lss rfl rfl rfl) rfl rfl rfl ?_
  refine ol_nil ?_
  rcases is h with ⟨c51, h⟩ | ⟨c51, h⟩
  ·refine cw_condT rfl c51 ?_
   refine cw_skip ?_
   refine cw_seq ?_
   refine cw_block ?_
   refine cw_region ?_
   refine ol_val (v := sv s44.1) (by exact xr_move rfl e3) rfl rfl rfl ?_
   refine ol_val (v := .pointer (some ⟨G1, 8, none⟩)) (by exact xr_fieldAddr (p := 0) (q := 8) rfl fl110_3 e1) rfl rfl rfl ?_
   refine ol_val (v := V0_0) (by exact xr_load1 (v := V0_0) rfl ag25 rfl (b2.seg 8 rfl rfl)) rfl rfl rfl ?_
   refine ol_val (v := .int .i64 s44.2) (by exact xr_move rfl e4) rfl rfl rfl ?_
   obtain ⟨g52, h⟩ := gs h
   refine ol_val (v := .pointer (some ⟨(sb V0_0), so V0_0 + Int.toNat s44.2 * 1, none⟩)) (by exact xr_indexR (K := (kI .i64)) (v := V0_0) rfl Try.underlying25 sz3 rfl (R0_0.gr fB) rfl g52.1 g52.2) rfl rfl rfl ?_
   refine ol_val (v := .int .i64 (ix a0.Charts s44.2)) (by exact xr_load1 (v := .int .i64 (ix a0.Charts s44.2)) rfl ag3 rfl ((R0_0.gr fB).elem g52.1 g52.2)) rfl rfl rfl ?_
   refine ol_val (v := .int .u64 (IntKind.u64.wrap (ix a0.Charts s44.2))) (by exact xr_conv rfl Try.underlying3 Try.underlying22 rfl) rfl rfl rfl ?_
   obtain ⟨t53, k54, h⟩ := bs h
   refine ol_op (by exact opv_call rfl cal117 (ac rfl (ac rfl an)) (rickyardref01_Lay.ok fu _ (IntKind.u64.wrap (ix a0.Charts s44.2)) 2 _ k54)) rfl rfl rfl ?_
   rintro _ w56 ⟨rfl, q55⟩
   have b2 := b2.gr q55
   have fB := fB.gr q55
   obtain ⟨g57, h⟩ := gs h
   refine ol_val (v := sv (s44.1 ++ t53)) (by exact xr_addStr rfl rfl rfl g57) rfl rfl rfl ?_
   refine ol_val (v := sv (s44.1 ++ t53)) (by exact xr_assign rfl rfl) rfl rfl rfl ?_
   refine ol_nil ?_
   refine blk_i ?_
   refine cw_region ?_
   refine ol_val (v := .int .i64 s44.2) (by exact xr_move rfl e4) rfl rfl rfl ?_
   refine ol_val (v := .int .i64 (IntKind.i64.wrap (s44.2 + 1))) (by exact xr_add rfl rfl rfl) rfl rfl rfl ?_
   refine ol_val (v := .int .i64 (IntKind.i64.wrap (s44.2 + 1))) (by exact xr_assign rfl rfl) rfl rfl rfl ?_
   refine ol_nil ?_
   obtain rfl := Option.some.inj h
   refine lp_in ?_
   exact ⟨e1, rfl, rfl, b2, fB⟩
  refine cw_condF rfl c51 ?_
  refine cw_exit ?_
  repeat (first | with_reducible refine thn_e ?_ | with_reducible refine blk_e rfl ?_)
  obtain rfl := Option.some.inj h
  refine lp_exit ?_
  rintro rfl
  refine thn_x ?_
  exact ⟨e1, e3, b2, fB⟩
 rintro ρ58 w59 ⟨e1, e3, b2, fB⟩
 have h := h47
 refine cw_seq ?_
 refine cw_region ?_
 refine ol_val (v := .pointer (some ⟨G1, 8, none⟩)) (by exact xr_fieldAddr (p := 0) (q := 8) rfl fl110_3 e1) rfl rfl rfl ?_
 refine ol_val (v := V0_0) (by exact xr_load1 (v := V0_0) rfl ag25 rfl (b2.seg 8 rfl rfl)) rfl rfl rfl ?_
 refine ol_val (v := .int .i64 (List.length a0.Charts : Int)) (by exact xr_lenR rfl Try.underlying25 rfl (R0_0.gr fB)) rfl rfl rfl ?_
 refine ol_val (v := sv e45) (by exact xr_move rfl e3) rfl rfl rfl ?_
 obtain ⟨t60, k61, h⟩ := bs h
 refine ol_op (by exact opv_call rfl cal118 (ac rfl (ac rfl (ac rfl an))) (rickyardref07_Seal.ok fu _ 7 (List.length a0.Charts : Int) e45 _ k61)) rfl rfl rfl ?_
 rintro _ w63 ⟨rfl, q62⟩
 have fB := fB.gr q62
 refine ol_val (v := sv t60) (by exact xr_assign rfl rfl) rfl rfl rfl ?_
 refine ol_nil ?_
 refine cw_ret ?_
 repeat (first | with_reducible refine thn_r ?_ | with_reducible refine blk_r ?_)
 obtain rfl := Option.some.inj h
 refine fin_ret1 Try.results76 rfl ?_
 exact ⟨_, rfl, rfl, fB⟩
def rickyardref07_Open.f (fu : Nat) (a0 : List Int) : Option (Int × Int × (List UInt8) × Bool) := (((if (!decide ((List.length a0 : Int) = 64)) = true then some (true) else (if (4 : Int) < (List.length a0 : Int) then (if (decide ((ix a0 4) = 0)) = true then some (true) else (if (4 : Int) < (List.length a0 : Int) then (if (5 : Int) < (List.length a0 : Int) then (if (8 : Int) ≤ (List.length a0 : Int) then ((rickyardref07_Seal.f fu (IntKind.i64.wrap (ix a0 4)) (IntKind.i64.wrap (ix a0 5)) (List.map toB (cut a0 8 (List.length a0 : Int))) : Option (List UInt8)).bind fun t16 => some ((!decide (t16 = (List.map toB a0))))) else none) else none) else none)) else none)) : Option Bool).bind fun x1 => (if x1 = true then some (0, 0, [], false) else (if (4 : Int) < (List.length a0 : Int) then (if (5 : Int) < (List.length a0 : Int) then (if (8 : Int) ≤ (List.length a0 : Int) then some ((IntKind.i64.wrap (ix a0 4)), (IntKind.i64.wrap (ix a0 5)), (List.map toB (cut a0 8 (List.length a0 : Int))), true) else none) else none) else none)))
set_option maxRecDepth 100000 in
set_option maxHeartbeats 400000 in
theorem rickyardref07_Open.ok (fu : Nat) (w : World) (a0 : List Int) (V0_0 : Value) (R0_0 : Rd (kI .u8) w V0_0 a0) (r : Int × Int × (List UInt8) × Bool) (h : rickyardref07_Open.f fu a0 = some r) :
  Calls Try.prog 134 (([V0_0] : List Value).toArray) w (fun e w' => ∃ v, e = .returned v ∧ v = .tuple #[.int .i64 r.1, .int .i64 r.2.1, sv r.2.2.1, .bool r.2.2.2] ∧ Gr w w') := by
 unfold rickyardref07_Open.f at h
 have fB : Gr w w := Fr.refl _ _
 refine calls_cw Try.func134 rfl Try.ntmps134 rfl ?_
 refine cw_seq ?_
 refine cw_region ?_
 refine ol_val (v := .int .i64 0) (by exact xr_assign rfl rfl) rfl rfl rfl ?_
 refine ol_val (v := .int .i64 0) (by exact xr_assign rfl rfl) rfl rfl rfl ?_
 refine ol_val (v := sv []) (by exact xr_assign rfl rfl) rfl rfl rfl ?_
 refine ol_val (v := .bool false) (by exact xr_assign rfl rfl) rfl rfl rfl ?_
 refine ol_nil ?_
 refine cw_seq ?_
 refine cw_seq ?_
 obtain ⟨x1, j2, h⟩ := bs h
 refine cw_mid (fun ρ' w' => ρ' 0 = V0_0 ∧ ρ' 31 = .bool x1 ∧ Gr w w') ?_ ?_
 ·skip
  rcases is j2 with ⟨c3, j2⟩ | ⟨c3, j2⟩
  ·skip
   refine cw_drawL 25 [fun vz wz => vz = (V0_0 : Value), fun vz wz => vz = (.int .i64 (List.length a0 : Int) : Value), fun vz wz => vz = (.bool (!decide ((List.length a0 : Int) = 64)) : Value), fun vz wz => vz = (.bool (!decide ((List.length a0 : Int) = 64)) : Value), fun vz _ => vz = undef, fun vz _ => vz = undef, fun vz _ => vz = undef, fun vz _ => vz = undef, fun vz wz => vz = (.bool true : Value), fun vz wz => vz = (.bool true : Value), fun vz _ => vz = undef, fun vz _ => vz = undef, fun vz _ => vz = undef, fun vz _ => vz = undef, fun vz _ => vz = undef, fun vz _ => vz = undef, fun vz _ => vz = undef, fun vz _ => vz = undef, fun vz _ => vz = undef, fun vz _ => vz = undef, fun vz _ => vz = undef, fun vz _ => vz = undef, fun vz _ => vz = undef, fun vz _ => vz = undef, fun vz _ => vz = undef] mo rfl ⟨fun _ _ _ h _ => h, fun _ _ _ h _ => h, fun _ _ _ h _ => h, fun _ _ _ h _ => h, fun _ _ _ h _ => h, fun _ _ _ h _ => h, fun _ _ _ h _ => h, fun _ _ _ h _ => h, fun _ _ _ h _ => h, fun _ _ _ h _ => h, fun _ _ _ h _ => h, fun _ _ _ h _ => h, fun _ _ _ h _ => h, fun _ _ _ h _ => h, fun _ _ _ h _ => h, fun _ _ _ h _ => h, fun _ _ _ h _ => h, fun _ _ _ h _ => h, fun _ _ _ h _ => h, fun _ _ _ h _ => h, fun _ _ _ h _ => h, fun _ _ _ h _ => h, fun _ _ _ h _ => h, fun _ _ _ h _ => h, fun _ _ _ h _ => h, trivial⟩ ?_ ?_
   ·refine ⟨?_, ?_, ?_, ?_, ?_, ?_, ?_, ?_, ?_, ?_, ?_, ?_, ?_, ?_, ?_, ?_, ?_, ?_, ?_, ?_, ?_, ?_, ?_, ?_, ?_, trivial⟩
    ·intro ρz wz hz hk hd
     exact sk_val (v := V0_0) (by exact xr_move rfl ((hk 0 rfl).trans rfl)) rfl rfl
    ·intro ρz wz hz hk hd
     have d6 := hd 0 rfl 6 rfl
     exact sk_val (v := .int .i64 (List.length a0 : Int)) (by exact xr_lenR rfl Try.underlying43 d6 (R0_0.gr (fB.gr hz))) rfl rfl
    ·intro ρz wz hz hk hd
     have d7 := hd 1 rfl 7 rfl
     exact sk_val (v := .bool (!decide ((List.length a0 : Int) = 64))) (by exact xr_neI rfl Try.underlying3 rfl d7 rfl) rfl rfl
    ·intro ρz wz hz hk hd
     have d8 := hd 2 rfl 8 rfl
     exact sk_val (v := .bool (!decide ((List.length a0 : Int) = 64))) (by exact xr_move rfl d8) rfl rfl
    ·intro ρz wz hz hk hd
     have d9 := hd 3 rfl 9 rfl
     exact sk_skip rfl rfl d9 c3 rfl
    ·intro ρz wz hz hk hd
     have d9 := hd 3 rfl 9 rfl
     exact sk_skip rfl rfl d9 c3 rfl
    ·intro ρz wz hz hk hd
     have d9 := hd 3 rfl 9 rfl
     exact sk_skip rfl rfl d9 c3 rfl
    ·intro ρz wz hz hk hd
     have d9 := hd 3 rfl 9 rfl
     exact sk_skip rfl rfl d9 c3 rfl
    ·intro ρz wz hz hk hd
     have d9 := hd 3 rfl 9 rfl
     exact sk_val (v := .bool true) (by exact xr_pickT rfl d9 c3 rfl) rfl rfl
    ·intro ρz wz hz hk hd
     have d14 := hd 8 rfl 14 rfl
     exact sk_val (v := .bool true) (by exact xr_move rfl d14) rfl rfl
    ·intro ρz wz hz hk hd
     have d15 := hd 9 rfl 15 rfl
     exact sk_skip rfl rfl d15 rfl rfl
    ·intro ρz wz hz hk hd
     have d15 := hd 9 rfl 15 rfl
     exact sk_skip rfl rfl d15 rfl rfl
    ·intro ρz wz hz hk hd
     have d15 := hd 9 rfl 15 rfl
     exact sk_skip rfl rfl d15 rfl rfl
    ·intro ρz wz hz hk hd
     have d15 := hd 9 rfl 15 rfl
     exact sk_skip rfl rfl d15 rfl rfl
    ·intro ρz wz hz hk hd
     have d15 := hd 9 rfl 15 rfl
     exact sk_skip rfl rfl d15 rfl rfl
    ·intro ρz wz hz hk hd
     have d15 := hd 9 rfl 15 rfl
     exact sk_skip rfl rfl d15 rfl rfl
    ·intro ρz wz hz hk hd
     have d15 := hd 9 rfl 15 rfl
     exact sk_skip rfl rfl d15 rfl rfl
    ·intro ρz wz hz hk hd
     have d15 := hd 9 rfl 15 rfl
     exact sk_skip rfl rfl d15 rfl rfl
    ·intro ρz wz hz hk hd
     have d15 := hd 9 rfl 15 rfl
     exact sk_skip rfl rfl d15 rfl rfl
    ·intro ρz wz hz hk hd
     have d15 := hd 9 rfl 15 rfl
     exact sk_skip rfl rfl d15 rfl rfl
    ·intro ρz wz hz hk hd
     have d15 := hd 9 rfl 15 rfl
     exact sk_skip rfl rfl d15 rfl rfl
    ·intro ρz wz hz hk hd
     have d15 := hd 9 rfl 15 rfl
     exact sk_skip rfl rfl d15 rfl rfl
    ·intro ρz wz hz hk hd
     have d15 := hd 9 rfl 15 rfl
     exact sk_skip rfl rfl d15 rfl rfl
    ·intro ρz wz hz hk hd
     have d15 := hd 9 rfl 15 rfl
     exact sk_skip rfl rfl d15 rfl rfl
    intro ρz wz hz hk hd
    have d15 := hd 9 rfl 15 rfl
    exact sk_skip rfl rfl d15 rfl rfl
   intro ρ4 w5 q6 hk hd
   have e0 := (hk 0 rfl).trans rfl
   have e15 := hd 9 rfl 15 rfl
   have fB := fB.gr q6
   refine ol_val (v := .bool true) (by exact xr_pickT rfl e15 rfl rfl) rfl rfl rfl ?_
   refine ol_nil ?_
   obtain rfl := Option.some.inj j2
   refine thn_i ?_
   exact ⟨e0, rfl, q6⟩
  obtain ⟨g7, j2⟩ := gs j2
  rcases is j2 with ⟨c8, j2⟩ | ⟨c8, j2⟩
  ·skip
   refine cw_drawL 25 [fun vz wz => vz = (V0_0 : Value), fun vz wz => vz = (.int .i64 (List.length a0 : Int) : Value), fun vz wz => vz = (.bool (!decide ((List.length a0 : Int) = 64)) : Value), fun vz wz => vz = (.bool (!decide ((List.length a0 : Int) = 64)) : Value), fun vz wz => vz = (V0_0 : Value), fun vz wz => vz = (.pointer (some ⟨(sb V0_0), so V0_0 + Int.toNat 4 * 1, none⟩) : Value), fun vz wz => vz = (.int .u8 (ix a0 4) : Value), fun vz wz => vz = (.bool (decide ((ix a0 4) = 0)) : Value), fun vz wz => vz = (.bool (decide ((ix a0 4) = 0)) : Value), fun vz wz => vz = (.bool (decide ((ix a0 4) = 0)) : Value), fun vz _ => vz = undef, fun vz _ => vz = undef, fun vz _ => vz = undef, fun vz _ => vz = undef, fun vz _ => vz = undef, fun vz _ => vz = undef, fun vz _ => vz = undef, fun vz _ => vz = undef, fun vz _ => vz = undef, fun vz _ => vz = undef, fun vz _ => vz = undef, fun vz _ => vz = undef, fun vz _ => vz = undef, fun vz _ => vz = undef, fun vz _ => vz = undef] mo rfl ⟨fun _ _ _ h _ => h, fun _ _ _ h _ => h, fun _ _ _ h _ => h, fun _ _ _ h _ => h, fun _ _ _ h _ => h, fun _ _ _ h _ => h, fun _ _ _ h _ => h, fun _ _ _ h _ => h, fun _ _ _ h _ => h, fun _ _ _ h _ => h, fun _ _ _ h _ => h, fun _ _ _ h _ => h, fun _ _ _ h _ => h, fun _ _ _ h _ => h, fun _ _ _ h _ => h, fun _ _ _ h _ => h, fun _ _ _ h _ => h, fun _ _ _ h _ => h, fun _ _ _ h _ => h, fun _ _ _ h _ => h, fun _ _ _ h _ => h, fun _ _ _ h _ => h, fun _ _ _ h _ => h, fun _ _ _ h _ => h, fun _ _ _ h _ => h, trivial⟩ ?_ ?_
   ·refine ⟨?_, ?_, ?_, ?_, ?_, ?_, ?_, ?_, ?_, ?_, ?_, ?_, ?_, ?_, ?_, ?_, ?_, ?_, ?_, ?_, ?_, ?_, ?_, ?_, ?_, trivial⟩
    ·intro ρz wz hz hk hd
     exact sk_val (v := V0_0) (by exact xr_move rfl ((hk 0 rfl).trans rfl)) rfl rfl
    ·intro ρz wz hz hk hd
     have d6 := hd 0 rfl 6 rfl
     exact sk_val (v := .int .i64 (List.length a0 : Int)) (by exact xr_lenR rfl Try.underlying43 d6 (R0_0.gr (fB.gr hz))) rfl rfl
    ·intro ρz wz hz hk hd
     have d7 := hd 1 rfl 7 rfl
     exact sk_val (v := .bool (!decide ((List.length a0 : Int) = 64))) (by exact xr_neI rfl Try.underlying3 rfl d7 rfl) rfl rfl
    ·intro ρz wz hz hk hd
     have d8 := hd 2 rfl 8 rfl
     exact sk_val (v := .bool (!decide ((List.length a0 : Int) = 64))) (by exact xr_move rfl d8) rfl rfl
    ·intro ρz wz hz hk hd
     have d9 := hd 3 rfl 9 rfl
     exact sk_gval (v := V0_0) (by exact xr_move rfl ((hk 0 rfl).trans rfl)) rfl rfl d9 c3 rfl
    ·intro ρz wz hz hk hd
     have d10 := hd 4 rfl 10 rfl
     have d9 := hd 3 rfl 9 rfl
     exact sk_gval (by exact xr_indexR (K := (kI .u8)) (v := V0_0) rfl Try.underlying43 sz5 d10 (R0_0.gr (fB.gr hz)) rfl (by decide) g7) rfl rfl d9 c3 rfl
    ·intro ρz wz hz hk hd
     have d11 := hd 5 rfl 11 rfl
     have d9 := hd 3 rfl 9 rfl
     exact sk_gval (v := .int .u8 (ix a0 4)) (by exact xr_load1 (v := .int .u8 (ix a0 4)) rfl ag5 d11 ((R0_0.gr (fB.gr hz)).elem (by decide) g7)) rfl rfl d9 c3 rfl
    ·intro ρz wz hz hk hd
     have d12 := hd 6 rfl 12 rfl
     have d9 := hd 3 rfl 9 rfl
     exact sk_gval (v := .bool (decide ((ix a0 4) = 0))) (by exact xr_eqI rfl Try.underlying5 rfl d12 rfl) rfl rfl d9 c3 rfl
    ·intro ρz wz hz hk hd
     have d9 := hd 3 rfl 9 rfl
     have d13 := hd 7 rfl 13 rfl
     exact sk_val (v := .bool (decide ((ix a0 4) = 0))) (by exact xr_pickF rfl d9 c3 d13) rfl rfl
    ·intro ρz wz hz hk hd
     have d14 := hd 8 rfl 14 rfl
     exact sk_val (v := .bool (decide ((ix a0 4) = 0))) (by exact xr_move rfl d14) rfl rfl
    ·intro ρz wz hz hk hd
     have d15 := hd 9 rfl 15 rfl
     exact sk_skip rfl rfl d15 c8 rfl
    ·intro ρz wz hz hk hd
     have d15 := hd 9 rfl 15 rfl
     exact sk_skip rfl rfl d15 c8 rfl
    ·intro ρz wz hz hk hd
     have d15 := hd 9 rfl 15 rfl
     exact sk_skip rfl rfl d15 c8 rfl
    ·intro ρz wz hz hk hd
     have d15 := hd 9 rfl 15 rfl
     exact sk_skip rfl rfl d15 c8 rfl
    ·intro ρz wz hz hk hd
     have d15 := hd 9 rfl 15 rfl
     exact sk_skip rfl rfl d15 c8 rfl
    ·intro ρz wz hz hk hd
     have d15 := hd 9 rfl 15 rfl
     exact sk_skip rfl rfl d15 c8 rfl
    ·intro ρz wz hz hk hd
     have d15 := hd 9 rfl 15 rfl
     exact sk_skip rfl rfl d15 c8 rfl
    ·intro ρz wz hz hk hd
     have d15 := hd 9 rfl 15 rfl
     exact sk_skip rfl rfl d15 c8 rfl
    ·intro ρz wz hz hk hd
     have d15 := hd 9 rfl 15 rfl
     exact sk_skip rfl rfl d15 c8 rfl
    ·intro ρz wz hz hk hd
     have d15 := hd 9 rfl 15 rfl
     exact sk_skip rfl rfl d15 c8 rfl
    ·intro ρz wz hz hk hd
     have d15 := hd 9 rfl 15 rfl
     exact sk_skip rfl rfl d15 c8 rfl
    ·intro ρz wz hz hk hd
     have d15 := hd 9 rfl 15 rfl
     exact sk_skip rfl rfl d15 c8 rfl
    ·intro ρz wz hz hk hd
     have d15 := hd 9 rfl 15 rfl
     exact sk_skip rfl rfl d15 c8 rfl
    ·intro ρz wz hz hk hd
     have d15 := hd 9 rfl 15 rfl
     exact sk_skip rfl rfl d15 c8 rfl
    intro ρz wz hz hk hd
    have d15 := hd 9 rfl 15 rfl
    exact sk_skip rfl rfl d15 c8 rfl
   intro ρ9 w10 q11 hk hd
   have e0 := (hk 0 rfl).trans rfl
   have e15 := hd 9 rfl 15 rfl
   have fB := fB.gr q11
   refine ol_val (v := .bool true) (by exact xr_pickT rfl e15 c8 rfl) rfl rfl rfl ?_
   refine ol_nil ?_
   obtain rfl := Option.some.inj j2
   refine thn_i ?_
   exact ⟨e0, rfl, q11⟩
  obtain ⟨g12, j2⟩ := gs j2
  obtain ⟨g13, j2⟩ := gs j2
  obtain ⟨g15, j2⟩ := gs j2
  obtain ⟨t16, k17, j2⟩ := bs j2
  refine cw_drawL 25 [fun vz wz => vz = (V0_0 : Value), fun vz wz => vz = (.int .i64 (List.length a0 : Int) : Value), fun vz wz => vz = (.bool (!decide ((List.length a0 : Int) = 64)) : Value), fun vz wz => vz = (.bool (!decide ((List.length a0 : Int) = 64)) : Value), fun vz wz => vz = (V0_0 : Value), fun vz wz => vz = (.pointer (some ⟨(sb V0_0), so V0_0 + Int.toNat 4 * 1, none⟩) : Value), fun vz wz => vz = (.int .u8 (ix a0 4) : Value), fun vz wz => vz = (.bool (decide ((ix a0 4) = 0)) : Value), fun vz wz => vz = (.bool (decide ((ix a0 4) = 0)) : Value), fun vz wz => vz = (.bool (decide ((ix a0 4) = 0)) : Value), fun vz wz => vz = (V0_0 : Value), fun vz wz => vz = (.pointer (some ⟨(sb V0_0), so V0_0 + Int.toNat 4 * 1, none⟩) : Value), fun vz wz => vz = (.int .u8 (ix a0 4) : Value), fun vz wz => vz = (.int .i64 (IntKind.i64.wrap (ix a0 4)) : Value), fun vz wz => vz = (V0_0 : Value), fun vz wz => vz = (.pointer (some ⟨(sb V0_0), so V0_0 + Int.toNat 5 * 1, none⟩) : Value), fun vz wz => vz = (.int .u8 (ix a0 5) : Value), fun vz wz => vz = (.int .i64 (IntKind.i64.wrap (ix a0 5)) : Value), fun vz wz => vz = (V0_0 : Value), fun vz wz => ∃ r14 : Rd (kI .u8) wz (subv 1 V0_0 (Int.toNat 8) (List.length a0)) (cut a0 8 (List.length a0 : Int)), vz = (subv 1 V0_0 (Int.toNat 8) (List.length a0) : Value), fun vz wz => vz = (sv (List.map toB (cut a0 8 (List.length a0 : Int))) : Value), fun vz wz => vz = (sv t16 : Value), fun vz wz => vz = (V0_0 : Value), fun vz wz => vz = (sv (List.map toB a0) : Value), fun vz wz => vz = (.bool (!decide (t16 = (List.map toB a0))) : Value)] mo rfl ⟨fun _ _ _ h _ => h, fun _ _ _ h _ => h, fun _ _ _ h _ => h, fun _ _ _ h _ => h, fun _ _ _ h _ => h, fun _ _ _ h _ => h, fun _ _ _ h _ => h, fun _ _ _ h _ => h, fun _ _ _ h _ => h, fun _ _ _ h _ => h, fun _ _ _ h _ => h, fun _ _ _ h _ => h, fun _ _ _ h _ => h, fun _ _ _ h _ => h, fun _ _ _ h _ => h, fun _ _ _ h _ => h, fun _ _ _ h _ => h, fun _ _ _ h _ => h, fun _ _ _ h _ => h, fun _ _ _ ⟨r14, h⟩ q => ⟨r14.gr q, h⟩, fun _ _ _ h _ => h, fun _ _ _ h _ => h, fun _ _ _ h _ => h, fun _ _ _ h _ => h, fun _ _ _ h _ => h, trivial⟩ ?_ ?_
  ·refine ⟨?_, ?_, ?_, ?_, ?_, ?_, ?_, ?_, ?_, ?_, ?_, ?_, ?_, ?_, ?_, ?_, ?_, ?_, ?_, ?_, ?_, ?_, ?_, ?_, ?_, trivial⟩
   ·intro ρz wz hz hk hd
    exact sk_val (v := V0_0) (by exact xr_move rfl ((hk 0 rfl).trans rfl)) rfl rfl
   ·intro ρz wz hz hk hd
    have d6 := hd 0 rfl 6 rfl
    exact sk_val (v := .int .i64 (List.length a0 : Int)) (by exact xr_lenR rfl Try.underlying43 d6 (R0_0.gr (fB.gr hz))) rfl rfl
   ·intro ρz wz hz hk hd
    have d7 := hd 1 rfl 7 rfl
    exact sk_val (v := .bool (!decide ((List.length a0 : Int) = 64))) (by exact xr_neI rfl Try.underlying3 rfl d7 rfl) rfl rfl
   ·intro ρz wz hz hk hd
    have d8 := hd 2 rfl 8 rfl
    exact sk_val (v := .bool (!decide ((List.length a0 : Int) = 64))) (by exact xr_move rfl d8) rfl rfl
   ·intro ρz wz hz hk hd
    have d9 := hd 3 rfl 9 rfl
    exact sk_gval (v := V0_0) (by exact xr_move rfl ((hk 0 rfl).trans rfl)) rfl rfl d9 c3 rfl
   ·intro ρz wz hz hk hd
    have d10 := hd 4 rfl 10 rfl
    have d9 := hd 3 rfl 9 rfl
    exact sk_gval (by exact xr_indexR (K := (kI .u8)) (v := V0_0) rfl Try.underlying43 sz5 d10 (R0_0.gr (fB.gr hz)) rfl (by decide) g7) rfl rfl d9 c3 rfl
   ·intro ρz wz hz hk hd
    have d11 := hd 5 rfl 11 rfl
    have d9 := hd 3 rfl 9 rfl
    exact sk_gval (v := .int .u8 (ix a0 4)) (by exact xr_load1 (v := .int .u8 (ix a0 4)) rfl ag5 d11 ((R0_0.gr (fB.gr hz)).elem (by decide) g7)) rfl rfl d9 c3 rfl
   ·intro ρz wz hz hk hd
    have d12 := hd 6 rfl 12 rfl
    have d9 := hd 3 rfl 9 rfl
    exact sk_gval (v := .bool (decide ((ix a0 4) = 0))) (by exact xr_eqI rfl Try.underlying5 rfl d12 rfl) rfl rfl d9 c3 rfl
   ·intro ρz wz hz hk hd
    have d9 := hd 3 rfl 9 rfl
    have d13 := hd 7 rfl 13 rfl
    exact sk_val (v := .bool (decide ((ix a0 4) = 0))) (by exact xr_pickF rfl d9 c3 d13) rfl rfl
   ·intro ρz wz hz hk hd
    have d14 := hd 8 rfl 14 rfl
    exact sk_val (v := .bool (decide ((ix a0 4) = 0))) (by exact xr_move rfl d14) rfl rfl
   ·intro ρz wz hz hk hd
    have d15 := hd 9 rfl 15 rfl
    exact sk_gval (v := V0_0) (by exact xr_move rfl ((hk 0 rfl).trans rfl)) rfl rfl d15 c8 rfl
   ·intro ρz wz hz hk hd
    have d16 := hd 10 rfl 16 rfl
    have d15 := hd 9 rfl 15 rfl
    exact sk_gval (by exact xr_indexR (K := (kI .u8)) (v := V0_0) rfl Try.underlying43 sz5 d16 (R0_0.gr (fB.gr hz)) rfl (by decide) g12) rfl rfl d15 c8 rfl
   ·intro ρz wz hz hk hd
    have d17 := hd 11 rfl 17 rfl
    have d15 := hd 9 rfl 15 rfl
    exact sk_gval (v := .int .u8 (ix a0 4)) (by exact xr_load1 (v := .int .u8 (ix a0 4)) rfl ag5 d17 ((R0_0.gr (fB.gr hz)).elem (by decide) g12)) rfl rfl d15 c8 rfl
   ·intro ρz wz hz hk hd
    have d18 := hd 12 rfl 18 rfl
    have d15 := hd 9 rfl 15 rfl
    exact sk_gval (v := .int .i64 (IntKind.i64.wrap (ix a0 4))) (by exact xr_conv rfl Try.underlying5 Try.underlying3 d18) rfl rfl d15 c8 rfl
   ·intro ρz wz hz hk hd
    have d15 := hd 9 rfl 15 rfl
    exact sk_gval (v := V0_0) (by exact xr_move rfl ((hk 0 rfl).trans rfl)) rfl rfl d15 c8 rfl
   ·intro ρz wz hz hk hd
    have d20 := hd 14 rfl 20 rfl
    have d15 := hd 9 rfl 15 rfl
    exact sk_gval (by exact xr_indexR (K := (kI .u8)) (v := V0_0) rfl Try.underlying43 sz5 d20 (R0_0.gr (fB.gr hz)) rfl (by decide) g13) rfl rfl d15 c8 rfl
   ·intro ρz wz hz hk hd
    have d21 := hd 15 rfl 21 rfl
    have d15 := hd 9 rfl 15 rfl
    exact sk_gval (v := .int .u8 (ix a0 5)) (by exact xr_load1 (v := .int .u8 (ix a0 5)) rfl ag5 d21 ((R0_0.gr (fB.gr hz)).elem (by decide) g13)) rfl rfl d15 c8 rfl
   ·intro ρz wz hz hk hd
    have d22 := hd 16 rfl 22 rfl
    have d15 := hd 9 rfl 15 rfl
    exact sk_gval (v := .int .i64 (IntKind.i64.wrap (ix a0 5))) (by exact xr_conv rfl Try.underlying5 Try.underlying3 d22) rfl rfl d15 c8 rfl
   ·intro ρz wz hz hk hd
    have d15 := hd 9 rfl 15 rfl
    exact sk_gval (v := V0_0) (by exact xr_move rfl ((hk 0 rfl).trans rfl)) rfl rfl d15 c8 rfl
   ·intro ρz wz hz hk hd
    have d24 := hd 18 rfl 24 rfl
    have d15 := hd 9 rfl 15 rfl
    exact sk_gval (by exact xr_slice_l (K := (kI .u8)) (v := V0_0) rfl Try.underlying43 sz5 d24 (R0_0.gr (fB.gr hz)) rfl (by decide) g15) rfl rfl d15 c8 ⟨(R0_0.gr (fB.gr hz)).cut (lo := 8) (hi := (List.length a0 : Int)) (by decide) g15 (Int.le_refl _), rfl⟩
   ·intro ρz wz hz hk hd
    obtain ⟨r14, d25⟩ := hd 19 rfl 25 rfl
    have d15 := hd 9 rfl 15 rfl
    exact sk_gval (v := sv (List.map toB (cut a0 8 (List.length a0 : Int)))) (by exact xr_toStr rfl Try.underlying43 Try.underlying5 Try.underlying9 d25 r14) rfl rfl d15 c8 rfl
   ·intro ρz wz hz hk hd
    have d19 := hd 13 rfl 19 rfl
    have d23 := hd 17 rfl 23 rfl
    have d26 := hd 20 rfl 26 rfl
    have d15 := hd 9 rfl 15 rfl
    refine sk_gop (by exact opv_call rfl cal118 (ac d19 (ac d23 (ac d26 an))) (rickyardref07_Seal.ok fu _ (IntKind.i64.wrap (ix a0 4)) (IntKind.i64.wrap (ix a0 5)) (List.map toB (cut a0 8 (List.length a0 : Int))) _ k17)) rfl rfl d15 c8 ?_
    rintro _ wy ⟨rfl, q18⟩
    exact ⟨rfl, q18⟩
   ·intro ρz wz hz hk hd
    have d15 := hd 9 rfl 15 rfl
    exact sk_gval (v := V0_0) (by exact xr_move rfl ((hk 0 rfl).trans rfl)) rfl rfl d15 c8 rfl
   ·intro ρz wz hz hk hd
    have d28 := hd 22 rfl 28 rfl
    have d15 := hd 9 rfl 15 rfl
    exact sk_gval (v := sv (List.map toB a0)) (by exact xr_toStr rfl Try.underlying43 Try.underlying5 Try.underlying9 d28 (R0_0.gr (fB.gr hz))) rfl rfl d15 c8 rfl
   intro ρz wz hz hk hd
   have d27 := hd 21 rfl 27 rfl
   have d29 := hd 23 rfl 29 rfl
   have d15 := hd 9 rfl 15 rfl
   exact sk_gval (v := .bool (!decide (t16 = (List.map toB a0)))) (by exact xr_neStr rfl Try.underlying9 d27 d29) rfl rfl d15 c8 rfl
  intro ρ19 w20 q21 hk hd
  have e0 := (hk 0 rfl).trans rfl
  have e15 := hd 9 rfl 15 rfl
  have e30 := hd 24 rfl 30 rfl
  have fB := fB.gr q21
  refine ol_val (v := .bool (!decide (t16 = (List.map toB a0)))) (by exact xr_pickF rfl e15 c8 e30) rfl rfl rfl ?_
  refine ol_nil ?_
  obtain rfl := Option.some.inj j2
  refine thn_i ?_
  exact ⟨e0, rfl, q21⟩
 rintro ρ22 w23 ⟨e0, e31, q24⟩
 have fB := fB.gr q24
 rcases is h with ⟨c25, h⟩ | ⟨c25, h⟩
 ·refine cw_condT e31 c25 ?_
  refine cw_seq ?_
  refine cw_region ?_
  refine ol_val (v := .int .i64 0) (by exact xr_assign rfl rfl) rfl rfl rfl ?_
  refine ol_val (v := .int .i64 0) (by exact xr_assign rfl rfl) rfl rfl rfl ?_
  refine ol_val (v := sv []) (by exact xr_assign rfl rfl) rfl rfl rfl ?_
  refine ol_val (v := .bool false) (by exact xr_assign rfl rfl) rfl rfl rfl ?_
  refine ol_nil ?_
  refine cw_ret ?_
  repeat (first | with_reducible refine thn_r ?_ | with_reducible refine blk_r ?_)
  obtain rfl := Option.some.inj h
  refine fin_ret4 Try.results134 rfl rfl rfl rfl ?_
  exact ⟨_, rfl, rfl, fB⟩
 refine cw_condF e31 c25 ?_
 refine cw_skip ?_
 refine cw_seq ?_
 obtain ⟨g26, h⟩ := gs h
 obtain ⟨g27, h⟩ := gs h
 obtain ⟨g29, h⟩ := gs h
 refine cw_drawL 13 [fun vz wz => vz = (V0_0 : Value), fun vz wz => vz = (.pointer (some ⟨(sb V0_0), so V0_0 + Int.toNat 4 * 1, none⟩) : Value), fun vz wz => vz = (.int .u8 (ix a0 4) : Value), fun vz wz => vz = (.int .i64 (IntKind.i64.wrap (ix a0 4)) : Value), fun vz wz => vz = (V0_0 : Value), fun vz wz => vz = (.pointer (some ⟨(sb V0_0), so V0_0 + Int.toNat 5 * 1, none⟩) : Value), fun vz wz => vz = (.int .u8 (ix a0 5) : Value), fun vz wz => vz = (.int .i64 (IntKind.i64.wrap (ix a0 5)) : Value), fun vz wz => vz = (V0_0 : Value), fun vz wz => ∃ r28 : Rd (kI .u8) wz (subv 1 V0_0 (Int.toNat 8) (List.length a0)) (cut a0 8 (List.length a0 : Int)), vz = (subv 1 V0_0 (Int.toNat 8) (List.length a0) : Value), fun vz wz => vz = (sv (List.map toB (cut a0 8 (List.length a0 : Int))) : Value), fun vz wz => vz = (.int .i64 (IntKind.i64.wrap (ix a0 4)) : Value), fun vz wz => vz = (.int .i64 (IntKind.i64.wrap (ix a0 5)) : Value)] mo rfl ⟨fun _ _ _ h _ => h, fun _ _ _ h _ => h, fun _ _ _ h _ => h, fun _ _ _ h _ => h, fun _ _ _ h _ => h, fun _ _ _ h _ => h, fun _ _ _ h _ => h, fun _ _ _ h _ => h, fun _ _ _ h _ => h, fun _ _ _ ⟨r28, h⟩ q => ⟨r28.gr q, h⟩, fun _ _ _ h _ => h, fun _ _ _ h _ => h, fun _ _ _ h _ => h, trivial⟩ ?_ ?_
 ·refine ⟨?_, ?_, ?_, ?_, ?_, ?_, ?_, ?_, ?_, ?_, ?_, ?_, ?_, trivial⟩
  ·intro ρz wz hz hk hd
   exact sk_val (v := V0_0) (by exact xr_move rfl ((hk 0 rfl).trans e0)) rfl rfl
  ·intro ρz wz hz hk hd
   have d32 := hd 0 rfl 32 rfl
   exact sk_val (by exact xr_indexR (K := (kI .u8)) (v := V0_0) rfl Try.underlying43 sz5 d32 (R0_0.gr (fB.gr hz)) rfl (by decide) g26) rfl rfl
  ·intro ρz wz hz hk hd
   have d33 := hd 1 rfl 33 rfl
   exact sk_val (v := .int .u8 (ix a0 4)) (by exact xr_load1 (v := .int .u8 (ix a0 4)) rfl ag5 d33 ((R0_0.gr (fB.gr hz)).elem (by decide) g26)) rfl rfl
  ·intro ρz wz hz hk hd
   have d34 := hd 2 rfl 34 rfl
   exact sk_val (v := .int .i64 (IntKind.i64.wrap (ix a0 4))) (by exact xr_conv rfl Try.underlying5 Try.underlying3 d34) rfl rfl
  ·intro ρz wz hz hk hd
   exact sk_val (v := V0_0) (by exact xr_move rfl ((hk 0 rfl).trans e0)) rfl rfl
  ·intro ρz wz hz hk hd
   have d36 := hd 4 rfl 36 rfl
   exact sk_val (by exact xr_indexR (K := (kI .u8)) (v := V0_0) rfl Try.underlying43 sz5 d36 (R0_0.gr (fB.gr hz)) rfl (by decide) g27) rfl rfl
  ·intro ρz wz hz hk hd
   have d37 := hd 5 rfl 37 rfl
   exact sk_val (v := .int .u8 (ix a0 5)) (by exact xr_load1 (v := .int .u8 (ix a0 5)) rfl ag5 d37 ((R0_0.gr (fB.gr hz)).elem (by decide) g27)) rfl rfl
  ·intro ρz wz hz hk hd
   have d38 := hd 6 rfl 38 rfl
   exact sk_val (v := .int .i64 (IntKind.i64.wrap (ix a0 5))) (by exact xr_conv rfl Try.underlying5 Try.underlying3 d38) rfl rfl
  ·intro ρz wz hz hk hd
   exact sk_val (v := V0_0) (by exact xr_move rfl ((hk 0 rfl).trans e0)) rfl rfl
  ·intro ρz wz hz hk hd
   have d40 := hd 8 rfl 40 rfl
   exact sk_val (by exact xr_slice_l (K := (kI .u8)) (v := V0_0) rfl Try.underlying43 sz5 d40 (R0_0.gr (fB.gr hz)) rfl (by decide) g29) rfl ⟨(R0_0.gr (fB.gr hz)).cut (lo := 8) (hi := (List.length a0 : Int)) (by decide) g29 (Int.le_refl _), rfl⟩
  ·intro ρz wz hz hk hd
   obtain ⟨r28, d41⟩ := hd 9 rfl 41 rfl
   exact sk_val (v := sv (List.map toB (cut a0 8 (List.length a0 : Int)))) (by exact xr_toStr rfl Try.underlying43 Try.underlying5 Try.underlying9 d41 r28) rfl rfl
  ·intro ρz wz hz hk hd
   have d35 := hd 3 rfl 35 rfl
   exact sk_val (v := .int .i64 (IntKind.i64.wrap (ix a0 4))) (by exact xr_assign rfl d35) rfl rfl
  intro ρz wz hz hk hd
  have d39 := hd 7 rfl 39 rfl
  exact sk_val (v := .int .i64 (IntKind.i64.wrap (ix a0 5))) (by exact xr_assign rfl d39) rfl rfl
 intro ρ30 w31 q32 hk hd
 have e2 := hd 11 rfl 2 rfl
 have e3 := hd 12 rfl 3 rfl
 have e42 := hd 10 rfl 42 rfl
 have fB := fB.gr q32
 refine ol_val (v := sv (List.map toB (cut a0 8 (List.length a0 : Int)))) (by exact xr_assign rfl e42) rfl rfl rfl ?_
 refine ol_val (v := .bool true) (by exact xr_assign rfl rfl) rfl rfl rfl ?_
 refine ol_nil ?_
 refine cw_ret ?_
 repeat (first | with_reducible refine thn_r ?_ | with_reducible refine blk_r ?_)
 obtain rfl := Option.some.inj h
 refine fin_ret4 Try.results134 e2 e3 rfl rfl ?_
 exact ⟨_, rfl, rfl, fB⟩
def rickyardref01_Number.s0 (fu : Nat) (a0 : List UInt8) : (Int × Int) → Option (Sum Int (Int × Int)) := fun s1 => (if (decide (s1.2 ≥ 0)) = true then (((if (decide (s1.2 < 8)) = true then (if 0 ≤ s1.2 ∧ s1.2 < (List.length a0 : Int) then some ((IntKind.u64.wrap ((IntKind.u64.wrap (s1.1 * 256)) + (IntKind.u64.wrap (ofB (List.getD a0 (Int.toNat s1.2) 0)))))) else none) else some (s1.1)) : Option Int).bind fun x9 => some (Sum.inr (x9, (IntKind.i64.wrap (s1.2 - 1))))) else some (Sum.inl (s1.1)))
def rickyardref01_Number.f (fu : Nat) (a0 : List UInt8) : Option Int := ((loopM (rickyardref01_Number.s0 fu a0) fu (0, (IntKind.i64.wrap ((List.length a0 : Int) - 1)))).bind fun e2 => some (e2))
set_option maxRecDepth 100000 in
set_option maxHeartbeats 400000 in
theorem rickyardref01_Number.ok (fu : Nat) (w : World) (a0 : List UInt8) (r : Int) (h : rickyardref01_Number.f fu a0 = some r) :
  Calls Try.prog 41 (([sv a0] : List Value).toArray) w (fun e w' => ∃ v, e = .returned v ∧ v = .int .u64 r ∧ Gr w w') := by
 unfold rickyardref01_Number.f at h
 have fB : Gr w w := Fr.refl _ _
 refine calls_cw Try.func41 rfl Try.ntmps41 rfl ?_
 refine cw_seq ?_
 refine cw_region ?_
 refine ol_val (v := .int .u64 0) (by exact xr_assign rfl rfl) rfl rfl rfl ?_
 refine ol_nil ?_
 refine cw_seq ?_
 refine cw_region ?_
 refine ol_val (v := .int .u64 0) (by exact xr_assign rfl rfl) rfl rfl rfl ?_
 refine ol_nil ?_
 refine cw_seq ?_
 refine cw_seq ?_
 refine cw_region ?_
 refine ol_val (v := sv a0) (by exact xr_move rfl rfl) rfl rfl rfl ?_
 refine ol_val (v := .int .i64 (List.length a0 : Int)) (by exact xr_lenStr rfl Try.underlying9 rfl) rfl rfl rfl ?_
 refine ol_val (v := .int .i64 (IntKind.i64.wrap ((List.length a0 : Int) - 1))) (by exact xr_sub rfl rfl rfl) rfl rfl rfl ?_
 refine ol_val (v := .int .i64 (IntKind.i64.wrap ((List.length a0 : Int) - 1))) (by exact xr_assign rfl rfl) rfl rfl rfl ?_
 refine ol_nil ?_
 obtain ⟨e2, l3, h4⟩ := bs h
 refine cw_mid (fun ρ' w' => ρ' 3 = .int .u64 e2 ∧ Gr w w') ?_ ?_
 ·refine cw_block ?_
  refine cw_round (fun (s1 : Int × Int) ρ' w' => ρ' 0 = sv a0 ∧ ρ' 3 = .int .u64 s1.1 ∧ ρ' 4 = .int .i64 s1.2 ∧ Gr w w') l3 ?_ ?_
  ·skip
   exact ⟨rfl, rfl, rfl, fB⟩
  rintro s1 x7 ρ5 w6 ⟨e0, e3, e4, fB⟩ h
  unfold rickyardref01_Number.s0 at h
  refine cw_seq ?_
  refine cw_seq ?_
  refine cw_region ?_
  refine ol_val (v := .int .i64 s1.2) (by exact xr_move rfl e4) rfl rfl rfl ?_
  refine ol_val (v := .bool (decide (s1.2 ≥ 0))) (by exact xr_geq rfl rfl rfl) rfl rfl rfl ?_
  refine ol_nil ?_
  rcases is h with ⟨c8, h⟩ | ⟨c8, h⟩
  ·refine cw_condT rfl c8 ?_
   refine cw_skip ?_
   refine cw_seq ?_
   refine cw_block ?_
   refine cw_seq ?_
   refine cw_region ?_
   refine ol_val (v := .int .i64 s1.2) (by exact xr_move rfl e4) rfl rfl rfl ?_
   refine ol_val (v := .bool (decide (s1.2 < 8))) (by exact xr_lss rfl rfl rfl) rfl rfl rfl ?_
   refine ol_nil ?_
   obtain ⟨x9, j10, h11⟩ := bs h
   refine cw_mid (fun ρ' w' => ρ' 0 = sv a0 ∧ ρ' 3 = .int .u64 x9 ∧ ρ' 4 = .int .i64 s1.2 ∧ Gr w w') ?_ ?_
   ·have h := j10
    rcases is h with ⟨c12, h⟩ | ⟨c12, h⟩
    ·refine cw_condT rfl c12 ?_
     refine cw_region ?_
     refine ol_val (v := .int .u64 s1.1) (by exact xr_move rfl e3) rfl rfl rfl ?_
     refine ol_val (v := .int .u64 (IntKind.u64.wrap (s1.1 * 256))) (by exact xr_mul rfl rfl rfl) rfl rfl rfl ?_
     refine ol_val (v := sv a0) (by exact xr_move rfl e0) rfl rfl rfl ?_
     refine ol_val (v := .int .i64 s1.2) (by exact xr_move rfl e4) rfl rfl rfl ?_
     obtain ⟨g13, h⟩ := gs h
     refine ol_val (v := .int .u8 (ofB (List.getD a0 (Int.toNat s1.2) 0))) (by exact xr_indexStr rfl Try.underlying9 rfl rfl g13.1 g13.2) rfl rfl rfl ?_
     refine ol_val (v := .int .u64 (IntKind.u64.wrap (ofB (List.getD a0 (Int.toNat s1.2) 0)))) (by exact xr_conv rfl Try.underlying5 Try.underlying22 rfl) rfl rfl rfl ?_
     refine ol_val (v := .int .u64 (IntKind.u64.wrap ((IntKind.u64.wrap (s1.1 * 256)) + (IntKind.u64.wrap (ofB (List.getD a0 (Int.toNat s1.2) 0)))))) (by exact xr_add rfl rfl rfl) rfl rfl rfl ?_
     refine ol_val (v := .int .u64 (IntKind.u64.wrap ((IntKind.u64.wrap (s1.1 * 256)) + (IntKind.u64.wrap (ofB (List.getD a0 (Int.toNat s1.2) 0)))))) (by exact xr_assign rfl rfl) rfl rfl rfl ?_
     refine ol_nil ?_
     obtain rfl := Option.some.inj h
     refine thn_i ?_
     exact ⟨e0, rfl, e4, fB⟩
    refine cw_condF rfl c12 ?_
    refine cw_skip ?_
    obtain rfl := Option.some.inj h
    refine thn_i ?_
    exact ⟨e0, e3, e4, fB⟩
   rintro ρ14 w15 ⟨e0, e3, e4, fB⟩
   have h := h11
   refine blk_i ?_
   refine cw_region ?_
   refine ol_val (v := .int .i64 s1.2) (by exact xr_move rfl e4) rfl rfl rfl ?_
   refine ol_val (v := .int .i64 (IntKind.i64.wrap (s1.2 - 1))) (by exact xr_sub rfl rfl rfl) rfl rfl rfl ?_
   refine ol_val (v := .int .i64 (IntKind.i64.wrap (s1.2 - 1))) (by exact xr_assign rfl rfl) rfl rfl rfl ?_
   refine ol_nil ?_
   obtain rfl := Option.some.inj h
   refine lp_in ?_
   exact ⟨e0, e3, rfl, fB⟩
  refine cw_condF rfl c8 ?_
  refine cw_exit ?_
  repeat (first | with_reducible refine thn_e ?_ | with_reducible refine blk_e rfl ?_)
  obtain rfl := Option.some.inj h
  refine lp_exit ?_
  rintro rfl
  refine thn_x ?_
  exact ⟨e3, fB⟩
 rintro ρ16 w17 ⟨e3, fB⟩
 have h := h4
 refine cw_seq ?_
 refine cw_region ?_
 refine ol_val (v := .int .u64 e2) (by exact xr_move rfl e3) rfl rfl rfl ?_
 refine ol_val (v := .int .u64 e2) (by exact xr_assign rfl rfl) rfl rfl rfl ?_
 refine ol_nil ?_
 refine cw_ret ?_
 repeat (first | with_reducible refine thn_r ?_ | with_reducible refine blk_r ?_)
 obtain rfl := Option.some.inj h
 refine fin_ret1 Try.results41 rfl ?_
 exact ⟨_, rfl, rfl, fB⟩
def rickyardref01_Int.f (fu : Nat) (a0 : List UInt8) : Option Int := ((rickyardref01_Number.f fu a0 : Option Int).bind fun t1 => some ((IntKind.i64.wrap t1)))
set_option maxRecDepth 100000 in
set_option maxHeartbeats 400000 in
theorem rickyardref01_Int.ok (fu : Nat) (w : World) (a0 : List UInt8) (r : Int) (h : rickyardref01_Int.f fu a0 = some r) :
  Calls Try.prog 135 (([sv a0] : List Value).toArray) w (fun e w' => ∃ v, e = .returned v ∧ v = .int .i64 r ∧ Gr w w') := by
 unfold rickyardref01_Int.f at h
 have fB : Gr w w := Fr.refl _ _
 refine calls_cw Try.func135 rfl Try.ntmps135 rfl ?_
 refine cw_seq ?_
 refine cw_region ?_
 refine ol_val (v := .int .i64 0) (by exact xr_assign rfl rfl) rfl rfl rfl ?_
 refine ol_nil ?_
 refine cw_seq ?_
 refine cw_region ?_
 refine ol_val (v := sv a0) (by exact xr_move rfl rfl) rfl rfl rfl ?_
 obtain ⟨t1, k2, h⟩ := bs h
 refine ol_op (by exact opv_call rfl cal41 (ac rfl an) (rickyardref01_Number.ok fu _ a0 _ k2)) rfl rfl rfl ?_
 rintro _ w4 ⟨rfl, q3⟩
 have fB := fB.gr q3
 refine ol_val (v := .int .i64 (IntKind.i64.wrap t1)) (by exact xr_conv rfl Try.underlying22 Try.underlying3 rfl) rfl rfl rfl ?_
 refine ol_val (v := .int .i64 (IntKind.i64.wrap t1)) (by exact xr_assign rfl rfl) rfl rfl rfl ?_
 refine ol_nil ?_
 refine cw_ret ?_
 repeat (first | with_reducible refine thn_r ?_ | with_reducible refine blk_r ?_)
 obtain rfl := Option.some.inj h
 refine fin_ret1 Try.results135 rfl ?_
 exact ⟨_, rfl, rfl, fB⟩
end Go.Proofs.Ytklhbaghbmndeaa
