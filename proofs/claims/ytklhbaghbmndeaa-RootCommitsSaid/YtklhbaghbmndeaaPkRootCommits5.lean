/- RootCommits: texts merged, part 5 of 7. The last part proves that the law RootCommits holds for every input. -/
import Derived.Test.YtklhbaghbmndeaaPkRootCommits4
import Derived.ProofKit
import Derived.OpenShut
import Derived.ChangeOld
import Derived.Below
import Derived.SizedLaws
import Derived.WalkKit
set_option maxRecDepth 100000
set_option maxHeartbeats 4000000
set_option linter.unusedVariables false
set_option linter.unusedSimpArgs false
namespace Go.Proofs.Ytklhbaghbmndeaa
open Go Go.Xw
def rickyardref01_Ints.s0 (fu : Nat) (a0 : List Int) (a1 : List Int) : Int → Option (Sum (Sum Bool Unit) Int) := fun s2 => (if (decide (s2 < (List.length a0 : Int))) = true then (if 0 ≤ s2 ∧ s2 < (List.length a0 : Int) then (if 0 ≤ s2 ∧ s2 < (List.length a1 : Int) then (if (!decide ((ix a0 s2) = (ix a1 s2))) = true then some (Sum.inl (Sum.inl (false))) else some (Sum.inr ((IntKind.i64.wrap (s2 + 1))))) else none) else none) else some (Sum.inl (Sum.inr ())))
def rickyardref01_Ints.f (fu : Nat) (a0 : List Int) (a1 : List Int) : Option Bool := (if (!decide ((List.length a0 : Int) = (List.length a1 : Int))) = true then some (false) else ((loopM (rickyardref01_Ints.s0 fu a0 a1) fu (0)).bind fun e3 => match e3 with | Sum.inl p => some p | Sum.inr x6 => some (true)))
theorem rickyardref01_Ints.ok (fu : Nat) (w : World) (a0 : List Int) (V0_0 : Value) (R0_0 : Rd (kI .i64) w V0_0 a0) (a1 : List Int) (V1_0 : Value) (R1_0 : Rd (kI .i64) w V1_0 a1) (r : Bool) (h : rickyardref01_Ints.f fu a0 a1 = some r) :
  Calls Try.prog 66 (([V0_0, V1_0] : List Value).toArray) w (fun e w' => ∃ v, e = .returned v ∧ v = .bool r ∧ Gr w w') := by
 unfold rickyardref01_Ints.f at h
 have fB : Gr w w := Fr.refl _ _
 refine calls_cw Try.func66 rfl Try.ntmps66 rfl ?_
 refine cw_seq ?_
 refine cw_region ?_
 refine ol_val (v := .bool false) (xr_assign rfl rfl) rfl rfl rfl ?_
 refine ol_nil ?_
 refine cw_seq ?_
 refine cw_seq ?_
 refine cw_region ?_
 refine ol_val (v := V0_0) (xr_move rfl rfl) rfl rfl rfl ?_
 refine ol_val (v := .int .i64 (List.length a0 : Int)) (xr_lenR rfl Try.underlying25 rfl (R0_0.gr fB)) rfl rfl rfl ?_
 refine ol_val (v := V1_0) (xr_move rfl rfl) rfl rfl rfl ?_
 refine ol_val (v := .int .i64 (List.length a1 : Int)) (xr_lenR rfl Try.underlying25 rfl (R1_0.gr fB)) rfl rfl rfl ?_
 refine ol_val (v := .bool (!decide ((List.length a0 : Int) = (List.length a1 : Int)))) (xr_neI rfl Try.underlying3 rfl rfl rfl) rfl rfl rfl ?_
 refine ol_nil ?_
 rcases is h with ⟨c1, h⟩ | ⟨c1, h⟩
 ·refine cw_condT rfl c1 ?_
  refine cw_seq ?_
  refine cw_region ?_
  refine ol_val (v := .bool false) (xr_assign rfl rfl) rfl rfl rfl ?_
  refine ol_nil ?_
  refine cw_ret ?_
  repeat (first | with_reducible refine thn_r ?_ | with_reducible refine blk_r ?_)
  obtain rfl := Option.some.inj h
  refine fin_ret1 Try.results66 rfl ?_
  exact ⟨_, rfl, rfl, fB⟩
 refine cw_condF rfl c1 ?_
 refine cw_skip ?_
 refine cw_seq ?_
 refine cw_seq ?_
 refine cw_region ?_
 refine ol_val (v := .int .i64 0) (xr_assign rfl rfl) rfl rfl rfl ?_
 refine ol_nil ?_
 obtain ⟨e3, l4, h5⟩ := bs h
 refine cw_mid (fun ρ' w' => ∃ x6, e3 = Sum.inr x6 ∧ Gr w w') ?_ ?_
 ·refine cw_block ?_
  refine cw_round (fun (s2 : Int) ρ' w' => ρ' 0 = V0_0 ∧ ρ' 1 = V1_0 ∧ ρ' 5 = .int .i64 s2 ∧ Gr w w') l4 ?_ ?_
  ·skip
   exact ⟨rfl, rfl, rfl, fB⟩
  rintro s2 x9 ρ7 w8 ⟨e0, e1, e5, fB⟩ h
  unfold rickyardref01_Ints.s0 at h
  refine cw_seq ?_
  refine cw_seq ?_
  refine cw_region ?_
  refine ol_val (v := .int .i64 s2) (xr_move rfl e5) rfl rfl rfl ?_
  refine ol_val (v := V0_0) (xr_move rfl e0) rfl rfl rfl ?_
  refine ol_val (v := .int .i64 (List.length a0 : Int)) (xr_lenR rfl Try.underlying25 rfl (R0_0.gr fB)) rfl rfl rfl ?_
  refine ol_val (v := .bool (decide (s2 < (List.length a0 : Int)))) (xr_lss rfl rfl rfl) rfl rfl rfl ?_
  refine ol_nil ?_
  rcases is h with ⟨c10, h⟩ | ⟨c10, h⟩
  ·refine cw_condT rfl c10 ?_
   refine cw_skip ?_
   refine cw_seq ?_
   refine cw_block ?_
   refine cw_seq ?_
   obtain ⟨g11, h⟩ := gs h
   obtain ⟨g12, h⟩ := gs h
   refine cw_drawL 8 [fun vz wz => vz = (V0_0 : Value), fun vz wz => vz = (.int .i64 s2 : Value), fun vz wz => vz = ((pt ((sb V0_0)) (so V0_0 + Int.toNat s2 * 1)) : Value), fun vz wz => vz = (.int .i64 (ix a0 s2) : Value), fun vz wz => vz = (V1_0 : Value), fun vz wz => vz = (.int .i64 s2 : Value), fun vz wz => vz = ((pt ((sb V1_0)) (so V1_0 + Int.toNat s2 * 1)) : Value), fun vz wz => vz = (.int .i64 (ix a1 s2) : Value)] mo rfl ⟨fun _ _ _ h _ => h, fun _ _ _ h _ => h, fun _ _ _ h _ => h, fun _ _ _ h _ => h, fun _ _ _ h _ => h, fun _ _ _ h _ => h, fun _ _ _ h _ => h, fun _ _ _ h _ => h, trivial⟩ ?_ ?_
   ·refine ⟨?_, ?_, ?_, ?_, ?_, ?_, ?_, ?_, trivial⟩
    ·intro ρz wz hz hk hd
     exact sk_val (v := V0_0) (xr_move rfl ((hk 0 rfl).trans e0)) rfl rfl
    ·intro ρz wz hz hk hd
     exact sk_val (v := .int .i64 s2) (xr_move rfl ((hk 5 rfl).trans e5)) rfl rfl
    ·intro ρz wz hz hk hd
     exact sk_val (xr_indexR (K := (kI .i64)) (v := V0_0) rfl Try.underlying25 sz3 (hd 0 rfl 17 rfl) (R0_0.gr (fB.gr hz)) (hd 1 rfl 18 rfl) g11.1 g11.2) rfl rfl
    ·intro ρz wz hz hk hd
     exact sk_val (v := .int .i64 (ix a0 s2)) (xr_load1 (v := .int .i64 (ix a0 s2)) rfl ag3 (hd 2 rfl 19 rfl) ((R0_0.gr (fB.gr hz)).elem g11.1 g11.2)) rfl rfl
    ·intro ρz wz hz hk hd
     exact sk_val (v := V1_0) (xr_move rfl ((hk 1 rfl).trans e1)) rfl rfl
    ·intro ρz wz hz hk hd
     exact sk_val (v := .int .i64 s2) (xr_move rfl ((hk 5 rfl).trans e5)) rfl rfl
    ·intro ρz wz hz hk hd
     exact sk_val (xr_indexR (K := (kI .i64)) (v := V1_0) rfl Try.underlying25 sz3 (hd 4 rfl 21 rfl) (R1_0.gr (fB.gr hz)) (hd 5 rfl 22 rfl) g12.1 g12.2) rfl rfl
    intro ρz wz hz hk hd
    exact sk_val (v := .int .i64 (ix a1 s2)) (xr_load1 (v := .int .i64 (ix a1 s2)) rfl ag3 (hd 6 rfl 23 rfl) ((R1_0.gr (fB.gr hz)).elem g12.1 g12.2)) rfl rfl
   intro ρ13 w14 q15 hk hd
   have e0 := (hk 0 rfl).trans e0
   have e1 := (hk 1 rfl).trans e1
   have e5 := (hk 5 rfl).trans e5
   have e20 := hd 3 rfl 20 rfl
   have e24 := hd 7 rfl 24 rfl
   have fB := fB.gr q15
   refine ol_val (v := .bool (!decide ((ix a0 s2) = (ix a1 s2)))) (xr_neI rfl Try.underlying3 rfl e20 e24) rfl rfl rfl ?_
   refine ol_nil ?_
   rcases is h with ⟨c16, h⟩ | ⟨c16, h⟩
   ·refine cw_condT rfl c16 ?_
    refine cw_seq ?_
    refine cw_region ?_
    refine ol_val (v := .bool false) (xr_assign rfl rfl) rfl rfl rfl ?_
    refine ol_nil ?_
    refine cw_ret ?_
    repeat (first | with_reducible refine thn_r ?_ | with_reducible refine blk_r ?_)
    obtain rfl := Option.some.inj h
    refine lp_ret ?_
    rintro rfl
    repeat (first | with_reducible refine thn_r ?_ | with_reducible refine blk_r ?_)
    have h := h5
    obtain rfl := Option.some.inj h
    refine fin_ret1 Try.results66 rfl ?_
    exact ⟨_, rfl, rfl, fB⟩
   refine cw_condF rfl c16 ?_
   refine cw_skip ?_
   refine blk_i ?_
   refine cw_region ?_
   refine ol_val (v := .int .i64 s2) (xr_move rfl e5) rfl rfl rfl ?_
   refine ol_val (v := .int .i64 (IntKind.i64.wrap (s2 + 1))) (xr_add rfl rfl rfl) rfl rfl rfl ?_
   refine ol_val (v := .int .i64 (IntKind.i64.wrap (s2 + 1))) (xr_assign rfl rfl) rfl rfl rfl ?_
   refine ol_nil ?_
   obtain rfl := Option.some.inj h
   refine lp_in ?_
   exact ⟨e0, e1, rfl, fB⟩
  refine cw_condF rfl c10 ?_
  refine cw_exit ?_
  repeat (first | with_reducible refine thn_e ?_ | with_reducible refine blk_e rfl ?_)
  obtain rfl := Option.some.inj h
  refine lp_exit ?_
  rintro rfl
  refine thn_x ?_
  exact ⟨_, rfl, fB⟩
 rintro ρ17 w18 ⟨x6, rfl, fB⟩
 have h := h5
 refine cw_seq ?_
 refine cw_region ?_
 refine ol_val (v := .bool true) (xr_assign rfl rfl) rfl rfl rfl ?_
 refine ol_nil ?_
 refine cw_ret ?_
 repeat (first | with_reducible refine thn_r ?_ | with_reducible refine blk_r ?_)
 obtain rfl := Option.some.inj h
 refine fin_ret1 Try.results66 rfl ?_
 exact ⟨_, rfl, rfl, fB⟩
def rickyardref13_Same.f (fu : Nat) (a0 : S_api_Super) (a1 : S_api_Super) : Option Bool := (((if (decide (a0.Epoch = a1.Epoch)) = true then (if (decide (a0.Tickets.Geometry = a1.Tickets.Geometry)) = true then (if (decide (a0.Tickets.High = a1.Tickets.High)) = true then (if (decide (a0.Tickets.Free = a1.Tickets.Free)) = true then (if (decide (a0.Tickets.Top = a1.Tickets.Top)) = true then (if (decide (a0.Dir = a1.Dir)) = true then ((rickyardref01_Ints.f fu a0.Charts a1.Charts).bind fun t22 => some (t22)) else some (false)) else some (false)) else some (false)) else some (false)) else some (false)) else some (false)) : Option Bool).bind fun x14 => some (x14))
theorem rickyardref13_Same.ok (fu : Nat) (w : World) (a0 : S_api_Super) (V0_0 : Value) (R0_0 : Rd (kI .i64) w V0_0 a0.Charts) (a1 : S_api_Super) (V1_0 : Value) (R1_0 : Rd (kI .i64) w V1_0 a1.Charts) (r : Bool) (h : rickyardref13_Same.f fu a0 a1 = some r) :
  Calls Try.prog 74 (([aggV [(sI a0.Epoch), (sI a0.Tickets.Geometry.Blocks), (sI a0.Tickets.Geometry.Slots), (sI a0.Tickets.Geometry.Gens), (sI a0.Tickets.Top), (sI a0.Tickets.High), (sI a0.Tickets.Free), (sI a0.Dir), Seg.cell V0_0 R0_0.one], aggV [(sI a1.Epoch), (sI a1.Tickets.Geometry.Blocks), (sI a1.Tickets.Geometry.Slots), (sI a1.Tickets.Geometry.Gens), (sI a1.Tickets.Top), (sI a1.Tickets.High), (sI a1.Tickets.Free), (sI a1.Dir), Seg.cell V1_0 R1_0.one]] : List Value).toArray) w (fun e w' => ∃ v, e = .returned v ∧ v = .bool r ∧ Gr w w') := by
 unfold rickyardref13_Same.f at h
 have fB : Gr w w := Fr.refl _ _
 refine calls_cw Try.func74 rfl Try.ntmps74 rfl ?_
 refine cw_seq ?_
 refine cw_region ?_
 refine ol_op (opv_box (ss := [(sI a0.Epoch), (sI a0.Tickets.Geometry.Blocks), (sI a0.Tickets.Geometry.Slots), (sI a0.Tickets.Geometry.Gens), (sI a0.Tickets.Top), (sI a0.Tickets.High), (sI a0.Tickets.Free), (sI a0.Dir), Seg.cell V0_0 R0_0.one]) rfl rfl rfl) rfl rfl rfl ?_
 rintro _ w6 ⟨G1, rfl, b2, q3, z4⟩
 have z4 := Nat.le_trans fB.size z4
 have fB := fB.gr q3
 refine ol_op (opv_box (ss := [(sI a1.Epoch), (sI a1.Tickets.Geometry.Blocks), (sI a1.Tickets.Geometry.Slots), (sI a1.Tickets.Geometry.Gens), (sI a1.Tickets.Top), (sI a1.Tickets.High), (sI a1.Tickets.Free), (sI a1.Dir), Seg.cell V1_0 R1_0.one]) rfl rfl rfl) rfl rfl rfl ?_
 rintro _ w12 ⟨G7, rfl, b8, q9, z10⟩
 have n13 := b2.ne z10
 have z10 := Nat.le_trans fB.size z10
 have b2 := b2.gr q9
 have fB := fB.gr q9
 refine ol_val (v := .bool false) (xr_assign rfl rfl) rfl rfl rfl ?_
 refine ol_nil ?_
 refine cw_seq ?_
 obtain ⟨x14, j15, h⟩ := bs h
 refine cw_mid (fun ρ' w' => ρ' 4 = .bool x14 ∧ Gr w12 w') ?_ ?_
 ·skip
  refine cw_region ?_
  refine ol_val (v := (pt G1 0)) (xr_fieldAddr (p := 0) (q := 0) rfl fl110_0 rfl) rfl rfl rfl ?_
  refine ol_val (v := .int .i64 a0.Epoch) (xr_load1 (v := .int .i64 a0.Epoch) rfl ag3 rfl (b2.seg 0 rfl rfl)) rfl rfl rfl ?_
  refine ol_val (v := (pt G7 0)) (xr_fieldAddr (p := 0) (q := 0) rfl fl110_0 rfl) rfl rfl rfl ?_
  refine ol_val (v := .int .i64 a1.Epoch) (xr_load1 (v := .int .i64 a1.Epoch) rfl ag3 rfl (b8.seg 0 rfl rfl)) rfl rfl rfl ?_
  refine ol_val (v := .bool (decide (a0.Epoch = a1.Epoch))) (xr_eqI rfl Try.underlying3 rfl rfl rfl) rfl rfl rfl ?_
  refine ol_val (v := .bool (decide (a0.Epoch = a1.Epoch))) (xr_move rfl rfl) rfl rfl rfl ?_
  rcases is j15 with ⟨c16, j15⟩ | ⟨c16, j15⟩
  ·skip
   refine ol_gval (v := (pt G1 1)) (xr_fieldAddr (p := 0) (q := 1) rfl fl110_1 rfl) rfl rfl rfl rfl rfl c16 ?_
   refine ol_gval (v := (pt G1 1)) (xr_fieldAddr (p := 1) (q := 0) rfl fl108_0 rfl) rfl rfl rfl rfl rfl c16 ?_
   refine ol_gval (v := aggV [(sI a0.Tickets.Geometry.Blocks), (sI a0.Tickets.Geometry.Slots), (sI a0.Tickets.Geometry.Gens)]) (xr_loadS (ss := [(sI a0.Tickets.Geometry.Blocks), (sI a0.Tickets.Geometry.Slots), (sI a0.Tickets.Geometry.Gens)]) rfl ag106 sz106 rfl rfl (b2.segs 1 3 rfl)) rfl rfl rfl rfl rfl c16 ?_
   refine ol_gval (v := (pt G7 1)) (xr_fieldAddr (p := 0) (q := 1) rfl fl110_1 rfl) rfl rfl rfl rfl rfl c16 ?_
   refine ol_gval (v := (pt G7 1)) (xr_fieldAddr (p := 1) (q := 0) rfl fl108_0 rfl) rfl rfl rfl rfl rfl c16 ?_
   refine ol_gval (v := aggV [(sI a1.Tickets.Geometry.Blocks), (sI a1.Tickets.Geometry.Slots), (sI a1.Tickets.Geometry.Gens)]) (xr_loadS (ss := [(sI a1.Tickets.Geometry.Blocks), (sI a1.Tickets.Geometry.Slots), (sI a1.Tickets.Geometry.Gens)]) rfl ag106 sz106 rfl rfl (b8.segs 1 3 rfl)) rfl rfl rfl rfl rfl c16 ?_
   refine ol_gval (v := .bool (decide (a0.Tickets.Geometry = a1.Tickets.Geometry))) (xr_eqA (a := a0.Tickets.Geometry) (b := a1.Tickets.Geometry) rfl eqa106 rfl Try.eqGuardType105 rfl rfl rfl rfl) rfl rfl rfl rfl rfl c16 ?_
   refine ol_val (v := .bool (decide (a0.Tickets.Geometry = a1.Tickets.Geometry))) (xr_pickT rfl rfl c16 rfl) rfl rfl rfl ?_
   refine ol_val (v := .bool (decide (a0.Tickets.Geometry = a1.Tickets.Geometry))) (xr_move rfl rfl) rfl rfl rfl ?_
   rcases is j15 with ⟨c17, j15⟩ | ⟨c17, j15⟩
   ·skip
    refine ol_gval (v := (pt G1 1)) (xr_fieldAddr (p := 0) (q := 1) rfl fl110_1 rfl) rfl rfl rfl rfl rfl c17 ?_
    refine ol_gval (v := (pt G1 5)) (xr_fieldAddr (p := 1) (q := 4) rfl fl108_2 rfl) rfl rfl rfl rfl rfl c17 ?_
    refine ol_gval (v := .int .i64 a0.Tickets.High) (xr_load1 (v := .int .i64 a0.Tickets.High) rfl ag3 rfl (b2.seg 5 rfl rfl)) rfl rfl rfl rfl rfl c17 ?_
    refine ol_gval (v := (pt G7 1)) (xr_fieldAddr (p := 0) (q := 1) rfl fl110_1 rfl) rfl rfl rfl rfl rfl c17 ?_
    refine ol_gval (v := (pt G7 5)) (xr_fieldAddr (p := 1) (q := 4) rfl fl108_2 rfl) rfl rfl rfl rfl rfl c17 ?_
    refine ol_gval (v := .int .i64 a1.Tickets.High) (xr_load1 (v := .int .i64 a1.Tickets.High) rfl ag3 rfl (b8.seg 5 rfl rfl)) rfl rfl rfl rfl rfl c17 ?_
    refine ol_gval (v := .bool (decide (a0.Tickets.High = a1.Tickets.High))) (xr_eqI rfl Try.underlying3 rfl rfl rfl) rfl rfl rfl rfl rfl c17 ?_
    refine ol_val (v := .bool (decide (a0.Tickets.High = a1.Tickets.High))) (xr_pickT rfl rfl c17 rfl) rfl rfl rfl ?_
    refine ol_val (v := .bool (decide (a0.Tickets.High = a1.Tickets.High))) (xr_move rfl rfl) rfl rfl rfl ?_
    rcases is j15 with ⟨c18, j15⟩ | ⟨c18, j15⟩
    ·skip
     refine ol_gval (v := (pt G1 1)) (xr_fieldAddr (p := 0) (q := 1) rfl fl110_1 rfl) rfl rfl rfl rfl rfl c18 ?_
     refine ol_gval (v := (pt G1 6)) (xr_fieldAddr (p := 1) (q := 5) rfl fl108_3 rfl) rfl rfl rfl rfl rfl c18 ?_
     refine ol_gval (v := .int .i64 a0.Tickets.Free) (xr_load1 (v := .int .i64 a0.Tickets.Free) rfl ag3 rfl (b2.seg 6 rfl rfl)) rfl rfl rfl rfl rfl c18 ?_
     refine ol_gval (v := (pt G7 1)) (xr_fieldAddr (p := 0) (q := 1) rfl fl110_1 rfl) rfl rfl rfl rfl rfl c18 ?_
     refine ol_gval (v := (pt G7 6)) (xr_fieldAddr (p := 1) (q := 5) rfl fl108_3 rfl) rfl rfl rfl rfl rfl c18 ?_
     refine ol_gval (v := .int .i64 a1.Tickets.Free) (xr_load1 (v := .int .i64 a1.Tickets.Free) rfl ag3 rfl (b8.seg 6 rfl rfl)) rfl rfl rfl rfl rfl c18 ?_
     refine ol_gval (v := .bool (decide (a0.Tickets.Free = a1.Tickets.Free))) (xr_eqI rfl Try.underlying3 rfl rfl rfl) rfl rfl rfl rfl rfl c18 ?_
     refine ol_val (v := .bool (decide (a0.Tickets.Free = a1.Tickets.Free))) (xr_pickT rfl rfl c18 rfl) rfl rfl rfl ?_
     refine ol_val (v := .bool (decide (a0.Tickets.Free = a1.Tickets.Free))) (xr_move rfl rfl) rfl rfl rfl ?_
     rcases is j15 with ⟨c19, j15⟩ | ⟨c19, j15⟩
     ·skip
      refine ol_gval (v := (pt G1 1)) (xr_fieldAddr (p := 0) (q := 1) rfl fl110_1 rfl) rfl rfl rfl rfl rfl c19 ?_
      refine ol_gval (v := (pt G1 4)) (xr_fieldAddr (p := 1) (q := 3) rfl fl108_1 rfl) rfl rfl rfl rfl rfl c19 ?_
      refine ol_gval (v := .int .i64 a0.Tickets.Top) (xr_load1 (v := .int .i64 a0.Tickets.Top) rfl ag3 rfl (b2.seg 4 rfl rfl)) rfl rfl rfl rfl rfl c19 ?_
      refine ol_gval (v := (pt G7 1)) (xr_fieldAddr (p := 0) (q := 1) rfl fl110_1 rfl) rfl rfl rfl rfl rfl c19 ?_
      refine ol_gval (v := (pt G7 4)) (xr_fieldAddr (p := 1) (q := 3) rfl fl108_1 rfl) rfl rfl rfl rfl rfl c19 ?_
      refine ol_gval (v := .int .i64 a1.Tickets.Top) (xr_load1 (v := .int .i64 a1.Tickets.Top) rfl ag3 rfl (b8.seg 4 rfl rfl)) rfl rfl rfl rfl rfl c19 ?_
      refine ol_gval (v := .bool (decide (a0.Tickets.Top = a1.Tickets.Top))) (xr_eqI rfl Try.underlying3 rfl rfl rfl) rfl rfl rfl rfl rfl c19 ?_
      refine ol_val (v := .bool (decide (a0.Tickets.Top = a1.Tickets.Top))) (xr_pickT rfl rfl c19 rfl) rfl rfl rfl ?_
      refine ol_val (v := .bool (decide (a0.Tickets.Top = a1.Tickets.Top))) (xr_move rfl rfl) rfl rfl rfl ?_
      rcases is j15 with ⟨c20, j15⟩ | ⟨c20, j15⟩
      ·skip
       refine ol_gval (v := (pt G1 7)) (xr_fieldAddr (p := 0) (q := 7) rfl fl110_2 rfl) rfl rfl rfl rfl rfl c20 ?_
       refine ol_gval (v := .int .i64 a0.Dir) (xr_load1 (v := .int .i64 a0.Dir) rfl ag3 rfl (b2.seg 7 rfl rfl)) rfl rfl rfl rfl rfl c20 ?_
       refine ol_gval (v := (pt G7 7)) (xr_fieldAddr (p := 0) (q := 7) rfl fl110_2 rfl) rfl rfl rfl rfl rfl c20 ?_
       refine ol_gval (v := .int .i64 a1.Dir) (xr_load1 (v := .int .i64 a1.Dir) rfl ag3 rfl (b8.seg 7 rfl rfl)) rfl rfl rfl rfl rfl c20 ?_
       refine ol_gval (v := .bool (decide (a0.Dir = a1.Dir))) (xr_eqI rfl Try.underlying3 rfl rfl rfl) rfl rfl rfl rfl rfl c20 ?_
       refine ol_val (v := .bool (decide (a0.Dir = a1.Dir))) (xr_pickT rfl rfl c20 rfl) rfl rfl rfl ?_
       refine ol_val (v := .bool (decide (a0.Dir = a1.Dir))) (xr_move rfl rfl) rfl rfl rfl ?_
       rcases is j15 with ⟨c21, j15⟩ | ⟨c21, j15⟩
       ·skip
        refine ol_gval (v := (pt G1 8)) (xr_fieldAddr (p := 0) (q := 8) rfl fl110_3 rfl) rfl rfl rfl rfl rfl c21 ?_
        refine ol_gval (v := V0_0) (xr_load1 (v := V0_0) rfl ag25 rfl (b2.seg 8 rfl rfl)) rfl rfl rfl rfl rfl c21 ?_
        refine ol_gval (v := (pt G7 8)) (xr_fieldAddr (p := 0) (q := 8) rfl fl110_3 rfl) rfl rfl rfl rfl rfl c21 ?_
        refine ol_gval (v := V1_0) (xr_load1 (v := V1_0) rfl ag25 rfl (b8.seg 8 rfl rfl)) rfl rfl rfl rfl rfl c21 ?_
        obtain ⟨t22, k23, j15⟩ := bs j15
        refine ol_gop (opv_call rfl cal66 (ac rfl (ac rfl an)) (rickyardref01_Ints.ok fu _ a0.Charts V0_0 (R0_0.gr fB) a1.Charts V1_0 (R1_0.gr fB) _ k23)) rfl rfl rfl rfl rfl c21 ?_
        rintro _ w25 ⟨rfl, q24⟩
        have fB := fB.gr q24
        refine ol_val (v := .bool t22) (xr_pickT rfl rfl c21 rfl) rfl rfl rfl ?_
        refine ol_val (v := .bool t22) (xr_assign rfl rfl) rfl rfl rfl ?_
        refine ol_nil ?_
        obtain rfl := Option.some.inj j15
        refine thn_i ?_
        exact ⟨rfl, q24⟩
       refine ol_gskip rfl rfl rfl rfl rfl c21 ?_
       refine ol_gskip rfl rfl rfl rfl rfl c21 ?_
       refine ol_gskip rfl rfl rfl rfl rfl c21 ?_
       refine ol_gskip rfl rfl rfl rfl rfl c21 ?_
       refine ol_gskip rfl rfl rfl rfl rfl c21 ?_
       refine ol_val (v := .bool false) (xr_pickF rfl rfl c21 rfl) rfl rfl rfl ?_
       refine ol_val (v := .bool false) (xr_assign rfl rfl) rfl rfl rfl ?_
       refine ol_nil ?_
       obtain rfl := Option.some.inj j15
       refine thn_i ?_
       exact ⟨rfl, Fr.refl _ _⟩
      refine ol_gskip rfl rfl rfl rfl rfl c20 ?_
      refine ol_gskip rfl rfl rfl rfl rfl c20 ?_
      refine ol_gskip rfl rfl rfl rfl rfl c20 ?_
      refine ol_gskip rfl rfl rfl rfl rfl c20 ?_
      refine ol_gskip rfl rfl rfl rfl rfl c20 ?_
      refine ol_val (v := .bool false) (xr_pickF rfl rfl c20 rfl) rfl rfl rfl ?_
      refine ol_val (v := .bool false) (xr_move rfl rfl) rfl rfl rfl ?_
      refine ol_gskip rfl rfl rfl rfl rfl rfl ?_
      refine ol_gskip rfl rfl rfl rfl rfl rfl ?_
      refine ol_gskip rfl rfl rfl rfl rfl rfl ?_
      refine ol_gskip rfl rfl rfl rfl rfl rfl ?_
      refine ol_gskip rfl rfl rfl rfl rfl rfl ?_
      refine ol_val (v := .bool false) (xr_pickF rfl rfl rfl rfl) rfl rfl rfl ?_
      refine ol_val (v := .bool false) (xr_assign rfl rfl) rfl rfl rfl ?_
      refine ol_nil ?_
      obtain rfl := Option.some.inj j15
      refine thn_i ?_
      exact ⟨rfl, Fr.refl _ _⟩
     refine ol_gskip rfl rfl rfl rfl rfl c19 ?_
     refine ol_gskip rfl rfl rfl rfl rfl c19 ?_
     refine ol_gskip rfl rfl rfl rfl rfl c19 ?_
     refine ol_gskip rfl rfl rfl rfl rfl c19 ?_
     refine ol_gskip rfl rfl rfl rfl rfl c19 ?_
     refine ol_gskip rfl rfl rfl rfl rfl c19 ?_
     refine ol_gskip rfl rfl rfl rfl rfl c19 ?_
     refine ol_val (v := .bool false) (xr_pickF rfl rfl c19 rfl) rfl rfl rfl ?_
     refine ol_val (v := .bool false) (xr_move rfl rfl) rfl rfl rfl ?_
     refine ol_gskip rfl rfl rfl rfl rfl rfl ?_
     refine ol_gskip rfl rfl rfl rfl rfl rfl ?_
     refine ol_gskip rfl rfl rfl rfl rfl rfl ?_
     refine ol_gskip rfl rfl rfl rfl rfl rfl ?_
     refine ol_gskip rfl rfl rfl rfl rfl rfl ?_
     refine ol_val (v := .bool false) (xr_pickF rfl rfl rfl rfl) rfl rfl rfl ?_
     refine ol_val (v := .bool false) (xr_move rfl rfl) rfl rfl rfl ?_
     refine ol_gskip rfl rfl rfl rfl rfl rfl ?_
     refine ol_gskip rfl rfl rfl rfl rfl rfl ?_
     refine ol_gskip rfl rfl rfl rfl rfl rfl ?_
     refine ol_gskip rfl rfl rfl rfl rfl rfl ?_
     refine ol_gskip rfl rfl rfl rfl rfl rfl ?_
     refine ol_val (v := .bool false) (xr_pickF rfl rfl rfl rfl) rfl rfl rfl ?_
     refine ol_val (v := .bool false) (xr_assign rfl rfl) rfl rfl rfl ?_
     refine ol_nil ?_
     obtain rfl := Option.some.inj j15
     refine thn_i ?_
     exact ⟨rfl, Fr.refl _ _⟩
    refine ol_gskip rfl rfl rfl rfl rfl c18 ?_
    refine ol_gskip rfl rfl rfl rfl rfl c18 ?_
    refine ol_gskip rfl rfl rfl rfl rfl c18 ?_
    refine ol_gskip rfl rfl rfl rfl rfl c18 ?_
    refine ol_gskip rfl rfl rfl rfl rfl c18 ?_
    refine ol_gskip rfl rfl rfl rfl rfl c18 ?_
    refine ol_gskip rfl rfl rfl rfl rfl c18 ?_
    refine ol_val (v := .bool false) (xr_pickF rfl rfl c18 rfl) rfl rfl rfl ?_
    refine ol_val (v := .bool false) (xr_move rfl rfl) rfl rfl rfl ?_
    refine ol_gskip rfl rfl rfl rfl rfl rfl ?_
    refine ol_gskip rfl rfl rfl rfl rfl rfl ?_
    refine ol_gskip rfl rfl rfl rfl rfl rfl ?_
    refine ol_gskip rfl rfl rfl rfl rfl rfl ?_
    refine ol_gskip rfl rfl rfl rfl rfl rfl ?_
    refine ol_gskip rfl rfl rfl rfl rfl rfl ?_
    refine ol_gskip rfl rfl rfl rfl rfl rfl ?_
    refine ol_val (v := .bool false) (xr_pickF rfl rfl rfl rfl) rfl rfl rfl ?_
    refine ol_val (v := .bool false) (xr_move rfl rfl) rfl rfl rfl ?_
    refine ol_gskip rfl rfl rfl rfl rfl rfl ?_
    refine ol_gskip rfl rfl rfl rfl rfl rfl ?_
    refine ol_gskip rfl rfl rfl rfl rfl rfl ?_
    refine ol_gskip rfl rfl rfl rfl rfl rfl ?_
    refine ol_gskip rfl rfl rfl rfl rfl rfl ?_
    refine ol_val (v := .bool false) (xr_pickF rfl rfl rfl rfl) rfl rfl rfl ?_
    refine ol_val (v := .bool false) (xr_move rfl rfl) rfl rfl rfl ?_
    refine ol_gskip rfl rfl rfl rfl rfl rfl ?_
    refine ol_gskip rfl rfl rfl rfl rfl rfl ?_
    refine ol_gskip rfl rfl rfl rfl rfl rfl ?_
    refine ol_gskip rfl rfl rfl rfl rfl rfl ?_
    refine ol_gskip rfl rfl rfl rfl rfl rfl ?_
    refine ol_val (v := .bool false) (xr_pickF rfl rfl rfl rfl) rfl rfl rfl ?_
    refine ol_val (v := .bool false) (xr_assign rfl rfl) rfl rfl rfl ?_
    refine ol_nil ?_
    obtain rfl := Option.some.inj j15
    refine thn_i ?_
    exact ⟨rfl, Fr.refl _ _⟩
   refine ol_gskip rfl rfl rfl rfl rfl c17 ?_
   refine ol_gskip rfl rfl rfl rfl rfl c17 ?_
   refine ol_gskip rfl rfl rfl rfl rfl c17 ?_
   refine ol_gskip rfl rfl rfl rfl rfl c17 ?_
   refine ol_gskip rfl rfl rfl rfl rfl c17 ?_
   refine ol_gskip rfl rfl rfl rfl rfl c17 ?_
   refine ol_gskip rfl rfl rfl rfl rfl c17 ?_
   refine ol_val (v := .bool false) (xr_pickF rfl rfl c17 rfl) rfl rfl rfl ?_
   refine ol_val (v := .bool false) (xr_move rfl rfl) rfl rfl rfl ?_
   refine ol_gskip rfl rfl rfl rfl rfl rfl ?_
   refine ol_gskip rfl rfl rfl rfl rfl rfl ?_
   refine ol_gskip rfl rfl rfl rfl rfl rfl ?_
   refine ol_gskip rfl rfl rfl rfl rfl rfl ?_
   refine ol_gskip rfl rfl rfl rfl rfl rfl ?_
   refine ol_gskip rfl rfl rfl rfl rfl rfl ?_
   refine ol_gskip rfl rfl rfl rfl rfl rfl ?_
   refine ol_val (v := .bool false) (xr_pickF rfl rfl rfl rfl) rfl rfl rfl ?_
   refine ol_val (v := .bool false) (xr_move rfl rfl) rfl rfl rfl ?_
   refine ol_gskip rfl rfl rfl rfl rfl rfl ?_
   refine ol_gskip rfl rfl rfl rfl rfl rfl ?_
   refine ol_gskip rfl rfl rfl rfl rfl rfl ?_
   refine ol_gskip rfl rfl rfl rfl rfl rfl ?_
   refine ol_gskip rfl rfl rfl rfl rfl rfl ?_
   refine ol_gskip rfl rfl rfl rfl rfl rfl ?_
   refine ol_gskip rfl rfl rfl rfl rfl rfl ?_
   refine ol_val (v := .bool false) (xr_pickF rfl rfl rfl rfl) rfl rfl rfl ?_
   refine ol_val (v := .bool false) (xr_move rfl rfl) rfl rfl rfl ?_
   refine ol_gskip rfl rfl rfl rfl rfl rfl ?_
   refine ol_gskip rfl rfl rfl rfl rfl rfl ?_
   refine ol_gskip rfl rfl rfl rfl rfl rfl ?_
   refine ol_gskip rfl rfl rfl rfl rfl rfl ?_
   refine ol_gskip rfl rfl rfl rfl rfl rfl ?_
   refine ol_val (v := .bool false) (xr_pickF rfl rfl rfl rfl) rfl rfl rfl ?_
   refine ol_val (v := .bool false) (xr_move rfl rfl) rfl rfl rfl ?_
   refine ol_gskip rfl rfl rfl rfl rfl rfl ?_
   refine ol_gskip rfl rfl rfl rfl rfl rfl ?_
   refine ol_gskip rfl rfl rfl rfl rfl rfl ?_
   refine ol_gskip rfl rfl rfl rfl rfl rfl ?_
   refine ol_gskip rfl rfl rfl rfl rfl rfl ?_
   refine ol_val (v := .bool false) (xr_pickF rfl rfl rfl rfl) rfl rfl rfl ?_
   refine ol_val (v := .bool false) (xr_assign rfl rfl) rfl rfl rfl ?_
   refine ol_nil ?_
   obtain rfl := Option.some.inj j15
   refine thn_i ?_
   exact ⟨rfl, Fr.refl _ _⟩
  refine ol_gskip rfl rfl rfl rfl rfl c16 ?_
  refine ol_gskip rfl rfl rfl rfl rfl c16 ?_
  refine ol_gskip rfl rfl rfl rfl rfl c16 ?_
  refine ol_gskip rfl rfl rfl rfl rfl c16 ?_
  refine ol_gskip rfl rfl rfl rfl rfl c16 ?_
  refine ol_gskip rfl rfl rfl rfl rfl c16 ?_
  refine ol_gskip rfl rfl rfl rfl rfl c16 ?_
  refine ol_val (v := .bool false) (xr_pickF rfl rfl c16 rfl) rfl rfl rfl ?_
  refine ol_val (v := .bool false) (xr_move rfl rfl) rfl rfl rfl ?_
  refine ol_gskip rfl rfl rfl rfl rfl rfl ?_
  refine ol_gskip rfl rfl rfl rfl rfl rfl ?_
  refine ol_gskip rfl rfl rfl rfl rfl rfl ?_
  refine ol_gskip rfl rfl rfl rfl rfl rfl ?_
  refine ol_gskip rfl rfl rfl rfl rfl rfl ?_
  refine ol_gskip rfl rfl rfl rfl rfl rfl ?_
  refine ol_gskip rfl rfl rfl rfl rfl rfl ?_
  refine ol_val (v := .bool false) (xr_pickF rfl rfl rfl rfl) rfl rfl rfl ?_
  refine ol_val (v := .bool false) (xr_move rfl rfl) rfl rfl rfl ?_
  refine ol_gskip rfl rfl rfl rfl rfl rfl ?_
  refine ol_gskip rfl rfl rfl rfl rfl rfl ?_
  refine ol_gskip rfl rfl rfl rfl rfl rfl ?_
  refine ol_gskip rfl rfl rfl rfl rfl rfl ?_
  refine ol_gskip rfl rfl rfl rfl rfl rfl ?_
  refine ol_gskip rfl rfl rfl rfl rfl rfl ?_
  refine ol_gskip rfl rfl rfl rfl rfl rfl ?_
  refine ol_val (v := .bool false) (xr_pickF rfl rfl rfl rfl) rfl rfl rfl ?_
  refine ol_val (v := .bool false) (xr_move rfl rfl) rfl rfl rfl ?_
  refine ol_gskip rfl rfl rfl rfl rfl rfl ?_
  refine ol_gskip rfl rfl rfl rfl rfl rfl ?_
  refine ol_gskip rfl rfl rfl rfl rfl rfl ?_
  refine ol_gskip rfl rfl rfl rfl rfl rfl ?_
  refine ol_gskip rfl rfl rfl rfl rfl rfl ?_
  refine ol_gskip rfl rfl rfl rfl rfl rfl ?_
  refine ol_gskip rfl rfl rfl rfl rfl rfl ?_
  refine ol_val (v := .bool false) (xr_pickF rfl rfl rfl rfl) rfl rfl rfl ?_
  refine ol_val (v := .bool false) (xr_move rfl rfl) rfl rfl rfl ?_
  refine ol_gskip rfl rfl rfl rfl rfl rfl ?_
  refine ol_gskip rfl rfl rfl rfl rfl rfl ?_
  refine ol_gskip rfl rfl rfl rfl rfl rfl ?_
  refine ol_gskip rfl rfl rfl rfl rfl rfl ?_
  refine ol_gskip rfl rfl rfl rfl rfl rfl ?_
  refine ol_val (v := .bool false) (xr_pickF rfl rfl rfl rfl) rfl rfl rfl ?_
  refine ol_val (v := .bool false) (xr_move rfl rfl) rfl rfl rfl ?_
  refine ol_gskip rfl rfl rfl rfl rfl rfl ?_
  refine ol_gskip rfl rfl rfl rfl rfl rfl ?_
  refine ol_gskip rfl rfl rfl rfl rfl rfl ?_
  refine ol_gskip rfl rfl rfl rfl rfl rfl ?_
  refine ol_gskip rfl rfl rfl rfl rfl rfl ?_
  refine ol_val (v := .bool false) (xr_pickF rfl rfl rfl rfl) rfl rfl rfl ?_
  refine ol_val (v := .bool false) (xr_assign rfl rfl) rfl rfl rfl ?_
  refine ol_nil ?_
  obtain rfl := Option.some.inj j15
  refine thn_i ?_
  exact ⟨rfl, Fr.refl _ _⟩
 rintro ρ26 w27 ⟨e4, q28⟩
 have fB := fB.gr q28
 refine cw_ret ?_
 repeat (first | with_reducible refine thn_r ?_ | with_reducible refine blk_r ?_)
 obtain rfl := Option.some.inj h
 refine fin_ret1 Try.results74 e4 ?_
 exact ⟨_, rfl, rfl, fB⟩
def rickyardref12_Right.f (fu : Nat) (a0 : S_api_Geometry) : Option Bool := some ((if (decide (a0.Blocks ≥ 16)) = true then (if (decide (a0.Blocks ≤ 3072)) = true then (if (decide (a0.Slots ≥ 1)) = true then (if (decide (a0.Slots ≤ 1792)) = true then (if (decide (a0.Gens ≥ 1)) = true then (decide (a0.Gens ≤ 4294967295)) else false) else false) else false) else false) else false))
theorem rickyardref12_Right.ok (fu : Nat) (w : World) (a0 : S_api_Geometry) (r : Bool) (h : rickyardref12_Right.f fu a0 = some r) :
  Calls Try.prog 115 (([aggV [(sI a0.Blocks), (sI a0.Slots), (sI a0.Gens)]] : List Value).toArray) w (fun e w' => ∃ v, e = .returned v ∧ v = .bool r ∧ Gr w w') := by
 unfold rickyardref12_Right.f at h
 have fB : Gr w w := Fr.refl _ _
 refine calls_cw Try.func115 rfl Try.ntmps115 rfl ?_
 refine cw_seq ?_
 refine cw_region ?_
 refine ol_op (opv_box (ss := [(sI a0.Blocks), (sI a0.Slots), (sI a0.Gens)]) rfl rfl rfl) rfl rfl rfl ?_
 rintro _ w6 ⟨G1, rfl, b2, q3, z4⟩
 have z4 := Nat.le_trans fB.size z4
 have fB := fB.gr q3
 refine ol_val (v := .bool false) (xr_assign rfl rfl) rfl rfl rfl ?_
 refine ol_nil ?_
 refine cw_seq ?_
 refine cw_mid (fun ρ' w' => ρ' 2 = .bool (if (decide (a0.Blocks ≥ 16)) = true then (if (decide (a0.Blocks ≤ 3072)) = true then (if (decide (a0.Slots ≥ 1)) = true then (if (decide (a0.Slots ≤ 1792)) = true then (if (decide (a0.Gens ≥ 1)) = true then (decide (a0.Gens ≤ 4294967295)) else false) else false) else false) else false) else false) ∧ w6 = w') ?_ ?_
 ·skip
  refine cw_region ?_
  refine ol_val (v := (pt G1 0)) (xr_fieldAddr (p := 0) (q := 0) rfl fl106_0 rfl) rfl rfl rfl ?_
  refine ol_val (v := .int .i64 a0.Blocks) (xr_load1 (v := .int .i64 a0.Blocks) rfl ag3 rfl (b2.seg 0 rfl rfl)) rfl rfl rfl ?_
  refine ol_val (v := .bool (decide (a0.Blocks ≥ 16))) (xr_geq rfl rfl rfl) rfl rfl rfl ?_
  refine ol_val (v := .bool (decide (a0.Blocks ≥ 16))) (xr_move rfl rfl) rfl rfl rfl ?_
  rcases bt (decide (a0.Blocks ≥ 16)) with c7 | c7
  ·skip
   refine ol_gval (v := (pt G1 0)) (xr_fieldAddr (p := 0) (q := 0) rfl fl106_0 rfl) rfl rfl rfl rfl rfl c7 ?_
   refine ol_gval (v := .int .i64 a0.Blocks) (xr_load1 (v := .int .i64 a0.Blocks) rfl ag3 rfl (b2.seg 0 rfl rfl)) rfl rfl rfl rfl rfl c7 ?_
   refine ol_gval (v := .bool (decide (a0.Blocks ≤ 3072))) (xr_leq rfl rfl rfl) rfl rfl rfl rfl rfl c7 ?_
   refine ol_val (v := .bool (decide (a0.Blocks ≤ 3072))) (xr_pickT rfl rfl c7 rfl) rfl rfl rfl ?_
   refine ol_val (v := .bool (decide (a0.Blocks ≤ 3072))) (xr_move rfl rfl) rfl rfl rfl ?_
   rcases bt (decide (a0.Blocks ≤ 3072)) with c8 | c8
   ·skip
    refine ol_gval (v := (pt G1 1)) (xr_fieldAddr (p := 0) (q := 1) rfl fl106_1 rfl) rfl rfl rfl rfl rfl c8 ?_
    refine ol_gval (v := .int .i64 a0.Slots) (xr_load1 (v := .int .i64 a0.Slots) rfl ag3 rfl (b2.seg 1 rfl rfl)) rfl rfl rfl rfl rfl c8 ?_
    refine ol_gval (v := .bool (decide (a0.Slots ≥ 1))) (xr_geq rfl rfl rfl) rfl rfl rfl rfl rfl c8 ?_
    refine ol_val (v := .bool (decide (a0.Slots ≥ 1))) (xr_pickT rfl rfl c8 rfl) rfl rfl rfl ?_
    refine ol_val (v := .bool (decide (a0.Slots ≥ 1))) (xr_move rfl rfl) rfl rfl rfl ?_
    rcases bt (decide (a0.Slots ≥ 1)) with c9 | c9
    ·skip
     refine ol_gval (v := (pt G1 1)) (xr_fieldAddr (p := 0) (q := 1) rfl fl106_1 rfl) rfl rfl rfl rfl rfl c9 ?_
     refine ol_gval (v := .int .i64 a0.Slots) (xr_load1 (v := .int .i64 a0.Slots) rfl ag3 rfl (b2.seg 1 rfl rfl)) rfl rfl rfl rfl rfl c9 ?_
     refine ol_gval (v := .bool (decide (a0.Slots ≤ 1792))) (xr_leq rfl rfl rfl) rfl rfl rfl rfl rfl c9 ?_
     refine ol_val (v := .bool (decide (a0.Slots ≤ 1792))) (xr_pickT rfl rfl c9 rfl) rfl rfl rfl ?_
     refine ol_val (v := .bool (decide (a0.Slots ≤ 1792))) (xr_move rfl rfl) rfl rfl rfl ?_
     rcases bt (decide (a0.Slots ≤ 1792)) with c10 | c10
     ·skip
      refine ol_gval (v := (pt G1 2)) (xr_fieldAddr (p := 0) (q := 2) rfl fl106_2 rfl) rfl rfl rfl rfl rfl c10 ?_
      refine ol_gval (v := .int .i64 a0.Gens) (xr_load1 (v := .int .i64 a0.Gens) rfl ag3 rfl (b2.seg 2 rfl rfl)) rfl rfl rfl rfl rfl c10 ?_
      refine ol_gval (v := .bool (decide (a0.Gens ≥ 1))) (xr_geq rfl rfl rfl) rfl rfl rfl rfl rfl c10 ?_
      refine ol_val (v := .bool (decide (a0.Gens ≥ 1))) (xr_pickT rfl rfl c10 rfl) rfl rfl rfl ?_
      refine ol_val (v := .bool (decide (a0.Gens ≥ 1))) (xr_move rfl rfl) rfl rfl rfl ?_
      rcases bt (decide (a0.Gens ≥ 1)) with c11 | c11
      ·skip
       refine ol_gval (v := (pt G1 2)) (xr_fieldAddr (p := 0) (q := 2) rfl fl106_2 rfl) rfl rfl rfl rfl rfl c11 ?_
       refine ol_gval (v := .int .i64 a0.Gens) (xr_load1 (v := .int .i64 a0.Gens) rfl ag3 rfl (b2.seg 2 rfl rfl)) rfl rfl rfl rfl rfl c11 ?_
       refine ol_gval (v := .bool (decide (a0.Gens ≤ 4294967295))) (xr_leq rfl rfl rfl) rfl rfl rfl rfl rfl c11 ?_
       refine ol_val (v := .bool (decide (a0.Gens ≤ 4294967295))) (xr_pickT rfl rfl c11 rfl) rfl rfl rfl ?_
       refine ol_val (v := .bool (decide (a0.Gens ≤ 4294967295))) (xr_assign rfl rfl) rfl rfl rfl ?_
       refine ol_nil ?_
       refine thn_i ?_
       exact ⟨(rfl).trans (congrArg (fun z => (.bool z : Value)) (show (decide (a0.Gens ≤ 4294967295)) = (if (decide (a0.Blocks ≥ 16)) = true then (if (decide (a0.Blocks ≤ 3072)) = true then (if (decide (a0.Slots ≥ 1)) = true then (if (decide (a0.Slots ≤ 1792)) = true then (if (decide (a0.Gens ≥ 1)) = true then (decide (a0.Gens ≤ 4294967295)) else false) else false) else false) else false) else false) from by rw [ite_t c7, ite_t c8, ite_t c9, ite_t c10, ite_t c11])), rfl⟩
      refine ol_gskip rfl rfl rfl rfl rfl c11 ?_
      refine ol_gskip rfl rfl rfl rfl rfl c11 ?_
      refine ol_gskip rfl rfl rfl rfl rfl c11 ?_
      refine ol_val (v := .bool false) (xr_pickF rfl rfl c11 rfl) rfl rfl rfl ?_
      refine ol_val (v := .bool false) (xr_assign rfl rfl) rfl rfl rfl ?_
      refine ol_nil ?_
      refine thn_i ?_
      exact ⟨(rfl).trans (congrArg (fun z => (.bool z : Value)) (show false = (if (decide (a0.Blocks ≥ 16)) = true then (if (decide (a0.Blocks ≤ 3072)) = true then (if (decide (a0.Slots ≥ 1)) = true then (if (decide (a0.Slots ≤ 1792)) = true then (if (decide (a0.Gens ≥ 1)) = true then (decide (a0.Gens ≤ 4294967295)) else false) else false) else false) else false) else false) from by rw [ite_t c7, ite_t c8, ite_t c9, ite_t c10, ite_f c11])), rfl⟩
     refine ol_gskip rfl rfl rfl rfl rfl c10 ?_
     refine ol_gskip rfl rfl rfl rfl rfl c10 ?_
     refine ol_gskip rfl rfl rfl rfl rfl c10 ?_
     refine ol_val (v := .bool false) (xr_pickF rfl rfl c10 rfl) rfl rfl rfl ?_
     refine ol_val (v := .bool false) (xr_move rfl rfl) rfl rfl rfl ?_
     refine ol_gskip rfl rfl rfl rfl rfl rfl ?_
     refine ol_gskip rfl rfl rfl rfl rfl rfl ?_
     refine ol_gskip rfl rfl rfl rfl rfl rfl ?_
     refine ol_val (v := .bool false) (xr_pickF rfl rfl rfl rfl) rfl rfl rfl ?_
     refine ol_val (v := .bool false) (xr_assign rfl rfl) rfl rfl rfl ?_
     refine ol_nil ?_
     refine thn_i ?_
     exact ⟨(rfl).trans (congrArg (fun z => (.bool z : Value)) (show false = (if (decide (a0.Blocks ≥ 16)) = true then (if (decide (a0.Blocks ≤ 3072)) = true then (if (decide (a0.Slots ≥ 1)) = true then (if (decide (a0.Slots ≤ 1792)) = true then (if (decide (a0.Gens ≥ 1)) = true then (decide (a0.Gens ≤ 4294967295)) else false) else false) else false) else false) else false) from by rw [ite_t c7, ite_t c8, ite_t c9, ite_f c10])), rfl⟩
    refine ol_gskip rfl rfl rfl rfl rfl c9 ?_
    refine ol_gskip rfl rfl rfl rfl rfl c9 ?_
    refine ol_gskip rfl rfl rfl rfl rfl c9 ?_
    refine ol_val (v := .bool false) (xr_pickF rfl rfl c9 rfl) rfl rfl rfl ?_
    refine ol_val (v := .bool false) (xr_move rfl rfl) rfl rfl rfl ?_
    refine ol_gskip rfl rfl rfl rfl rfl rfl ?_
    refine ol_gskip rfl rfl rfl rfl rfl rfl ?_
    refine ol_gskip rfl rfl rfl rfl rfl rfl ?_
    refine ol_val (v := .bool false) (xr_pickF rfl rfl rfl rfl) rfl rfl rfl ?_
    refine ol_val (v := .bool false) (xr_move rfl rfl) rfl rfl rfl ?_
    refine ol_gskip rfl rfl rfl rfl rfl rfl ?_
    refine ol_gskip rfl rfl rfl rfl rfl rfl ?_
    refine ol_gskip rfl rfl rfl rfl rfl rfl ?_
    refine ol_val (v := .bool false) (xr_pickF rfl rfl rfl rfl) rfl rfl rfl ?_
    refine ol_val (v := .bool false) (xr_assign rfl rfl) rfl rfl rfl ?_
    refine ol_nil ?_
    refine thn_i ?_
    exact ⟨(rfl).trans (congrArg (fun z => (.bool z : Value)) (show false = (if (decide (a0.Blocks ≥ 16)) = true then (if (decide (a0.Blocks ≤ 3072)) = true then (if (decide (a0.Slots ≥ 1)) = true then (if (decide (a0.Slots ≤ 1792)) = true then (if (decide (a0.Gens ≥ 1)) = true then (decide (a0.Gens ≤ 4294967295)) else false) else false) else false) else false) else false) from by rw [ite_t c7, ite_t c8, ite_f c9])), rfl⟩
   refine ol_gskip rfl rfl rfl rfl rfl c8 ?_
   refine ol_gskip rfl rfl rfl rfl rfl c8 ?_
   refine ol_gskip rfl rfl rfl rfl rfl c8 ?_
   refine ol_val (v := .bool false) (xr_pickF rfl rfl c8 rfl) rfl rfl rfl ?_
   refine ol_val (v := .bool false) (xr_move rfl rfl) rfl rfl rfl ?_
   refine ol_gskip rfl rfl rfl rfl rfl rfl ?_
   refine ol_gskip rfl rfl rfl rfl rfl rfl ?_
   refine ol_gskip rfl rfl rfl rfl rfl rfl ?_
   refine ol_val (v := .bool false) (xr_pickF rfl rfl rfl rfl) rfl rfl rfl ?_
   refine ol_val (v := .bool false) (xr_move rfl rfl) rfl rfl rfl ?_
   refine ol_gskip rfl rfl rfl rfl rfl rfl ?_
   refine ol_gskip rfl rfl rfl rfl rfl rfl ?_
   refine ol_gskip rfl rfl rfl rfl rfl rfl ?_
   refine ol_val (v := .bool false) (xr_pickF rfl rfl rfl rfl) rfl rfl rfl ?_
   refine ol_val (v := .bool false) (xr_move rfl rfl) rfl rfl rfl ?_
   refine ol_gskip rfl rfl rfl rfl rfl rfl ?_
   refine ol_gskip rfl rfl rfl rfl rfl rfl ?_
   refine ol_gskip rfl rfl rfl rfl rfl rfl ?_
   refine ol_val (v := .bool false) (xr_pickF rfl rfl rfl rfl) rfl rfl rfl ?_
   refine ol_val (v := .bool false) (xr_assign rfl rfl) rfl rfl rfl ?_
   refine ol_nil ?_
   refine thn_i ?_
   exact ⟨(rfl).trans (congrArg (fun z => (.bool z : Value)) (show false = (if (decide (a0.Blocks ≥ 16)) = true then (if (decide (a0.Blocks ≤ 3072)) = true then (if (decide (a0.Slots ≥ 1)) = true then (if (decide (a0.Slots ≤ 1792)) = true then (if (decide (a0.Gens ≥ 1)) = true then (decide (a0.Gens ≤ 4294967295)) else false) else false) else false) else false) else false) from by rw [ite_t c7, ite_f c8])), rfl⟩
  refine ol_gskip rfl rfl rfl rfl rfl c7 ?_
  refine ol_gskip rfl rfl rfl rfl rfl c7 ?_
  refine ol_gskip rfl rfl rfl rfl rfl c7 ?_
  refine ol_val (v := .bool false) (xr_pickF rfl rfl c7 rfl) rfl rfl rfl ?_
  refine ol_val (v := .bool false) (xr_move rfl rfl) rfl rfl rfl ?_
  refine ol_gskip rfl rfl rfl rfl rfl rfl ?_
  refine ol_gskip rfl rfl rfl rfl rfl rfl ?_
  refine ol_gskip rfl rfl rfl rfl rfl rfl ?_
  refine ol_val (v := .bool false) (xr_pickF rfl rfl rfl rfl) rfl rfl rfl ?_
  refine ol_val (v := .bool false) (xr_move rfl rfl) rfl rfl rfl ?_
  refine ol_gskip rfl rfl rfl rfl rfl rfl ?_
  refine ol_gskip rfl rfl rfl rfl rfl rfl ?_
  refine ol_gskip rfl rfl rfl rfl rfl rfl ?_
  refine ol_val (v := .bool false) (xr_pickF rfl rfl rfl rfl) rfl rfl rfl ?_
  refine ol_val (v := .bool false) (xr_move rfl rfl) rfl rfl rfl ?_
  refine ol_gskip rfl rfl rfl rfl rfl rfl ?_
  refine ol_gskip rfl rfl rfl rfl rfl rfl ?_
  refine ol_gskip rfl rfl rfl rfl rfl rfl ?_
  refine ol_val (v := .bool false) (xr_pickF rfl rfl rfl rfl) rfl rfl rfl ?_
  refine ol_val (v := .bool false) (xr_move rfl rfl) rfl rfl rfl ?_
  refine ol_gskip rfl rfl rfl rfl rfl rfl ?_
  refine ol_gskip rfl rfl rfl rfl rfl rfl ?_
  refine ol_gskip rfl rfl rfl rfl rfl rfl ?_
  refine ol_val (v := .bool false) (xr_pickF rfl rfl rfl rfl) rfl rfl rfl ?_
  refine ol_val (v := .bool false) (xr_assign rfl rfl) rfl rfl rfl ?_
  refine ol_nil ?_
  refine thn_i ?_
  exact ⟨(rfl).trans (congrArg (fun z => (.bool z : Value)) (show false = (if (decide (a0.Blocks ≥ 16)) = true then (if (decide (a0.Blocks ≤ 3072)) = true then (if (decide (a0.Slots ≥ 1)) = true then (if (decide (a0.Slots ≤ 1792)) = true then (if (decide (a0.Gens ≥ 1)) = true then (decide (a0.Gens ≤ 4294967295)) else false) else false) else false) else false) else false) from by rw [ite_f c7])), rfl⟩
 rintro ρ12 _ ⟨e2, rfl⟩
 refine cw_ret ?_
 repeat (first | with_reducible refine thn_r ?_ | with_reducible refine blk_r ?_)
 obtain rfl := Option.some.inj h
 refine fin_ret1 Try.results115 e2 ?_
 exact ⟨_, rfl, rfl, fB⟩
def rickyardref12_Need.s0 (fu : Nat) (a0 : Int) (a1 : Int) : Int → Option (Sum Int Int) := fun s1 => (if (decide ((IntKind.i64.wrap (s1 * a1)) < a0)) = true then some (Sum.inr ((IntKind.i64.wrap (s1 + 1)))) else some (Sum.inl (s1)))
def rickyardref12_Need.f (fu : Nat) (a0 : Int) (a1 : Int) : Option Int := ((loopM (rickyardref12_Need.s0 fu a0 a1) fu (0)).bind fun e2 => some (e2))
theorem rickyardref12_Need.ok (fu : Nat) (w : World) (a0 : Int) (a1 : Int) (r : Int) (h : rickyardref12_Need.f fu a0 a1 = some r) :
  Calls Try.prog 136 (([.int .i64 a0, .int .i64 a1] : List Value).toArray) w (fun e w' => ∃ v, e = .returned v ∧ v = .int .i64 r ∧ Gr w w') := by
 unfold rickyardref12_Need.f at h
 have fB : Gr w w := Fr.refl _ _
 refine calls_cw Try.func136 rfl Try.ntmps136 rfl ?_
 refine cw_seq ?_
 refine cw_region ?_
 refine ol_val (v := .int .i64 0) (xr_assign rfl rfl) rfl rfl rfl ?_
 refine ol_nil ?_
 refine cw_seq ?_
 refine cw_region ?_
 refine ol_val (v := .int .i64 0) (xr_assign rfl rfl) rfl rfl rfl ?_
 refine ol_nil ?_
 refine cw_seq ?_
 obtain ⟨e2, l3, h4⟩ := bs h
 refine cw_mid (fun ρ' w' => ρ' 5 = .int .i64 e2 ∧ Gr w w') ?_ ?_
 ·refine cw_block ?_
  refine cw_round (fun (s1 : Int) ρ' w' => ρ' 0 = .int .i64 a0 ∧ ρ' 1 = .int .i64 a1 ∧ ρ' 5 = .int .i64 s1 ∧ Gr w w') l3 ?_ ?_
  ·skip
   exact ⟨rfl, rfl, rfl, fB⟩
  rintro s1 x7 ρ5 w6 ⟨e0, e1, e5, fB⟩ h
  unfold rickyardref12_Need.s0 at h
  refine cw_seq ?_
  refine cw_seq ?_
  refine cw_region ?_
  refine ol_val (v := .int .i64 s1) (xr_move rfl e5) rfl rfl rfl ?_
  refine ol_val (v := .int .i64 a1) (xr_move rfl e1) rfl rfl rfl ?_
  refine ol_val (v := .int .i64 (IntKind.i64.wrap (s1 * a1))) (xr_mul rfl rfl rfl) rfl rfl rfl ?_
  refine ol_val (v := .int .i64 a0) (xr_move rfl e0) rfl rfl rfl ?_
  refine ol_val (v := .bool (decide ((IntKind.i64.wrap (s1 * a1)) < a0))) (xr_lss rfl rfl rfl) rfl rfl rfl ?_
  refine ol_nil ?_
  rcases is h with ⟨c8, h⟩ | ⟨c8, h⟩
  ·refine cw_condT rfl c8 ?_
   refine cw_skip ?_
   refine cw_block ?_
   refine cw_region ?_
   refine ol_val (v := .int .i64 s1) (xr_move rfl e5) rfl rfl rfl ?_
   refine ol_val (v := .int .i64 (IntKind.i64.wrap (s1 + 1))) (xr_add rfl rfl rfl) rfl rfl rfl ?_
   refine ol_val (v := .int .i64 (IntKind.i64.wrap (s1 + 1))) (xr_assign rfl rfl) rfl rfl rfl ?_
   refine ol_nil ?_
   refine blk_i ?_
   obtain rfl := Option.some.inj h
   refine lp_in ?_
   exact ⟨e0, e1, rfl, fB⟩
  refine cw_condF rfl c8 ?_
  refine cw_exit ?_
  repeat (first | with_reducible refine thn_e ?_ | with_reducible refine blk_e rfl ?_)
  obtain rfl := Option.some.inj h
  refine lp_exit ?_
  rintro rfl
  refine thn_x ?_
  exact ⟨e5, fB⟩
 rintro ρ9 w10 ⟨e5, fB⟩
 have h := h4
 refine cw_seq ?_
 refine cw_region ?_
 refine ol_val (v := .int .i64 e2) (xr_move rfl e5) rfl rfl rfl ?_
 refine ol_val (v := .int .i64 e2) (xr_assign rfl rfl) rfl rfl rfl ?_
 refine ol_nil ?_
 refine cw_ret ?_
 repeat (first | with_reducible refine thn_r ?_ | with_reducible refine blk_r ?_)
 obtain rfl := Option.some.inj h
 refine fin_ret1 Try.results136 rfl ?_
 exact ⟨_, rfl, rfl, fB⟩
def rickyardref12_Charts.f (fu : Nat) (a0 : S_api_Geometry) : Option Int := ((rickyardref12_Need.f fu a0.Blocks 384).bind fun t7 => some (t7))
theorem rickyardref12_Charts.ok (fu : Nat) (w : World) (a0 : S_api_Geometry) (r : Int) (h : rickyardref12_Charts.f fu a0 = some r) :
  Calls Try.prog 116 (([aggV [(sI a0.Blocks), (sI a0.Slots), (sI a0.Gens)]] : List Value).toArray) w (fun e w' => ∃ v, e = .returned v ∧ v = .int .i64 r ∧ Gr w w') := by
 unfold rickyardref12_Charts.f at h
 have fB : Gr w w := Fr.refl _ _
 refine calls_cw Try.func116 rfl Try.ntmps116 rfl ?_
 refine cw_seq ?_
 refine cw_region ?_
 refine ol_op (opv_box (ss := [(sI a0.Blocks), (sI a0.Slots), (sI a0.Gens)]) rfl rfl rfl) rfl rfl rfl ?_
 rintro _ w6 ⟨G1, rfl, b2, q3, z4⟩
 have z4 := Nat.le_trans fB.size z4
 have fB := fB.gr q3
 refine ol_val (v := .int .i64 0) (xr_assign rfl rfl) rfl rfl rfl ?_
 refine ol_nil ?_
 refine cw_seq ?_
 refine cw_region ?_
 refine ol_val (v := (pt G1 0)) (xr_fieldAddr (p := 0) (q := 0) rfl fl106_0 rfl) rfl rfl rfl ?_
 refine ol_val (v := .int .i64 a0.Blocks) (xr_load1 (v := .int .i64 a0.Blocks) rfl ag3 rfl (b2.seg 0 rfl rfl)) rfl rfl rfl ?_
 obtain ⟨t7, k8, h⟩ := bs h
 refine ol_op (opv_call rfl cal136 (ac rfl (ac rfl an)) (rickyardref12_Need.ok fu _ a0.Blocks 384 _ k8)) rfl rfl rfl ?_
 rintro _ w10 ⟨rfl, q9⟩
 have fB := fB.gr q9
 refine ol_val (v := .int .i64 t7) (xr_assign rfl rfl) rfl rfl rfl ?_
 refine ol_nil ?_
 refine cw_ret ?_
 repeat (first | with_reducible refine thn_r ?_ | with_reducible refine blk_r ?_)
 obtain rfl := Option.some.inj h
 refine fin_ret1 Try.results116 rfl ?_
 exact ⟨_, rfl, rfl, fB⟩
def rickyardref13_Right.s2 (fu : Nat) (a0 : S_api_Super) (s118 : (List Int) × Int) : Int → Option (Sum (Sum (Sum (Sum Bool (List Int)) ((List Int) × Int)) Unit) Int) := fun s150 => (if (decide (s150 < s118.2)) = true then (if 0 ≤ s150 ∧ s150 < (List.length a0.Charts : Int) then (if 0 ≤ s118.2 ∧ s118.2 < (List.length a0.Charts : Int) then (if (decide ((ix a0.Charts s150) = (ix a0.Charts s118.2))) = true then some (Sum.inl (Sum.inl (Sum.inl (Sum.inl (false))))) else some (Sum.inr ((IntKind.i64.wrap (s150 + 1))))) else none) else none) else some (Sum.inl (Sum.inr ())))
def rickyardref13_Right.s1 (fu : Nat) (a0 : S_api_Super) : ((List Int) × Int) → Option (Sum (Sum Bool (List Int)) ((List Int) × Int)) := fun s118 => (if (decide (s118.2 < (List.length a0.Charts : Int))) = true then (if 0 ≤ s118.2 ∧ s118.2 < (List.length a0.Charts : Int) then (if List.length s118.1 + List.length [(ix a0.Charts s118.2)] ≤ LIM then ((loopM (rickyardref13_Right.s2 fu a0 s118) fu (0)).bind fun e151 => match e151 with | Sum.inl p => some p | Sum.inr x154 => some (Sum.inr ((s118.1 ++ [(ix a0.Charts s118.2)]), (IntKind.i64.wrap (s118.2 + 1))))) else none) else none) else some (Sum.inl (Sum.inr (s118.1))))
def rickyardref13_Right.s3 (fu : Nat) (a0 : S_api_Super) (x122 : (List Int)) : Int → Option (Sum (Sum Bool Unit) Int) := fun s169 => (if (decide (s169 < (List.length x122 : Int))) = true then (((if 0 ≤ s169 ∧ s169 < (List.length x122 : Int) then (if (decide ((ix x122 s169) < 2)) = true then some (true) else (if 0 ≤ s169 ∧ s169 < (List.length x122 : Int) then some ((decide ((ix x122 s169) ≥ a0.Tickets.Geometry.Blocks))) else none)) else none) : Option Bool).bind fun x178 => (if x178 = true then some (Sum.inl (Sum.inl (false))) else some (Sum.inr ((IntKind.i64.wrap (s169 + 1)))))) else some (Sum.inl (Sum.inr ())))
def rickyardref13_Right.f (fu : Nat) (a0 : S_api_Super) : Option Bool := (((if (decide (a0.Epoch < 1)) = true then some (true) else (if (decide (a0.Epoch > 4611686018427387904)) = true then some (true) else ((rickyardref12_Right.f fu a0.Tickets.Geometry).bind fun t11 => some ((!t11))))) : Option Bool).bind fun x7 => (if x7 = true then some (false) else (((if (decide (a0.Tickets.High < 0)) = true then some (true) else (if (decide (a0.Tickets.High > a0.Tickets.Geometry.Slots)) = true then some (true) else (if (decide (a0.Tickets.Free < 0)) = true then some (true) else (if (decide (a0.Tickets.Free > a0.Tickets.High)) = true then some (true) else ((rickyardref12_Charts.f fu a0.Tickets.Geometry).bind fun t57 => some ((!decide ((List.length a0.Charts : Int) = t57)))))))) : Option Bool).bind fun x19 => (if x19 = true then some (false) else (((if (decide (a0.Tickets.High = 0)) = true then (if (!decide (a0.Tickets.Top = 0)) = true then some (Sum.inl (false)) else some (Sum.inr ([]))) else (if List.length ([] : List Int) + List.length [a0.Tickets.Top] ≤ LIM then some (Sum.inr ((([] : List Int) ++ [a0.Tickets.Top]))) else none)) : Option (Sum Bool (List Int))).bind fun x67 => match x67 with | Sum.inl p => some p | Sum.inr x70 => (((if (!decide (a0.Dir = 0)) = true then (if List.length x70 + List.length [a0.Dir] ≤ LIM then some ((x70 ++ [a0.Dir])) else none) else some (x70)) : Option (List Int)).bind fun x93 => ((loopM (rickyardref13_Right.s1 fu a0) fu (x93, 0)).bind fun e119 => match e119 with | Sum.inl p => some p | Sum.inr x122 => ((loopM (rickyardref13_Right.s3 fu a0 x122) fu (0)).bind fun e170 => match e170 with | Sum.inl p => some p | Sum.inr x173 => some (true)))))))))
theorem rickyardref13_Right.ok (fu : Nat) (w : World) (a0 : S_api_Super) (V0_0 : Value) (R0_0 : Rd (kI .i64) w V0_0 a0.Charts) (r : Bool) (h : rickyardref13_Right.f fu a0 = some r) :
  Calls Try.prog 75 (([aggV [(sI a0.Epoch), (sI a0.Tickets.Geometry.Blocks), (sI a0.Tickets.Geometry.Slots), (sI a0.Tickets.Geometry.Gens), (sI a0.Tickets.Top), (sI a0.Tickets.High), (sI a0.Tickets.Free), (sI a0.Dir), Seg.cell V0_0 R0_0.one]] : List Value).toArray) w (fun e w' => ∃ v, e = .returned v ∧ v = .bool r ∧ Gr w w') := by
 unfold rickyardref13_Right.f at h
 have fB : Gr w w := Fr.refl _ _
 refine calls_cw Try.func75 rfl Try.ntmps75 rfl ?_
 refine cw_seq ?_
 refine cw_region ?_
 refine ol_op (opv_box (ss := [(sI a0.Epoch), (sI a0.Tickets.Geometry.Blocks), (sI a0.Tickets.Geometry.Slots), (sI a0.Tickets.Geometry.Gens), (sI a0.Tickets.Top), (sI a0.Tickets.High), (sI a0.Tickets.Free), (sI a0.Dir), Seg.cell V0_0 R0_0.one]) rfl rfl rfl) rfl rfl rfl ?_
 rintro _ w6 ⟨G1, rfl, b2, q3, z4⟩
 have z4 := Nat.le_trans fB.size z4
 have fB := fB.gr q3
 refine ol_val (v := .bool false) (xr_assign rfl rfl) rfl rfl rfl ?_
 refine ol_nil ?_
 refine cw_seq ?_
 refine cw_seq ?_
 obtain ⟨x7, j8, h⟩ := bs h
 refine cw_mid (fun ρ' w' => ρ' 1 = (pt G1 0) ∧ ρ' 21 = .bool x7 ∧ Gr w6 w') ?_ ?_
 ·skip
  refine cw_region ?_
  refine ol_val (v := (pt G1 0)) (xr_fieldAddr (p := 0) (q := 0) rfl fl110_0 rfl) rfl rfl rfl ?_
  refine ol_val (v := .int .i64 a0.Epoch) (xr_load1 (v := .int .i64 a0.Epoch) rfl ag3 rfl (b2.seg 0 rfl rfl)) rfl rfl rfl ?_
  refine ol_val (v := .bool (decide (a0.Epoch < 1))) (xr_lss rfl rfl rfl) rfl rfl rfl ?_
  refine ol_val (v := .bool (decide (a0.Epoch < 1))) (xr_move rfl rfl) rfl rfl rfl ?_
  rcases is j8 with ⟨c9, j8⟩ | ⟨c9, j8⟩
  ·skip
   refine ol_gskip rfl rfl rfl rfl rfl c9 ?_
   refine ol_gskip rfl rfl rfl rfl rfl c9 ?_
   refine ol_gskip rfl rfl rfl rfl rfl c9 ?_
   refine ol_val (v := .bool true) (xr_pickT rfl rfl c9 rfl) rfl rfl rfl ?_
   refine ol_val (v := .bool true) (xr_move rfl rfl) rfl rfl rfl ?_
   refine ol_gskip rfl rfl rfl rfl rfl rfl ?_
   refine ol_gskip rfl rfl rfl rfl rfl rfl ?_
   refine ol_gskip rfl rfl rfl rfl rfl rfl ?_
   refine ol_gskip rfl rfl rfl rfl rfl rfl ?_
   refine ol_gskip rfl rfl rfl rfl rfl rfl ?_
   refine ol_val (v := .bool true) (xr_pickT rfl rfl rfl rfl) rfl rfl rfl ?_
   refine ol_nil ?_
   obtain rfl := Option.some.inj j8
   refine thn_i ?_
   exact ⟨rfl, rfl, Fr.refl _ _⟩
  refine ol_gval (v := (pt G1 0)) (xr_fieldAddr (p := 0) (q := 0) rfl fl110_0 rfl) rfl rfl rfl rfl rfl c9 ?_
  refine ol_gval (v := .int .i64 a0.Epoch) (xr_load1 (v := .int .i64 a0.Epoch) rfl ag3 rfl (b2.seg 0 rfl rfl)) rfl rfl rfl rfl rfl c9 ?_
  refine ol_gval (v := .bool (decide (a0.Epoch > 4611686018427387904))) (xr_gtr rfl rfl rfl) rfl rfl rfl rfl rfl c9 ?_
  refine ol_val (v := .bool (decide (a0.Epoch > 4611686018427387904))) (xr_pickF rfl rfl c9 rfl) rfl rfl rfl ?_
  refine ol_val (v := .bool (decide (a0.Epoch > 4611686018427387904))) (xr_move rfl rfl) rfl rfl rfl ?_
  rcases is j8 with ⟨c10, j8⟩ | ⟨c10, j8⟩
  ·skip
   refine ol_gskip rfl rfl rfl rfl rfl c10 ?_
   refine ol_gskip rfl rfl rfl rfl rfl c10 ?_
   refine ol_gskip rfl rfl rfl rfl rfl c10 ?_
   refine ol_gskip rfl rfl rfl rfl rfl c10 ?_
   refine ol_gskip rfl rfl rfl rfl rfl c10 ?_
   refine ol_val (v := .bool true) (xr_pickT rfl rfl c10 rfl) rfl rfl rfl ?_
   refine ol_nil ?_
   obtain rfl := Option.some.inj j8
   refine thn_i ?_
   exact ⟨rfl, rfl, Fr.refl _ _⟩
  refine ol_gval (v := (pt G1 1)) (xr_fieldAddr (p := 0) (q := 1) rfl fl110_1 rfl) rfl rfl rfl rfl rfl c10 ?_
  refine ol_gval (v := (pt G1 1)) (xr_fieldAddr (p := 1) (q := 0) rfl fl108_0 rfl) rfl rfl rfl rfl rfl c10 ?_
  refine ol_gval (v := aggV [(sI a0.Tickets.Geometry.Blocks), (sI a0.Tickets.Geometry.Slots), (sI a0.Tickets.Geometry.Gens)]) (xr_loadS (ss := [(sI a0.Tickets.Geometry.Blocks), (sI a0.Tickets.Geometry.Slots), (sI a0.Tickets.Geometry.Gens)]) rfl ag106 sz106 rfl rfl (b2.segs 1 3 rfl)) rfl rfl rfl rfl rfl c10 ?_
  obtain ⟨t11, k12, j8⟩ := bs j8
  refine ol_gop (opv_call rfl cal115 (ac rfl an) (rickyardref12_Right.ok fu _ a0.Tickets.Geometry _ k12)) rfl rfl rfl rfl rfl c10 ?_
  rintro _ w14 ⟨rfl, q13⟩
  have b2 := b2.gr q13
  have fB := fB.gr q13
  refine ol_gval (v := .bool (!t11)) (xr_not rfl rfl) rfl rfl rfl rfl rfl c10 ?_
  refine ol_val (v := .bool (!t11)) (xr_pickF rfl rfl c10 rfl) rfl rfl rfl ?_
  refine ol_nil ?_
  obtain rfl := Option.some.inj j8
  refine thn_i ?_
  exact ⟨rfl, rfl, q13⟩
 rintro ρ15 w16 ⟨e1, e21, q17⟩
 have b2 := b2.gr q17
 have fB := fB.gr q17
 rcases is h with ⟨c18, h⟩ | ⟨c18, h⟩
 ·refine cw_condT e21 c18 ?_
  refine cw_seq ?_
  refine cw_region ?_
  refine ol_val (v := .bool false) (xr_assign rfl rfl) rfl rfl rfl ?_
  refine ol_nil ?_
  refine cw_ret ?_
  repeat (first | with_reducible refine thn_r ?_ | with_reducible refine blk_r ?_)
  obtain rfl := Option.some.inj h
  refine fin_ret1 Try.results75 rfl ?_
  exact ⟨_, rfl, rfl, fB⟩
 refine cw_condF e21 c18 ?_
 refine cw_skip ?_
 refine cw_seq ?_
 refine cw_seq ?_
 obtain ⟨x19, j20, h⟩ := bs h
 refine cw_mid (fun ρ' w' => ρ' 1 = (pt G1 0) ∧ ρ' 60 = .bool x19 ∧ Gr w16 w') ?_ ?_
 ·skip
  refine rd_region mo ?_
  intro w21 q22
  have b2 := b2.gr q22
  have fB := fB.gr q22
  refine rd_seq (m := 0) (n := 5) rfl ?_
  refine ol_val (v := (pt G1 1)) (xr_fieldAddr (p := 0) (q := 1) rfl fl110_1 e1) rfl rfl rfl ?_
  refine ol_val (v := (pt G1 5)) (xr_fieldAddr (p := 1) (q := 4) rfl fl108_2 rfl) rfl rfl rfl ?_
  refine ol_val (v := .int .i64 a0.Tickets.High) (xr_load1 (v := .int .i64 a0.Tickets.High) rfl ag3 rfl (b2.seg 5 rfl rfl)) rfl rfl rfl ?_
  refine ol_val (v := .bool (decide (a0.Tickets.High < 0))) (xr_lss rfl rfl rfl) rfl rfl rfl ?_
  refine ol_val (v := .bool (decide (a0.Tickets.High < 0))) (xr_move rfl rfl) rfl rfl rfl ?_
  refine ol_nilK ?_
  rcases is j20 with ⟨c23, j20⟩ | ⟨c23, j20⟩
  ·skip
   refine rd_drawL 5 12 [fun vz _ => vz = undef, fun vz _ => vz = undef, fun vz _ => vz = undef, fun vz _ => vz = undef, fun vz _ => vz = undef, fun vz _ => vz = undef, fun vz _ => vz = undef] rfl ⟨fun _ _ _ h _ => h, fun _ _ _ h _ => h, fun _ _ _ h _ => h, fun _ _ _ h _ => h, fun _ _ _ h _ => h, fun _ _ _ h _ => h, fun _ _ _ h _ => h, trivial⟩ ?_ ?_
   ·refine ⟨?_, ?_, ?_, ?_, ?_, ?_, ?_, trivial⟩
    ·intro ρz wz hz hk hd
     exact sk_skip rfl rfl ((hk 26 rfl).trans rfl) c23 rfl
    ·intro ρz wz hz hk hd
     exact sk_skip rfl rfl ((hk 26 rfl).trans rfl) c23 rfl
    ·intro ρz wz hz hk hd
     exact sk_skip rfl rfl ((hk 26 rfl).trans rfl) c23 rfl
    ·intro ρz wz hz hk hd
     exact sk_skip rfl rfl ((hk 26 rfl).trans rfl) c23 rfl
    ·intro ρz wz hz hk hd
     exact sk_skip rfl rfl ((hk 26 rfl).trans rfl) c23 rfl
    ·intro ρz wz hz hk hd
     exact sk_skip rfl rfl ((hk 26 rfl).trans rfl) c23 rfl
    intro ρz wz hz hk hd
    exact sk_skip rfl rfl ((hk 26 rfl).trans rfl) c23 rfl
   intro ρ24 w25 q26 hk hd
   have e1 := (hk 1 rfl).trans e1
   have e26 := (hk 26 rfl).trans rfl
   have e29 := hd 7 rfl rfl 29 rfl
   have e33 := hd 11 rfl rfl 33 rfl
   have b2 := b2.gr q26
   have fB := fB.gr q26
   refine rd_seq (m := 12) (n := 21) rfl ?_
   refine ol_gskip rfl rfl rfl rfl e26 c23 ?_
   refine ol_val (v := .bool true) (xr_pickT rfl e26 c23 rfl) rfl rfl rfl ?_
   refine ol_val (v := .bool true) (xr_move rfl rfl) rfl rfl rfl ?_
   refine ol_gskip rfl rfl rfl rfl rfl rfl ?_
   refine ol_gskip rfl rfl rfl rfl rfl rfl ?_
   refine ol_gskip rfl rfl rfl rfl rfl rfl ?_
   refine ol_gskip rfl rfl rfl rfl rfl rfl ?_
   refine ol_val (v := .bool true) (xr_pickT rfl rfl rfl rfl) rfl rfl rfl ?_
   refine ol_val (v := .bool true) (xr_move rfl rfl) rfl rfl rfl ?_
   refine ol_nilK ?_
   refine rd_drawL 21 27 [fun vz _ => vz = undef, fun vz _ => vz = undef, fun vz _ => vz = undef, fun vz _ => vz = undef, fun vz _ => vz = undef, fun vz _ => vz = undef] rfl ⟨fun _ _ _ h _ => h, fun _ _ _ h _ => h, fun _ _ _ h _ => h, fun _ _ _ h _ => h, fun _ _ _ h _ => h, fun _ _ _ h _ => h, trivial⟩ ?_ ?_
   ·refine ⟨?_, ?_, ?_, ?_, ?_, ?_, trivial⟩
    ·intro ρz wz hz hk hd
     exact sk_skip rfl rfl ((hk 42 rfl).trans rfl) rfl rfl
    ·intro ρz wz hz hk hd
     exact sk_skip rfl rfl ((hk 42 rfl).trans rfl) rfl rfl
    ·intro ρz wz hz hk hd
     exact sk_skip rfl rfl ((hk 42 rfl).trans rfl) rfl rfl
    ·intro ρz wz hz hk hd
     exact sk_skip rfl rfl ((hk 42 rfl).trans rfl) rfl rfl
    ·intro ρz wz hz hk hd
     exact sk_skip rfl rfl ((hk 42 rfl).trans rfl) rfl rfl
    intro ρz wz hz hk hd
    exact sk_skip rfl rfl ((hk 42 rfl).trans rfl) rfl rfl
   intro ρ27 w28 q29 hk hd
   have e1 := (hk 1 rfl).trans e1
   have e42 := (hk 42 rfl).trans rfl
   have e45 := hd 23 rfl rfl 45 rfl
   have e48 := hd 26 rfl rfl 48 rfl
   have b2 := b2.gr q29
   have fB := fB.gr q29
   refine rd_seq (m := 27) (n := 30) rfl ?_
   refine ol_gskip rfl rfl rfl rfl e42 rfl ?_
   refine ol_val (v := .bool true) (xr_pickT rfl e42 rfl rfl) rfl rfl rfl ?_
   refine ol_val (v := .bool true) (xr_move rfl rfl) rfl rfl rfl ?_
   refine ol_nilK ?_
   refine rd_drawL 30 37 [fun vz _ => vz = undef, fun vz _ => vz = undef, fun vz _ => vz = undef, fun vz _ => vz = undef, fun vz _ => vz = undef, fun vz _ => vz = undef, fun vz _ => vz = undef] rfl ⟨fun _ _ _ h _ => h, fun _ _ _ h _ => h, fun _ _ _ h _ => h, fun _ _ _ h _ => h, fun _ _ _ h _ => h, fun _ _ _ h _ => h, fun _ _ _ h _ => h, trivial⟩ ?_ ?_
   ·refine ⟨?_, ?_, ?_, ?_, ?_, ?_, ?_, trivial⟩
    ·intro ρz wz hz hk hd
     exact sk_skip rfl rfl ((hk 51 rfl).trans rfl) rfl rfl
    ·intro ρz wz hz hk hd
     exact sk_skip rfl rfl ((hk 51 rfl).trans rfl) rfl rfl
    ·intro ρz wz hz hk hd
     exact sk_skip rfl rfl ((hk 51 rfl).trans rfl) rfl rfl
    ·intro ρz wz hz hk hd
     exact sk_skip rfl rfl ((hk 51 rfl).trans rfl) rfl rfl
    ·intro ρz wz hz hk hd
     exact sk_skip rfl rfl ((hk 51 rfl).trans rfl) rfl rfl
    ·intro ρz wz hz hk hd
     exact sk_skip rfl rfl ((hk 51 rfl).trans rfl) rfl rfl
    intro ρz wz hz hk hd
    exact sk_skip rfl rfl ((hk 51 rfl).trans rfl) rfl rfl
   intro ρ30 w31 q32 hk hd
   have e1 := (hk 1 rfl).trans e1
   have e51 := (hk 51 rfl).trans rfl
   have e54 := hd 32 rfl rfl 54 rfl
   have e58 := hd 36 rfl rfl 58 rfl
   have b2 := b2.gr q32
   have fB := fB.gr q32
   refine rd_seq (m := 37) (n := 39) rfl ?_
   refine ol_gskip rfl rfl rfl rfl e51 rfl ?_
   refine ol_val (v := .bool true) (xr_pickT rfl e51 rfl rfl) rfl rfl rfl ?_
   refine ol_nilK ?_
   refine rd_end rfl ?_
   obtain rfl := Option.some.inj j20
   refine thn_i ?_
   exact ⟨e1, rfl, (((q22.gr q26).gr q29).gr q32)⟩
  refine rd_drawL 5 12 [fun vz wz => vz = ((pt G1 1) : Value), fun vz wz => vz = ((pt G1 5) : Value), fun vz wz => vz = (.int .i64 a0.Tickets.High : Value), fun vz wz => vz = ((pt G1 1) : Value), fun vz wz => vz = ((pt G1 1) : Value), fun vz wz => vz = ((pt G1 2) : Value), fun vz wz => vz = (.int .i64 a0.Tickets.Geometry.Slots : Value)] rfl ⟨fun _ _ _ h _ => h, fun _ _ _ h _ => h, fun _ _ _ h _ => h, fun _ _ _ h _ => h, fun _ _ _ h _ => h, fun _ _ _ h _ => h, fun _ _ _ h _ => h, trivial⟩ ?_ ?_
  ·refine ⟨?_, ?_, ?_, ?_, ?_, ?_, ?_, trivial⟩
   ·intro ρz wz hz hk hd
    exact sk_gval (v := (pt G1 1)) (xr_fieldAddr (p := 0) (q := 1) rfl fl110_1 ((hk 1 rfl).trans e1)) rfl rfl ((hk 26 rfl).trans rfl) c23 rfl
   ·intro ρz wz hz hk hd
    exact sk_gval (v := (pt G1 5)) (xr_fieldAddr (p := 1) (q := 4) rfl fl108_2 (hd 5 rfl rfl 27 rfl)) rfl rfl ((hk 26 rfl).trans rfl) c23 rfl
   ·intro ρz wz hz hk hd
    exact sk_gval (v := .int .i64 a0.Tickets.High) (xr_load1 (v := .int .i64 a0.Tickets.High) rfl ag3 (hd 6 rfl rfl 28 rfl) ((b2.gr hz).seg 5 rfl rfl)) rfl rfl ((hk 26 rfl).trans rfl) c23 rfl
   ·intro ρz wz hz hk hd
    exact sk_gval (v := (pt G1 1)) (xr_fieldAddr (p := 0) (q := 1) rfl fl110_1 ((hk 1 rfl).trans e1)) rfl rfl ((hk 26 rfl).trans rfl) c23 rfl
   ·intro ρz wz hz hk hd
    exact sk_gval (v := (pt G1 1)) (xr_fieldAddr (p := 1) (q := 0) rfl fl108_0 (hd 8 rfl rfl 30 rfl)) rfl rfl ((hk 26 rfl).trans rfl) c23 rfl
   ·intro ρz wz hz hk hd
    exact sk_gval (v := (pt G1 2)) (xr_fieldAddr (p := 1) (q := 1) rfl fl106_1 (hd 9 rfl rfl 31 rfl)) rfl rfl ((hk 26 rfl).trans rfl) c23 rfl
   intro ρz wz hz hk hd
   exact sk_gval (v := .int .i64 a0.Tickets.Geometry.Slots) (xr_load1 (v := .int .i64 a0.Tickets.Geometry.Slots) rfl ag3 (hd 10 rfl rfl 32 rfl) ((b2.gr hz).seg 2 rfl rfl)) rfl rfl ((hk 26 rfl).trans rfl) c23 rfl
  intro ρ33 w34 q35 hk hd
  have e1 := (hk 1 rfl).trans e1
  have e26 := (hk 26 rfl).trans rfl
  have e29 := hd 7 rfl rfl 29 rfl
  have e33 := hd 11 rfl rfl 33 rfl
  have b2 := b2.gr q35
  have fB := fB.gr q35
  refine rd_seq (m := 12) (n := 21) rfl ?_
  refine ol_gval (v := .bool (decide (a0.Tickets.High > a0.Tickets.Geometry.Slots))) (xr_gtr rfl e29 e33) rfl rfl rfl rfl e26 c23 ?_
  refine ol_val (v := .bool (decide (a0.Tickets.High > a0.Tickets.Geometry.Slots))) (xr_pickF rfl e26 c23 rfl) rfl rfl rfl ?_
  refine ol_val (v := .bool (decide (a0.Tickets.High > a0.Tickets.Geometry.Slots))) (xr_move rfl rfl) rfl rfl rfl ?_
  rcases is j20 with ⟨c36, j20⟩ | ⟨c36, j20⟩
  ·skip
   refine ol_gskip rfl rfl rfl rfl rfl c36 ?_
   refine ol_gskip rfl rfl rfl rfl rfl c36 ?_
   refine ol_gskip rfl rfl rfl rfl rfl c36 ?_
   refine ol_gskip rfl rfl rfl rfl rfl c36 ?_
   refine ol_val (v := .bool true) (xr_pickT rfl rfl c36 rfl) rfl rfl rfl ?_
   refine ol_val (v := .bool true) (xr_move rfl rfl) rfl rfl rfl ?_
   refine ol_nilK ?_
   refine rd_drawL 21 27 [fun vz _ => vz = undef, fun vz _ => vz = undef, fun vz _ => vz = undef, fun vz _ => vz = undef, fun vz _ => vz = undef, fun vz _ => vz = undef] rfl ⟨fun _ _ _ h _ => h, fun _ _ _ h _ => h, fun _ _ _ h _ => h, fun _ _ _ h _ => h, fun _ _ _ h _ => h, fun _ _ _ h _ => h, trivial⟩ ?_ ?_
   ·refine ⟨?_, ?_, ?_, ?_, ?_, ?_, trivial⟩
    ·intro ρz wz hz hk hd
     exact sk_skip rfl rfl ((hk 42 rfl).trans rfl) rfl rfl
    ·intro ρz wz hz hk hd
     exact sk_skip rfl rfl ((hk 42 rfl).trans rfl) rfl rfl
    ·intro ρz wz hz hk hd
     exact sk_skip rfl rfl ((hk 42 rfl).trans rfl) rfl rfl
    ·intro ρz wz hz hk hd
     exact sk_skip rfl rfl ((hk 42 rfl).trans rfl) rfl rfl
    ·intro ρz wz hz hk hd
     exact sk_skip rfl rfl ((hk 42 rfl).trans rfl) rfl rfl
    intro ρz wz hz hk hd
    exact sk_skip rfl rfl ((hk 42 rfl).trans rfl) rfl rfl
   intro ρ37 w38 q39 hk hd
   have e1 := (hk 1 rfl).trans e1
   have e42 := (hk 42 rfl).trans rfl
   have e45 := hd 23 rfl rfl 45 rfl
   have e48 := hd 26 rfl rfl 48 rfl
   have b2 := b2.gr q39
   have fB := fB.gr q39
   refine rd_seq (m := 27) (n := 30) rfl ?_
   refine ol_gskip rfl rfl rfl rfl e42 rfl ?_
   refine ol_val (v := .bool true) (xr_pickT rfl e42 rfl rfl) rfl rfl rfl ?_
   refine ol_val (v := .bool true) (xr_move rfl rfl) rfl rfl rfl ?_
   refine ol_nilK ?_
   refine rd_drawL 30 37 [fun vz _ => vz = undef, fun vz _ => vz = undef, fun vz _ => vz = undef, fun vz _ => vz = undef, fun vz _ => vz = undef, fun vz _ => vz = undef, fun vz _ => vz = undef] rfl ⟨fun _ _ _ h _ => h, fun _ _ _ h _ => h, fun _ _ _ h _ => h, fun _ _ _ h _ => h, fun _ _ _ h _ => h, fun _ _ _ h _ => h, fun _ _ _ h _ => h, trivial⟩ ?_ ?_
   ·refine ⟨?_, ?_, ?_, ?_, ?_, ?_, ?_, trivial⟩
    ·intro ρz wz hz hk hd
     exact sk_skip rfl rfl ((hk 51 rfl).trans rfl) rfl rfl
    ·intro ρz wz hz hk hd
     exact sk_skip rfl rfl ((hk 51 rfl).trans rfl) rfl rfl
    ·intro ρz wz hz hk hd
     exact sk_skip rfl rfl ((hk 51 rfl).trans rfl) rfl rfl
    ·intro ρz wz hz hk hd
     exact sk_skip rfl rfl ((hk 51 rfl).trans rfl) rfl rfl
    ·intro ρz wz hz hk hd
     exact sk_skip rfl rfl ((hk 51 rfl).trans rfl) rfl rfl
    ·intro ρz wz hz hk hd
     exact sk_skip rfl rfl ((hk 51 rfl).trans rfl) rfl rfl
    intro ρz wz hz hk hd
    exact sk_skip rfl rfl ((hk 51 rfl).trans rfl) rfl rfl
   intro ρ40 w41 q42 hk hd
   have e1 := (hk 1 rfl).trans e1
   have e51 := (hk 51 rfl).trans rfl
   have e54 := hd 32 rfl rfl 54 rfl
   have e58 := hd 36 rfl rfl 58 rfl
   have b2 := b2.gr q42
   have fB := fB.gr q42
   refine rd_seq (m := 37) (n := 39) rfl ?_
   refine ol_gskip rfl rfl rfl rfl e51 rfl ?_
   refine ol_val (v := .bool true) (xr_pickT rfl e51 rfl rfl) rfl rfl rfl ?_
   refine ol_nilK ?_
   refine rd_end rfl ?_
   obtain rfl := Option.some.inj j20
   refine thn_i ?_
   exact ⟨e1, rfl, (((q22.gr q35).gr q39).gr q42)⟩
  refine ol_gval (v := (pt G1 1)) (xr_fieldAddr (p := 0) (q := 1) rfl fl110_1 e1) rfl rfl rfl rfl rfl c36 ?_
  refine ol_gval (v := (pt G1 6)) (xr_fieldAddr (p := 1) (q := 5) rfl fl108_3 rfl) rfl rfl rfl rfl rfl c36 ?_
  refine ol_gval (v := .int .i64 a0.Tickets.Free) (xr_load1 (v := .int .i64 a0.Tickets.Free) rfl ag3 rfl (b2.seg 6 rfl rfl)) rfl rfl rfl rfl rfl c36 ?_
  refine ol_gval (v := .bool (decide (a0.Tickets.Free < 0))) (xr_lss rfl rfl rfl) rfl rfl rfl rfl rfl c36 ?_
  refine ol_val (v := .bool (decide (a0.Tickets.Free < 0))) (xr_pickF rfl rfl c36 rfl) rfl rfl rfl ?_
  refine ol_val (v := .bool (decide (a0.Tickets.Free < 0))) (xr_move rfl rfl) rfl rfl rfl ?_
  refine ol_nilK ?_
  rcases is j20 with ⟨c43, j20⟩ | ⟨c43, j20⟩
  ·skip
   refine rd_drawL 21 27 [fun vz _ => vz = undef, fun vz _ => vz = undef, fun vz _ => vz = undef, fun vz _ => vz = undef, fun vz _ => vz = undef, fun vz _ => vz = undef] rfl ⟨fun _ _ _ h _ => h, fun _ _ _ h _ => h, fun _ _ _ h _ => h, fun _ _ _ h _ => h, fun _ _ _ h _ => h, fun _ _ _ h _ => h, trivial⟩ ?_ ?_
   ·refine ⟨?_, ?_, ?_, ?_, ?_, ?_, trivial⟩
    ·intro ρz wz hz hk hd
     exact sk_skip rfl rfl ((hk 42 rfl).trans rfl) c43 rfl
    ·intro ρz wz hz hk hd
     exact sk_skip rfl rfl ((hk 42 rfl).trans rfl) c43 rfl
    ·intro ρz wz hz hk hd
     exact sk_skip rfl rfl ((hk 42 rfl).trans rfl) c43 rfl
    ·intro ρz wz hz hk hd
     exact sk_skip rfl rfl ((hk 42 rfl).trans rfl) c43 rfl
    ·intro ρz wz hz hk hd
     exact sk_skip rfl rfl ((hk 42 rfl).trans rfl) c43 rfl
    intro ρz wz hz hk hd
    exact sk_skip rfl rfl ((hk 42 rfl).trans rfl) c43 rfl
   intro ρ44 w45 q46 hk hd
   have e1 := (hk 1 rfl).trans e1
   have e42 := (hk 42 rfl).trans rfl
   have e45 := hd 23 rfl rfl 45 rfl
   have e48 := hd 26 rfl rfl 48 rfl
   have b2 := b2.gr q46
   have fB := fB.gr q46
   refine rd_seq (m := 27) (n := 30) rfl ?_
   refine ol_gskip rfl rfl rfl rfl e42 c43 ?_
   refine ol_val (v := .bool true) (xr_pickT rfl e42 c43 rfl) rfl rfl rfl ?_
   refine ol_val (v := .bool true) (xr_move rfl rfl) rfl rfl rfl ?_
   refine ol_nilK ?_
   refine rd_drawL 30 37 [fun vz _ => vz = undef, fun vz _ => vz = undef, fun vz _ => vz = undef, fun vz _ => vz = undef, fun vz _ => vz = undef, fun vz _ => vz = undef, fun vz _ => vz = undef] rfl ⟨fun _ _ _ h _ => h, fun _ _ _ h _ => h, fun _ _ _ h _ => h, fun _ _ _ h _ => h, fun _ _ _ h _ => h, fun _ _ _ h _ => h, fun _ _ _ h _ => h, trivial⟩ ?_ ?_
   ·refine ⟨?_, ?_, ?_, ?_, ?_, ?_, ?_, trivial⟩
    ·intro ρz wz hz hk hd
     exact sk_skip rfl rfl ((hk 51 rfl).trans rfl) rfl rfl
    ·intro ρz wz hz hk hd
     exact sk_skip rfl rfl ((hk 51 rfl).trans rfl) rfl rfl
    ·intro ρz wz hz hk hd
     exact sk_skip rfl rfl ((hk 51 rfl).trans rfl) rfl rfl
    ·intro ρz wz hz hk hd
     exact sk_skip rfl rfl ((hk 51 rfl).trans rfl) rfl rfl
    ·intro ρz wz hz hk hd
     exact sk_skip rfl rfl ((hk 51 rfl).trans rfl) rfl rfl
    ·intro ρz wz hz hk hd
     exact sk_skip rfl rfl ((hk 51 rfl).trans rfl) rfl rfl
    intro ρz wz hz hk hd
    exact sk_skip rfl rfl ((hk 51 rfl).trans rfl) rfl rfl
   intro ρ47 w48 q49 hk hd
   have e1 := (hk 1 rfl).trans e1
   have e51 := (hk 51 rfl).trans rfl
   have e54 := hd 32 rfl rfl 54 rfl
   have e58 := hd 36 rfl rfl 58 rfl
   have b2 := b2.gr q49
   have fB := fB.gr q49
   refine rd_seq (m := 37) (n := 39) rfl ?_
   refine ol_gskip rfl rfl rfl rfl e51 rfl ?_
   refine ol_val (v := .bool true) (xr_pickT rfl e51 rfl rfl) rfl rfl rfl ?_
   refine ol_nilK ?_
   refine rd_end rfl ?_
   obtain rfl := Option.some.inj j20
   refine thn_i ?_
   exact ⟨e1, rfl, (((q22.gr q35).gr q46).gr q49)⟩
  refine rd_drawL 21 27 [fun vz wz => vz = ((pt G1 1) : Value), fun vz wz => vz = ((pt G1 6) : Value), fun vz wz => vz = (.int .i64 a0.Tickets.Free : Value), fun vz wz => vz = ((pt G1 1) : Value), fun vz wz => vz = ((pt G1 5) : Value), fun vz wz => vz = (.int .i64 a0.Tickets.High : Value)] rfl ⟨fun _ _ _ h _ => h, fun _ _ _ h _ => h, fun _ _ _ h _ => h, fun _ _ _ h _ => h, fun _ _ _ h _ => h, fun _ _ _ h _ => h, trivial⟩ ?_ ?_
  ·refine ⟨?_, ?_, ?_, ?_, ?_, ?_, trivial⟩
   ·intro ρz wz hz hk hd
    exact sk_gval (v := (pt G1 1)) (xr_fieldAddr (p := 0) (q := 1) rfl fl110_1 ((hk 1 rfl).trans e1)) rfl rfl ((hk 42 rfl).trans rfl) c43 rfl
   ·intro ρz wz hz hk hd
    exact sk_gval (v := (pt G1 6)) (xr_fieldAddr (p := 1) (q := 5) rfl fl108_3 (hd 21 rfl rfl 43 rfl)) rfl rfl ((hk 42 rfl).trans rfl) c43 rfl
   ·intro ρz wz hz hk hd
    exact sk_gval (v := .int .i64 a0.Tickets.Free) (xr_load1 (v := .int .i64 a0.Tickets.Free) rfl ag3 (hd 22 rfl rfl 44 rfl) ((b2.gr hz).seg 6 rfl rfl)) rfl rfl ((hk 42 rfl).trans rfl) c43 rfl
   ·intro ρz wz hz hk hd
    exact sk_gval (v := (pt G1 1)) (xr_fieldAddr (p := 0) (q := 1) rfl fl110_1 ((hk 1 rfl).trans e1)) rfl rfl ((hk 42 rfl).trans rfl) c43 rfl
   ·intro ρz wz hz hk hd
    exact sk_gval (v := (pt G1 5)) (xr_fieldAddr (p := 1) (q := 4) rfl fl108_2 (hd 24 rfl rfl 46 rfl)) rfl rfl ((hk 42 rfl).trans rfl) c43 rfl
   intro ρz wz hz hk hd
   exact sk_gval (v := .int .i64 a0.Tickets.High) (xr_load1 (v := .int .i64 a0.Tickets.High) rfl ag3 (hd 25 rfl rfl 47 rfl) ((b2.gr hz).seg 5 rfl rfl)) rfl rfl ((hk 42 rfl).trans rfl) c43 rfl
  intro ρ50 w51 q52 hk hd
  have e1 := (hk 1 rfl).trans e1
  have e42 := (hk 42 rfl).trans rfl
  have e45 := hd 23 rfl rfl 45 rfl
  have e48 := hd 26 rfl rfl 48 rfl
  have b2 := b2.gr q52
  have fB := fB.gr q52
  refine rd_seq (m := 27) (n := 30) rfl ?_
  refine ol_gval (v := .bool (decide (a0.Tickets.Free > a0.Tickets.High))) (xr_gtr rfl e45 e48) rfl rfl rfl rfl e42 c43 ?_
  refine ol_val (v := .bool (decide (a0.Tickets.Free > a0.Tickets.High))) (xr_pickF rfl e42 c43 rfl) rfl rfl rfl ?_
  refine ol_val (v := .bool (decide (a0.Tickets.Free > a0.Tickets.High))) (xr_move rfl rfl) rfl rfl rfl ?_
  refine ol_nilK ?_
  rcases is j20 with ⟨c53, j20⟩ | ⟨c53, j20⟩
  ·skip
   refine rd_drawL 30 37 [fun vz _ => vz = undef, fun vz _ => vz = undef, fun vz _ => vz = undef, fun vz _ => vz = undef, fun vz _ => vz = undef, fun vz _ => vz = undef, fun vz _ => vz = undef] rfl ⟨fun _ _ _ h _ => h, fun _ _ _ h _ => h, fun _ _ _ h _ => h, fun _ _ _ h _ => h, fun _ _ _ h _ => h, fun _ _ _ h _ => h, fun _ _ _ h _ => h, trivial⟩ ?_ ?_
   ·refine ⟨?_, ?_, ?_, ?_, ?_, ?_, ?_, trivial⟩
    ·intro ρz wz hz hk hd
     exact sk_skip rfl rfl ((hk 51 rfl).trans rfl) c53 rfl
    ·intro ρz wz hz hk hd
     exact sk_skip rfl rfl ((hk 51 rfl).trans rfl) c53 rfl
    ·intro ρz wz hz hk hd
     exact sk_skip rfl rfl ((hk 51 rfl).trans rfl) c53 rfl
    ·intro ρz wz hz hk hd
     exact sk_skip rfl rfl ((hk 51 rfl).trans rfl) c53 rfl
    ·intro ρz wz hz hk hd
     exact sk_skip rfl rfl ((hk 51 rfl).trans rfl) c53 rfl
    ·intro ρz wz hz hk hd
     exact sk_skip rfl rfl ((hk 51 rfl).trans rfl) c53 rfl
    intro ρz wz hz hk hd
    exact sk_skip rfl rfl ((hk 51 rfl).trans rfl) c53 rfl
   intro ρ54 w55 q56 hk hd
   have e1 := (hk 1 rfl).trans e1
   have e51 := (hk 51 rfl).trans rfl
   have e54 := hd 32 rfl rfl 54 rfl
   have e58 := hd 36 rfl rfl 58 rfl
   have b2 := b2.gr q56
   have fB := fB.gr q56
   refine rd_seq (m := 37) (n := 39) rfl ?_
   refine ol_gskip rfl rfl rfl rfl e51 c53 ?_
   refine ol_val (v := .bool true) (xr_pickT rfl e51 c53 rfl) rfl rfl rfl ?_
   refine ol_nilK ?_
   refine rd_end rfl ?_
   obtain rfl := Option.some.inj j20
   refine thn_i ?_
   exact ⟨e1, rfl, (((q22.gr q35).gr q52).gr q56)⟩
  obtain ⟨t57, k58, j20⟩ := bs j20
  refine rd_drawL 30 37 [fun vz wz => vz = ((pt G1 8) : Value), fun vz wz => vz = (V0_0 : Value), fun vz wz => vz = (.int .i64 (List.length a0.Charts : Int) : Value), fun vz wz => vz = ((pt G1 1) : Value), fun vz wz => vz = ((pt G1 1) : Value), fun vz wz => vz = (aggV [(sI a0.Tickets.Geometry.Blocks), (sI a0.Tickets.Geometry.Slots), (sI a0.Tickets.Geometry.Gens)] : Value), fun vz wz => vz = (.int .i64 t57 : Value)] rfl ⟨fun _ _ _ h _ => h, fun _ _ _ h _ => h, fun _ _ _ h _ => h, fun _ _ _ h _ => h, fun _ _ _ h _ => h, fun _ _ _ h _ => h, fun _ _ _ h _ => h, trivial⟩ ?_ ?_
  ·refine ⟨?_, ?_, ?_, ?_, ?_, ?_, ?_, trivial⟩
   ·intro ρz wz hz hk hd
    exact sk_gval (v := (pt G1 8)) (xr_fieldAddr (p := 0) (q := 8) rfl fl110_3 ((hk 1 rfl).trans e1)) rfl rfl ((hk 51 rfl).trans rfl) c53 rfl
   ·intro ρz wz hz hk hd
    exact sk_gval (v := V0_0) (xr_load1 (v := V0_0) rfl ag25 (hd 30 rfl rfl 52 rfl) ((b2.gr hz).seg 8 rfl rfl)) rfl rfl ((hk 51 rfl).trans rfl) c53 rfl
   ·intro ρz wz hz hk hd
    exact sk_gval (v := .int .i64 (List.length a0.Charts : Int)) (xr_lenR rfl Try.underlying25 (hd 31 rfl rfl 53 rfl) (R0_0.gr (fB.gr hz))) rfl rfl ((hk 51 rfl).trans rfl) c53 rfl
   ·intro ρz wz hz hk hd
    exact sk_gval (v := (pt G1 1)) (xr_fieldAddr (p := 0) (q := 1) rfl fl110_1 ((hk 1 rfl).trans e1)) rfl rfl ((hk 51 rfl).trans rfl) c53 rfl
   ·intro ρz wz hz hk hd
    exact sk_gval (v := (pt G1 1)) (xr_fieldAddr (p := 1) (q := 0) rfl fl108_0 (hd 33 rfl rfl 55 rfl)) rfl rfl ((hk 51 rfl).trans rfl) c53 rfl
   ·intro ρz wz hz hk hd
    exact sk_gval (xr_loadS (ss := [(sI a0.Tickets.Geometry.Blocks), (sI a0.Tickets.Geometry.Slots), (sI a0.Tickets.Geometry.Gens)]) rfl ag106 sz106 rfl (hd 34 rfl rfl 56 rfl) ((b2.gr hz).segs 1 3 rfl)) rfl rfl ((hk 51 rfl).trans rfl) c53 rfl
   intro ρz wz hz hk hd
   refine sk_gop (opv_call rfl cal116 (ac (hd 35 rfl rfl 57 rfl) an) (rickyardref12_Charts.ok fu _ a0.Tickets.Geometry _ k58)) rfl rfl ((hk 51 rfl).trans rfl) c53 ?_
   rintro _ wy ⟨rfl, q59⟩
   exact ⟨rfl, q59⟩
  intro ρ60 w61 q62 hk hd
  have e1 := (hk 1 rfl).trans e1
  have e51 := (hk 51 rfl).trans rfl
  have e54 := hd 32 rfl rfl 54 rfl
  have e58 := hd 36 rfl rfl 58 rfl
  have b2 := b2.gr q62
  have fB := fB.gr q62
  refine rd_seq (m := 37) (n := 39) rfl ?_
  refine ol_gval (v := .bool (!decide ((List.length a0.Charts : Int) = t57))) (xr_neI rfl Try.underlying3 rfl e54 e58) rfl rfl rfl rfl e51 c53 ?_
  refine ol_val (v := .bool (!decide ((List.length a0.Charts : Int) = t57))) (xr_pickF rfl e51 c53 rfl) rfl rfl rfl ?_
  refine ol_nilK ?_
  refine rd_end rfl ?_
  obtain rfl := Option.some.inj j20
  refine thn_i ?_
  exact ⟨e1, rfl, (((q22.gr q35).gr q52).gr q62)⟩
 rintro ρ63 w64 ⟨e1, e60, q65⟩
 have b2 := b2.gr q65
 have fB := fB.gr q65
 rcases is h with ⟨c66, h⟩ | ⟨c66, h⟩
 ·refine cw_condT e60 c66 ?_
  refine cw_seq ?_
  refine cw_region ?_
  refine ol_val (v := .bool false) (xr_assign rfl rfl) rfl rfl rfl ?_
  refine ol_nil ?_
  refine cw_ret ?_
  repeat (first | with_reducible refine thn_r ?_ | with_reducible refine blk_r ?_)
  obtain rfl := Option.some.inj h
  refine fin_ret1 Try.results75 rfl ?_
  exact ⟨_, rfl, rfl, fB⟩
 refine cw_condF e60 c66 ?_
 refine cw_skip ?_
 refine cw_seq ?_
 refine cw_region ?_
 refine ol_val (v := .slice none 0 0) (xr_assign rfl rfl) rfl rfl rfl ?_
 refine ol_nil ?_
 refine cw_seq ?_
 refine cw_seq ?_
 refine cw_region ?_
 refine ol_val (v := (pt G1 1)) (xr_fieldAddr (p := 0) (q := 1) rfl fl110_1 e1) rfl rfl rfl ?_
 refine ol_val (v := (pt G1 5)) (xr_fieldAddr (p := 1) (q := 4) rfl fl108_2 rfl) rfl rfl rfl ?_
 refine ol_val (v := .int .i64 a0.Tickets.High) (xr_load1 (v := .int .i64 a0.Tickets.High) rfl ag3 rfl (b2.seg 5 rfl rfl)) rfl rfl rfl ?_
 refine ol_val (v := .bool (decide (a0.Tickets.High = 0))) (xr_eqI rfl Try.underlying3 rfl rfl rfl) rfl rfl rfl ?_
 refine ol_nil ?_
 obtain ⟨x67, j68, h69⟩ := bs h
 refine cw_mid (fun ρ' w' => ∃ x70, x67 = Sum.inr x70 ∧ ∃ v71 : Value, ∃ o72 : Own (kI .i64) 3 w' w.heap.size v71 x70, ρ' 1 = (pt G1 0) ∧ ρ' 3 = v71 ∧ Blk w' G1 110 [(sI a0.Epoch), (sI a0.Tickets.Geometry.Blocks), (sI a0.Tickets.Geometry.Slots), (sI a0.Tickets.Geometry.Gens), (sI a0.Tickets.Top), (sI a0.Tickets.High), (sI a0.Tickets.Free), (sI a0.Dir), Seg.cell V0_0 R0_0.one] ∧ Gr w w') ?_ ?_
 ·have h := j68
  rcases is h with ⟨c74, h⟩ | ⟨c74, h⟩
  ·refine cw_condT rfl c74 ?_
   refine cw_seq ?_
   refine cw_region ?_
   refine ol_val (v := (pt G1 1)) (xr_fieldAddr (p := 0) (q := 1) rfl fl110_1 e1) rfl rfl rfl ?_
   refine ol_val (v := (pt G1 4)) (xr_fieldAddr (p := 1) (q := 3) rfl fl108_1 rfl) rfl rfl rfl ?_
   refine ol_val (v := .int .i64 a0.Tickets.Top) (xr_load1 (v := .int .i64 a0.Tickets.Top) rfl ag3 rfl (b2.seg 4 rfl rfl)) rfl rfl rfl ?_
   refine ol_val (v := .bool (!decide (a0.Tickets.Top = 0))) (xr_neI rfl Try.underlying3 rfl rfl rfl) rfl rfl rfl ?_
   refine ol_nil ?_
   rcases is h with ⟨c75, h⟩ | ⟨c75, h⟩
   ·refine cw_condT rfl c75 ?_
    refine cw_seq ?_
    refine cw_region ?_
    refine ol_val (v := .bool false) (xr_assign rfl rfl) rfl rfl rfl ?_
    refine ol_nil ?_
    refine cw_ret ?_
    repeat (first | with_reducible refine thn_r ?_ | with_reducible refine blk_r ?_)
    obtain rfl := Option.some.inj h
    have h := h69
    obtain rfl := Option.some.inj h
    refine fin_ret1 Try.results75 rfl ?_
    exact ⟨_, rfl, rfl, fB⟩
   refine cw_condF rfl c75 ?_
   refine cw_skip ?_
   obtain rfl := Option.some.inj h
   refine thn_i ?_
   exact ⟨_, rfl, (.slice none 0 0), Own.nil _ _ _ _, e1, rfl, b2, fB⟩
  refine cw_condF rfl c74 ?_
  refine cw_region ?_
  refine ol_val (v := .slice none 0 0) (xr_move rfl rfl) rfl rfl rfl ?_
  refine ol_val (v := (pt G1 1)) (xr_fieldAddr (p := 0) (q := 1) rfl fl110_1 e1) rfl rfl rfl ?_
  refine ol_val (v := (pt G1 4)) (xr_fieldAddr (p := 1) (q := 3) rfl fl108_1 rfl) rfl rfl rfl ?_
  refine ol_val (v := .int .i64 a0.Tickets.Top) (xr_load1 (v := .int .i64 a0.Tickets.Top) rfl ag3 rfl (b2.seg 4 rfl rfl)) rfl rfl rfl ?_
  refine ol_op (opv_buildSlice (K := (kI .i64)) (xs := [a0.Tickets.Top]) (vals := [.int .i64 a0.Tickets.Top]) rfl Try.underlying25 el3 rfl rfl ⟨rfl, rfl, trivial⟩ rfl rfl rfl fB.size) rfl rfl rfl ?_
  rintro v76 w81 ⟨o78, q77, z79⟩
  have b2 := b2.gr q77
  have fB := fB.gr q77
  obtain ⟨g86, h⟩ := gs h
  have f88 := Off.nil G1
  have f89 := Own.geN w.heap.size
  refine ol_op (opv_append (K := (kI .i64)) rfl Try.underlying25 el3 rfl rfl rfl rfl rfl (Own.nil (kI .i64) 3 _ _) o78.rd g86 fB.size) rfl rfl rfl ?_
  rintro v82 w90 ⟨o83, q84, n85⟩
  have b2 := b2.wrO q84 f88
  have fB := fB.wrO q84 f89
  refine ol_val (v := v82) (xr_assign rfl rfl) rfl rfl rfl ?_
  refine ol_nil ?_
  obtain rfl := Option.some.inj h
  refine thn_i ?_
  exact ⟨_, rfl, v82, o83, e1, rfl, b2, fB⟩
 rintro ρ91 w92 ⟨x70, rfl, v71, o72, e1, e3, b2, fB⟩
 have h := h69
 refine cw_seq ?_
 refine cw_seq ?_
 refine cw_region ?_
 refine ol_val (v := (pt G1 7)) (xr_fieldAddr (p := 0) (q := 7) rfl fl110_2 e1) rfl rfl rfl ?_
 refine ol_val (v := .int .i64 a0.Dir) (xr_load1 (v := .int .i64 a0.Dir) rfl ag3 rfl (b2.seg 7 rfl rfl)) rfl rfl rfl ?_
 refine ol_val (v := .bool (!decide (a0.Dir = 0))) (xr_neI rfl Try.underlying3 rfl rfl rfl) rfl rfl rfl ?_
 refine ol_nil ?_
 obtain ⟨x93, j94, h95⟩ := bs h
 refine cw_mid (fun ρ' w' => ∃ v96 : Value, ∃ o97 : Own (kI .i64) 3 w' w.heap.size v96 x93, ρ' 1 = (pt G1 0) ∧ ρ' 3 = v96 ∧ Blk w' G1 110 [(sI a0.Epoch), (sI a0.Tickets.Geometry.Blocks), (sI a0.Tickets.Geometry.Slots), (sI a0.Tickets.Geometry.Gens), (sI a0.Tickets.Top), (sI a0.Tickets.High), (sI a0.Tickets.Free), (sI a0.Dir), Seg.cell V0_0 R0_0.one] ∧ Gr w w') ?_ ?_
 ·have h := j94
  rcases is h with ⟨c99, h⟩ | ⟨c99, h⟩
  ·refine cw_condT rfl c99 ?_
   refine cw_region ?_
   refine ol_val (v := v71) (xr_move rfl e3) rfl rfl rfl ?_
   refine ol_val (v := (pt G1 7)) (xr_fieldAddr (p := 0) (q := 7) rfl fl110_2 e1) rfl rfl rfl ?_
   refine ol_val (v := .int .i64 a0.Dir) (xr_load1 (v := .int .i64 a0.Dir) rfl ag3 rfl (b2.seg 7 rfl rfl)) rfl rfl rfl ?_
   refine ol_op (opv_buildSlice (K := (kI .i64)) (xs := [a0.Dir]) (vals := [.int .i64 a0.Dir]) rfl Try.underlying25 el3 rfl rfl ⟨rfl, rfl, trivial⟩ rfl rfl rfl fB.size) rfl rfl rfl ?_
   rintro v100 w105 ⟨o102, q101, z103⟩
   have a106 := OffV.new o72 z103
   have b2 := b2.gr q101
   have o72 := o72.gr q101
   have fB := fB.gr q101
   obtain ⟨g111, h⟩ := gs h
   have f113 := off_ty b2 o72 (by decide)
   have f114 := o72.geO
   refine ol_op (opv_append (K := (kI .i64)) rfl Try.underlying25 el3 rfl rfl rfl rfl rfl o72 o102.rd g111 fB.size) rfl rfl rfl ?_
   rintro v107 w115 ⟨o108, q109, n110⟩
   have b2 := b2.wrO q109 f113
   have fB := fB.wrO q109 f114
   refine ol_val (v := v107) (xr_assign rfl rfl) rfl rfl rfl ?_
   refine ol_nil ?_
   obtain rfl := Option.some.inj h
   refine thn_i ?_
   exact ⟨v107, o108, e1, rfl, b2, fB⟩
  refine cw_condF rfl c99 ?_
  refine cw_skip ?_
  obtain rfl := Option.some.inj h
  refine thn_i ?_
  exact ⟨v71, o72, e1, e3, b2, fB⟩
 rintro ρ116 w117 ⟨v96, o97, e1, e3, b2, fB⟩
 have h := h95
 refine cw_seq ?_
 refine cw_seq ?_
 refine cw_region ?_
 refine ol_val (v := .int .i64 0) (xr_assign rfl rfl) rfl rfl rfl ?_
 refine ol_nil ?_
 obtain ⟨e119, l120, h121⟩ := bs h
 refine cw_mid (fun ρ' w' => ∃ x122, e119 = Sum.inr x122 ∧ ∃ v123 : Value, ∃ o124 : Own (kI .i64) 3 w' w.heap.size v123 x122, ρ' 1 = (pt G1 0) ∧ ρ' 3 = v123 ∧ Blk w' G1 110 [(sI a0.Epoch), (sI a0.Tickets.Geometry.Blocks), (sI a0.Tickets.Geometry.Slots), (sI a0.Tickets.Geometry.Gens), (sI a0.Tickets.Top), (sI a0.Tickets.High), (sI a0.Tickets.Free), (sI a0.Dir), Seg.cell V0_0 R0_0.one] ∧ Gr w w') ?_ ?_
 ·refine cw_block ?_
  refine cw_round (fun (s118 : (List Int) × Int) ρ' w' => ∃ v126 : Value, ∃ o127 : Own (kI .i64) 3 w' w.heap.size v126 s118.1, ρ' 1 = (pt G1 0) ∧ ρ' 3 = v126 ∧ ρ' 4 = .int .i64 s118.2 ∧ Blk w' G1 110 [(sI a0.Epoch), (sI a0.Tickets.Geometry.Blocks), (sI a0.Tickets.Geometry.Slots), (sI a0.Tickets.Geometry.Gens), (sI a0.Tickets.Top), (sI a0.Tickets.High), (sI a0.Tickets.Free), (sI a0.Dir), Seg.cell V0_0 R0_0.one] ∧ Gr w w') l120 ?_ ?_
  ·skip
   exact ⟨v96, o97, e1, e3, rfl, b2, fB⟩
  rintro s118 x131 ρ129 w130 ⟨v126, o127, e1, e3, e4, b2, fB⟩ h
  unfold rickyardref13_Right.s1 at h
  refine cw_seq ?_
  refine cw_seq ?_
  refine cw_region ?_
  refine ol_val (v := .int .i64 s118.2) (xr_move rfl e4) rfl rfl rfl ?_
  refine ol_val (v := (pt G1 8)) (xr_fieldAddr (p := 0) (q := 8) rfl fl110_3 e1) rfl rfl rfl ?_
  refine ol_val (v := V0_0) (xr_load1 (v := V0_0) rfl ag25 rfl (b2.seg 8 rfl rfl)) rfl rfl rfl ?_
  refine ol_val (v := .int .i64 (List.length a0.Charts : Int)) (xr_lenR rfl Try.underlying25 rfl (R0_0.gr fB)) rfl rfl rfl ?_
  refine ol_val (v := .bool (decide (s118.2 < (List.length a0.Charts : Int)))) (xr_lss rfl rfl rfl) rfl rfl rfl ?_
  refine ol_nil ?_
  rcases is h with ⟨c132, h⟩ | ⟨c132, h⟩
  ·refine cw_condT rfl c132 ?_
   refine cw_skip ?_
   refine cw_seq ?_
   refine cw_block ?_
   refine cw_seq ?_
   refine cw_region ?_
   refine ol_val (v := v126) (xr_move rfl e3) rfl rfl rfl ?_
   refine ol_val (v := (pt G1 8)) (xr_fieldAddr (p := 0) (q := 8) rfl fl110_3 e1) rfl rfl rfl ?_
   refine ol_val (v := V0_0) (xr_load1 (v := V0_0) rfl ag25 rfl (b2.seg 8 rfl rfl)) rfl rfl rfl ?_
   refine ol_val (v := .int .i64 s118.2) (xr_move rfl e4) rfl rfl rfl ?_
   obtain ⟨g133, h⟩ := gs h
   refine ol_val (v := (pt ((sb V0_0)) (so V0_0 + Int.toNat s118.2 * 1))) (xr_indexR (K := (kI .i64)) (v := V0_0) rfl Try.underlying25 sz3 rfl (R0_0.gr fB) rfl g133.1 g133.2) rfl rfl rfl ?_
   refine ol_val (v := .int .i64 (ix a0.Charts s118.2)) (xr_load1 (v := .int .i64 (ix a0.Charts s118.2)) rfl ag3 rfl ((R0_0.gr fB).elem g133.1 g133.2)) rfl rfl rfl ?_
   refine ol_op (opv_buildSlice (K := (kI .i64)) (xs := [(ix a0.Charts s118.2)]) (vals := [.int .i64 (ix a0.Charts s118.2)]) rfl Try.underlying25 el3 rfl rfl ⟨rfl, rfl, trivial⟩ rfl rfl rfl fB.size) rfl rfl rfl ?_
   rintro v134 w139 ⟨o136, q135, z137⟩
   have a140 := OffV.new o127 z137
   have b2 := b2.gr q135
   have o127 := o127.gr q135
   have fB := fB.gr q135
   obtain ⟨g145, h⟩ := gs h
   have f147 := off_ty b2 o127 (by decide)
   have f148 := o127.geO
   refine ol_op (opv_append (K := (kI .i64)) rfl Try.underlying25 el3 rfl rfl rfl rfl rfl o127 o136.rd g145 fB.size) rfl rfl rfl ?_
   rintro v141 w149 ⟨o142, q143, n144⟩
   have b2 := b2.wrO q143 f147
   have fB := fB.wrO q143 f148
   refine ol_val (v := v141) (xr_assign rfl rfl) rfl rfl rfl ?_
   refine ol_nil ?_
   refine cw_seq ?_
   refine cw_region ?_
   refine ol_val (v := .int .i64 0) (xr_assign rfl rfl) rfl rfl rfl ?_
   refine ol_nil ?_
   obtain ⟨e151, l152, h153⟩ := bs h
   refine cw_mid (fun ρ' w' => ∃ x154, e151 = Sum.inr x154 ∧ ∃ o142 : Own (kI .i64) 3 w' w.heap.size v141 (s118.1 ++ [(ix a0.Charts s118.2)]), ρ' 1 = (pt G1 0) ∧ ρ' 3 = v141 ∧ ρ' 4 = .int .i64 s118.2 ∧ Blk w' G1 110 [(sI a0.Epoch), (sI a0.Tickets.Geometry.Blocks), (sI a0.Tickets.Geometry.Slots), (sI a0.Tickets.Geometry.Gens), (sI a0.Tickets.Top), (sI a0.Tickets.High), (sI a0.Tickets.Free), (sI a0.Dir), Seg.cell V0_0 R0_0.one] ∧ Gr w w') ?_ ?_
   ·refine cw_block ?_
    refine cw_round (fun (s150 : Int) ρ' w' => ∃ o142 : Own (kI .i64) 3 w' w.heap.size v141 (s118.1 ++ [(ix a0.Charts s118.2)]), ρ' 1 = (pt G1 0) ∧ ρ' 3 = v141 ∧ ρ' 4 = .int .i64 s118.2 ∧ ρ' 5 = .int .i64 s150 ∧ Blk w' G1 110 [(sI a0.Epoch), (sI a0.Tickets.Geometry.Blocks), (sI a0.Tickets.Geometry.Slots), (sI a0.Tickets.Geometry.Gens), (sI a0.Tickets.Top), (sI a0.Tickets.High), (sI a0.Tickets.Free), (sI a0.Dir), Seg.cell V0_0 R0_0.one] ∧ Gr w w') l152 ?_ ?_
    ·skip
     exact ⟨o142, e1, rfl, e4, rfl, b2, fB⟩
    rintro s150 x157 ρ155 w156 ⟨o142, e1, e3, e4, e5, b2, fB⟩ h
    unfold rickyardref13_Right.s2 at h
    refine cw_seq ?_
    refine cw_seq ?_
    refine cw_region ?_
    refine ol_val (v := .int .i64 s150) (xr_move rfl e5) rfl rfl rfl ?_
    refine ol_val (v := .int .i64 s118.2) (xr_move rfl e4) rfl rfl rfl ?_
    refine ol_val (v := .bool (decide (s150 < s118.2))) (xr_lss rfl rfl rfl) rfl rfl rfl ?_
    refine ol_nil ?_
    rcases is h with ⟨c158, h⟩ | ⟨c158, h⟩
    ·refine cw_condT rfl c158 ?_
     refine cw_skip ?_
     refine cw_seq ?_
     refine cw_block ?_
     refine cw_seq ?_
     obtain ⟨g159, h⟩ := gs h
     obtain ⟨g160, h⟩ := gs h
     refine cw_drawL 10 [fun vz wz => vz = ((pt G1 8) : Value), fun vz wz => vz = (V0_0 : Value), fun vz wz => vz = (.int .i64 s150 : Value), fun vz wz => vz = ((pt ((sb V0_0)) (so V0_0 + Int.toNat s150 * 1)) : Value), fun vz wz => vz = (.int .i64 (ix a0.Charts s150) : Value), fun vz wz => vz = ((pt G1 8) : Value), fun vz wz => vz = (V0_0 : Value), fun vz wz => vz = (.int .i64 s118.2 : Value), fun vz wz => vz = ((pt ((sb V0_0)) (so V0_0 + Int.toNat s118.2 * 1)) : Value), fun vz wz => vz = (.int .i64 (ix a0.Charts s118.2) : Value)] mo rfl ⟨fun _ _ _ h _ => h, fun _ _ _ h _ => h, fun _ _ _ h _ => h, fun _ _ _ h _ => h, fun _ _ _ h _ => h, fun _ _ _ h _ => h, fun _ _ _ h _ => h, fun _ _ _ h _ => h, fun _ _ _ h _ => h, fun _ _ _ h _ => h, trivial⟩ ?_ ?_
     ·refine ⟨?_, ?_, ?_, ?_, ?_, ?_, ?_, ?_, ?_, ?_, trivial⟩
      ·intro ρz wz hz hk hd
       exact sk_val (v := (pt G1 8)) (xr_fieldAddr (p := 0) (q := 8) rfl fl110_3 ((hk 1 rfl).trans e1)) rfl rfl
      ·intro ρz wz hz hk hd
       exact sk_val (v := V0_0) (xr_load1 (v := V0_0) rfl ag25 (hd 0 rfl 103 rfl) ((b2.gr hz).seg 8 rfl rfl)) rfl rfl
      ·intro ρz wz hz hk hd
       exact sk_val (v := .int .i64 s150) (xr_move rfl ((hk 5 rfl).trans e5)) rfl rfl
      ·intro ρz wz hz hk hd
       exact sk_val (xr_indexR (K := (kI .i64)) (v := V0_0) rfl Try.underlying25 sz3 (hd 1 rfl 104 rfl) (R0_0.gr (fB.gr hz)) (hd 2 rfl 105 rfl) g159.1 g159.2) rfl rfl
      ·intro ρz wz hz hk hd
       exact sk_val (v := .int .i64 (ix a0.Charts s150)) (xr_load1 (v := .int .i64 (ix a0.Charts s150)) rfl ag3 (hd 3 rfl 106 rfl) ((R0_0.gr (fB.gr hz)).elem g159.1 g159.2)) rfl rfl
      ·intro ρz wz hz hk hd
       exact sk_val (v := (pt G1 8)) (xr_fieldAddr (p := 0) (q := 8) rfl fl110_3 ((hk 1 rfl).trans e1)) rfl rfl
      ·intro ρz wz hz hk hd
       exact sk_val (v := V0_0) (xr_load1 (v := V0_0) rfl ag25 (hd 5 rfl 108 rfl) ((b2.gr hz).seg 8 rfl rfl)) rfl rfl
      ·intro ρz wz hz hk hd
       exact sk_val (v := .int .i64 s118.2) (xr_move rfl ((hk 4 rfl).trans e4)) rfl rfl
      ·intro ρz wz hz hk hd
       exact sk_val (xr_indexR (K := (kI .i64)) (v := V0_0) rfl Try.underlying25 sz3 (hd 6 rfl 109 rfl) (R0_0.gr (fB.gr hz)) (hd 7 rfl 110 rfl) g160.1 g160.2) rfl rfl
      intro ρz wz hz hk hd
      exact sk_val (v := .int .i64 (ix a0.Charts s118.2)) (xr_load1 (v := .int .i64 (ix a0.Charts s118.2)) rfl ag3 (hd 8 rfl 111 rfl) ((R0_0.gr (fB.gr hz)).elem g160.1 g160.2)) rfl rfl
     intro ρ161 w162 q163 hk hd
     have e1 := (hk 1 rfl).trans e1
     have e3 := (hk 3 rfl).trans e3
     have e4 := (hk 4 rfl).trans e4
     have e5 := (hk 5 rfl).trans e5
     have e107 := hd 4 rfl 107 rfl
     have e112 := hd 9 rfl 112 rfl
     have b2 := b2.gr q163
     have o142 := o142.gr q163
     have fB := fB.gr q163
     refine ol_val (v := .bool (decide ((ix a0.Charts s150) = (ix a0.Charts s118.2)))) (xr_eqI rfl Try.underlying3 rfl e107 e112) rfl rfl rfl ?_
     refine ol_nil ?_
     rcases is h with ⟨c164, h⟩ | ⟨c164, h⟩
     ·refine cw_condT rfl c164 ?_
      refine cw_seq ?_
      refine cw_region ?_
      refine ol_val (v := .bool false) (xr_assign rfl rfl) rfl rfl rfl ?_
      refine ol_nil ?_
      refine cw_ret ?_
      repeat (first | with_reducible refine thn_r ?_ | with_reducible refine blk_r ?_)
      obtain rfl := Option.some.inj h
      refine lp_ret ?_
      rintro rfl
      repeat (first | with_reducible refine thn_r ?_ | with_reducible refine blk_r ?_)
      have h := h153
      obtain rfl := Option.some.inj h
      refine lp_ret ?_
      rintro rfl
      repeat (first | with_reducible refine thn_r ?_ | with_reducible refine blk_r ?_)
      have h := h121
      obtain rfl := Option.some.inj h
      refine fin_ret1 Try.results75 rfl ?_
      exact ⟨_, rfl, rfl, fB⟩
     refine cw_condF rfl c164 ?_
     refine cw_skip ?_
     refine blk_i ?_
     refine cw_region ?_
     refine ol_val (v := .int .i64 s150) (xr_move rfl e5) rfl rfl rfl ?_
     refine ol_val (v := .int .i64 (IntKind.i64.wrap (s150 + 1))) (xr_add rfl rfl rfl) rfl rfl rfl ?_
     refine ol_val (v := .int .i64 (IntKind.i64.wrap (s150 + 1))) (xr_assign rfl rfl) rfl rfl rfl ?_
     refine ol_nil ?_
     obtain rfl := Option.some.inj h
     refine lp_in ?_
     exact ⟨o142, e1, e3, e4, rfl, b2, fB⟩
    refine cw_condF rfl c158 ?_
    refine cw_exit ?_
    repeat (first | with_reducible refine thn_e ?_ | with_reducible refine blk_e rfl ?_)
    obtain rfl := Option.some.inj h
    refine lp_exit ?_
    rintro rfl
    refine thn_x ?_
    exact ⟨_, rfl, o142, e1, e3, e4, b2, fB⟩
   rintro ρ165 w166 ⟨x154, rfl, o142, e1, e3, e4, b2, fB⟩
   have h := h153
   refine blk_i ?_
   refine cw_region ?_
   refine ol_val (v := .int .i64 s118.2) (xr_move rfl e4) rfl rfl rfl ?_
   refine ol_val (v := .int .i64 (IntKind.i64.wrap (s118.2 + 1))) (xr_add rfl rfl rfl) rfl rfl rfl ?_
   refine ol_val (v := .int .i64 (IntKind.i64.wrap (s118.2 + 1))) (xr_assign rfl rfl) rfl rfl rfl ?_
   refine ol_nil ?_
   obtain rfl := Option.some.inj h
   refine lp_in ?_
   exact ⟨v141, o142, e1, e3, rfl, b2, fB⟩
  refine cw_condF rfl c132 ?_
  refine cw_exit ?_
  repeat (first | with_reducible refine thn_e ?_ | with_reducible refine blk_e rfl ?_)
  obtain rfl := Option.some.inj h
  refine lp_exit ?_
  rintro rfl
  refine thn_x ?_
  exact ⟨_, rfl, v126, o127, e1, e3, b2, fB⟩
 rintro ρ167 w168 ⟨x122, rfl, v123, o124, e1, e3, b2, fB⟩
 have h := h121
 refine cw_seq ?_
 refine cw_seq ?_
 refine cw_region ?_
 refine ol_val (v := .int .i64 0) (xr_assign rfl rfl) rfl rfl rfl ?_
 refine ol_nil ?_
 obtain ⟨e170, l171, h172⟩ := bs h
 refine cw_mid (fun ρ' w' => ∃ x173, e170 = Sum.inr x173 ∧ Gr w w') ?_ ?_
 ·refine cw_block ?_
  refine cw_round (fun (s169 : Int) ρ' w' => ∃ o124 : Own (kI .i64) 3 w' w.heap.size v123 x122, ρ' 1 = (pt G1 0) ∧ ρ' 3 = v123 ∧ ρ' 6 = .int .i64 s169 ∧ Blk w' G1 110 [(sI a0.Epoch), (sI a0.Tickets.Geometry.Blocks), (sI a0.Tickets.Geometry.Slots), (sI a0.Tickets.Geometry.Gens), (sI a0.Tickets.Top), (sI a0.Tickets.High), (sI a0.Tickets.Free), (sI a0.Dir), Seg.cell V0_0 R0_0.one] ∧ Gr w w') l171 ?_ ?_
  ·skip
   exact ⟨o124, e1, e3, rfl, b2, fB⟩
  rintro s169 x176 ρ174 w175 ⟨o124, e1, e3, e6, b2, fB⟩ h
  unfold rickyardref13_Right.s3 at h
  refine cw_seq ?_
  refine cw_seq ?_
  refine cw_region ?_
  refine ol_val (v := .int .i64 s169) (xr_move rfl e6) rfl rfl rfl ?_
  refine ol_val (v := v123) (xr_move rfl e3) rfl rfl rfl ?_
  refine ol_val (v := .int .i64 (List.length x122 : Int)) (xr_lenR rfl Try.underlying25 rfl o124.rd) rfl rfl rfl ?_
  refine ol_val (v := .bool (decide (s169 < (List.length x122 : Int)))) (xr_lss rfl rfl rfl) rfl rfl rfl ?_
  refine ol_nil ?_
  rcases is h with ⟨c177, h⟩ | ⟨c177, h⟩
  ·refine cw_condT rfl c177 ?_
   refine cw_skip ?_
   refine cw_seq ?_
   refine cw_block ?_
   refine cw_seq ?_
   obtain ⟨x178, j179, h⟩ := bs h
   refine cw_mid (fun ρ' w' => ρ' 1 = (pt G1 0) ∧ ρ' 3 = v123 ∧ ρ' 6 = .int .i64 s169 ∧ ρ' 135 = .bool x178 ∧ Gr w175 w') ?_ ?_
   ·skip
    refine rd_region mo ?_
    intro w180 q181
    have b2 := b2.gr q181
    have o124 := o124.gr q181
    have fB := fB.gr q181
    refine rd_drawL 0 2 [fun vz wz => vz = (v123 : Value), fun vz wz => vz = (.int .i64 s169 : Value)] rfl ⟨fun _ _ _ h _ => h, fun _ _ _ h _ => h, trivial⟩ ?_ ?_
    ·refine ⟨?_, ?_, trivial⟩
     ·intro ρz wz hz hk hd
      exact sk_val (v := v123) (xr_move rfl ((hk 3 rfl).trans e3)) rfl rfl
     intro ρz wz hz hk hd
     exact sk_val (v := .int .i64 s169) (xr_move rfl ((hk 6 rfl).trans e6)) rfl rfl
    intro ρ182 w183 q184 hk hd
    have e1 := (hk 1 rfl).trans e1
    have e3 := (hk 3 rfl).trans e3
    have e6 := (hk 6 rfl).trans e6
    have e120 := hd 0 rfl rfl 120 rfl
    have e121 := hd 1 rfl rfl 121 rfl
    have b2 := b2.gr q184
    have o124 := o124.gr q184
    have fB := fB.gr q184
    refine rd_seq (m := 2) (n := 6) rfl ?_
    obtain ⟨g185, j179⟩ := gs j179
    refine ol_val (v := (pt ((sb v123)) (so v123 + Int.toNat s169 * 1))) (xr_indexR (K := (kI .i64)) (v := v123) rfl Try.underlying25 sz3 e120 o124.rd e121 g185.1 g185.2) rfl rfl rfl ?_
    refine ol_val (v := .int .i64 (ix x122 s169)) (xr_load1 (v := .int .i64 (ix x122 s169)) rfl ag3 rfl (o124.rd.elem g185.1 g185.2)) rfl rfl rfl ?_
    refine ol_val (v := .bool (decide ((ix x122 s169) < 2))) (xr_lss rfl rfl rfl) rfl rfl rfl ?_
    refine ol_val (v := .bool (decide ((ix x122 s169) < 2))) (xr_move rfl rfl) rfl rfl rfl ?_
    refine ol_nilK ?_
    rcases is j179 with ⟨c186, j179⟩ | ⟨c186, j179⟩
    ·skip
     refine rd_drawL 6 14 [fun vz _ => vz = undef, fun vz _ => vz = undef, fun vz _ => vz = undef, fun vz _ => vz = undef, fun vz _ => vz = undef, fun vz _ => vz = undef, fun vz _ => vz = undef, fun vz _ => vz = undef] rfl ⟨fun _ _ _ h _ => h, fun _ _ _ h _ => h, fun _ _ _ h _ => h, fun _ _ _ h _ => h, fun _ _ _ h _ => h, fun _ _ _ h _ => h, fun _ _ _ h _ => h, fun _ _ _ h _ => h, trivial⟩ ?_ ?_
     ·refine ⟨?_, ?_, ?_, ?_, ?_, ?_, ?_, ?_, trivial⟩
      ·intro ρz wz hz hk hd
       exact sk_skip rfl rfl ((hk 125 rfl).trans rfl) c186 rfl
      ·intro ρz wz hz hk hd
       exact sk_skip rfl rfl ((hk 125 rfl).trans rfl) c186 rfl
      ·intro ρz wz hz hk hd
       exact sk_skip rfl rfl ((hk 125 rfl).trans rfl) c186 rfl
      ·intro ρz wz hz hk hd
       exact sk_skip rfl rfl ((hk 125 rfl).trans rfl) c186 rfl
      ·intro ρz wz hz hk hd
       exact sk_skip rfl rfl ((hk 125 rfl).trans rfl) c186 rfl
      ·intro ρz wz hz hk hd
       exact sk_skip rfl rfl ((hk 125 rfl).trans rfl) c186 rfl
      ·intro ρz wz hz hk hd
       exact sk_skip rfl rfl ((hk 125 rfl).trans rfl) c186 rfl
      intro ρz wz hz hk hd
      exact sk_skip rfl rfl ((hk 125 rfl).trans rfl) c186 rfl
     intro ρ187 w188 q189 hk hd
     have e1 := (hk 1 rfl).trans e1
     have e3 := (hk 3 rfl).trans e3
     have e6 := (hk 6 rfl).trans e6
     have e125 := (hk 125 rfl).trans rfl
     have e126 := hd 6 rfl rfl 126 rfl
     have e127 := hd 7 rfl rfl 127 rfl
     have e128 := hd 8 rfl rfl 128 rfl
     have e129 := hd 9 rfl rfl 129 rfl
     have e130 := hd 10 rfl rfl 130 rfl
     have e131 := hd 11 rfl rfl 131 rfl
     have e132 := hd 12 rfl rfl 132 rfl
     have e133 := hd 13 rfl rfl 133 rfl
     have b2 := b2.gr q189
     have o124 := o124.gr q189
     have fB := fB.gr q189
     refine rd_seq (m := 14) (n := 16) rfl ?_
     refine ol_gskip rfl rfl rfl rfl e125 c186 ?_
     refine ol_val (v := .bool true) (xr_pickT rfl e125 c186 rfl) rfl rfl rfl ?_
     refine ol_nilK ?_
     refine rd_end rfl ?_
     obtain rfl := Option.some.inj j179
     refine thn_i ?_
     exact ⟨e1, e3, e6, rfl, ((q181.gr q184).gr q189)⟩
    obtain ⟨g190, j179⟩ := gs j179
    refine rd_drawL 6 14 [fun vz wz => vz = (v123 : Value), fun vz wz => vz = (.int .i64 s169 : Value), fun vz wz => vz = ((pt ((sb v123)) (so v123 + Int.toNat s169 * 1)) : Value), fun vz wz => vz = (.int .i64 (ix x122 s169) : Value), fun vz wz => vz = ((pt G1 1) : Value), fun vz wz => vz = ((pt G1 1) : Value), fun vz wz => vz = ((pt G1 1) : Value), fun vz wz => vz = (.int .i64 a0.Tickets.Geometry.Blocks : Value)] rfl ⟨fun _ _ _ h _ => h, fun _ _ _ h _ => h, fun _ _ _ h _ => h, fun _ _ _ h _ => h, fun _ _ _ h _ => h, fun _ _ _ h _ => h, fun _ _ _ h _ => h, fun _ _ _ h _ => h, trivial⟩ ?_ ?_
    ·refine ⟨?_, ?_, ?_, ?_, ?_, ?_, ?_, ?_, trivial⟩
     ·intro ρz wz hz hk hd
      exact sk_gval (v := v123) (xr_move rfl ((hk 3 rfl).trans e3)) rfl rfl ((hk 125 rfl).trans rfl) c186 rfl
     ·intro ρz wz hz hk hd
      exact sk_gval (v := .int .i64 s169) (xr_move rfl ((hk 6 rfl).trans e6)) rfl rfl ((hk 125 rfl).trans rfl) c186 rfl
     ·intro ρz wz hz hk hd
      exact sk_gval (xr_indexR (K := (kI .i64)) (v := v123) rfl Try.underlying25 sz3 (hd 6 rfl rfl 126 rfl) (o124.gr hz).rd (hd 7 rfl rfl 127 rfl) g190.1 g190.2) rfl rfl ((hk 125 rfl).trans rfl) c186 rfl
     ·intro ρz wz hz hk hd
      exact sk_gval (v := .int .i64 (ix x122 s169)) (xr_load1 (v := .int .i64 (ix x122 s169)) rfl ag3 (hd 8 rfl rfl 128 rfl) ((o124.gr hz).rd.elem g190.1 g190.2)) rfl rfl ((hk 125 rfl).trans rfl) c186 rfl
     ·intro ρz wz hz hk hd
      exact sk_gval (v := (pt G1 1)) (xr_fieldAddr (p := 0) (q := 1) rfl fl110_1 ((hk 1 rfl).trans e1)) rfl rfl ((hk 125 rfl).trans rfl) c186 rfl
     ·intro ρz wz hz hk hd
      exact sk_gval (v := (pt G1 1)) (xr_fieldAddr (p := 1) (q := 0) rfl fl108_0 (hd 10 rfl rfl 130 rfl)) rfl rfl ((hk 125 rfl).trans rfl) c186 rfl
     ·intro ρz wz hz hk hd
      exact sk_gval (v := (pt G1 1)) (xr_fieldAddr (p := 1) (q := 0) rfl fl106_0 (hd 11 rfl rfl 131 rfl)) rfl rfl ((hk 125 rfl).trans rfl) c186 rfl
     intro ρz wz hz hk hd
     exact sk_gval (v := .int .i64 a0.Tickets.Geometry.Blocks) (xr_load1 (v := .int .i64 a0.Tickets.Geometry.Blocks) rfl ag3 (hd 12 rfl rfl 132 rfl) ((b2.gr hz).seg 1 rfl rfl)) rfl rfl ((hk 125 rfl).trans rfl) c186 rfl
    intro ρ191 w192 q193 hk hd
    have e1 := (hk 1 rfl).trans e1
    have e3 := (hk 3 rfl).trans e3
    have e6 := (hk 6 rfl).trans e6
    have e125 := (hk 125 rfl).trans rfl
    have e126 := hd 6 rfl rfl 126 rfl
    have e127 := hd 7 rfl rfl 127 rfl
    have e128 := hd 8 rfl rfl 128 rfl
    have e129 := hd 9 rfl rfl 129 rfl
    have e130 := hd 10 rfl rfl 130 rfl
    have e131 := hd 11 rfl rfl 131 rfl
    have e132 := hd 12 rfl rfl 132 rfl
    have e133 := hd 13 rfl rfl 133 rfl
    have b2 := b2.gr q193
    have o124 := o124.gr q193
    have fB := fB.gr q193
    refine rd_seq (m := 14) (n := 16) rfl ?_
    refine ol_gval (v := .bool (decide ((ix x122 s169) ≥ a0.Tickets.Geometry.Blocks))) (xr_geq rfl e129 e133) rfl rfl rfl rfl e125 c186 ?_
    refine ol_val (v := .bool (decide ((ix x122 s169) ≥ a0.Tickets.Geometry.Blocks))) (xr_pickF rfl e125 c186 rfl) rfl rfl rfl ?_
    refine ol_nilK ?_
    refine rd_end rfl ?_
    obtain rfl := Option.some.inj j179
    refine thn_i ?_
    exact ⟨e1, e3, e6, rfl, ((q181.gr q184).gr q193)⟩
   rintro ρ194 w195 ⟨e1, e3, e6, e135, q196⟩
   have b2 := b2.gr q196
   have o124 := o124.gr q196
   have fB := fB.gr q196
   rcases is h with ⟨c197, h⟩ | ⟨c197, h⟩
   ·refine cw_condT e135 c197 ?_
    refine cw_seq ?_
    refine cw_region ?_
    refine ol_val (v := .bool false) (xr_assign rfl rfl) rfl rfl rfl ?_
    refine ol_nil ?_
    refine cw_ret ?_
    repeat (first | with_reducible refine thn_r ?_ | with_reducible refine blk_r ?_)
    obtain rfl := Option.some.inj h
    refine lp_ret ?_
    rintro rfl
    repeat (first | with_reducible refine thn_r ?_ | with_reducible refine blk_r ?_)
    have h := h172
    obtain rfl := Option.some.inj h
    refine fin_ret1 Try.results75 rfl ?_
    exact ⟨_, rfl, rfl, fB⟩
   refine cw_condF e135 c197 ?_
   refine cw_skip ?_
   refine blk_i ?_
   refine cw_region ?_
   refine ol_val (v := .int .i64 s169) (xr_move rfl e6) rfl rfl rfl ?_
   refine ol_val (v := .int .i64 (IntKind.i64.wrap (s169 + 1))) (xr_add rfl rfl rfl) rfl rfl rfl ?_
   refine ol_val (v := .int .i64 (IntKind.i64.wrap (s169 + 1))) (xr_assign rfl rfl) rfl rfl rfl ?_
   refine ol_nil ?_
   obtain rfl := Option.some.inj h
   refine lp_in ?_
   exact ⟨o124, e1, e3, rfl, b2, fB⟩
  refine cw_condF rfl c177 ?_
  refine cw_exit ?_
  repeat (first | with_reducible refine thn_e ?_ | with_reducible refine blk_e rfl ?_)
  obtain rfl := Option.some.inj h
  refine lp_exit ?_
  rintro rfl
  refine thn_x ?_
  exact ⟨_, rfl, fB⟩
 rintro ρ198 w199 ⟨x173, rfl, fB⟩
 have h := h172
 refine cw_seq ?_
 refine cw_region ?_
 refine ol_val (v := .bool true) (xr_assign rfl rfl) rfl rfl rfl ?_
 refine ol_nil ?_
 refine cw_ret ?_
 repeat (first | with_reducible refine thn_r ?_ | with_reducible refine blk_r ?_)
 obtain rfl := Option.some.inj h
 refine fin_ret1 Try.results75 rfl ?_
 exact ⟨_, rfl, rfl, fB⟩
def rickyardlaw16_Cut_small.f (fu : Nat) (a0 : S_rickyardlaw16_Cut) : Option Bool := some ((if (decide ((List.length a0.Plan : Int) ≤ 40)) = true then (decide ((List.length a0.L : Int) ≤ 40)) else false))
theorem rickyardlaw16_Cut_small.ok (fu : Nat) (w : World) (a0 : S_rickyardlaw16_Cut) (V0_0 : Value) (R0_0 : Rd (kI .i64) w V0_0 a0.Plan) (V0_1 : Value) (R0_1 : Rd (kI .i64) w V0_1 a0.L) (r : Bool) (h : rickyardlaw16_Cut_small.f fu a0 = some r) :
  Calls Try.prog 80 (([aggV [Seg.cell (.int .u8 a0.Steps), Seg.cell V0_0 R0_0.one, Seg.cell V0_1 R0_1.one]] : List Value).toArray) w (fun e w' => ∃ v, e = .returned v ∧ v = .bool r ∧ Gr w w') := by
 unfold rickyardlaw16_Cut_small.f at h
 have fB : Gr w w := Fr.refl _ _
 refine calls_cw Try.func80 rfl Try.ntmps80 rfl ?_
 refine cw_seq ?_
 refine cw_region ?_
 refine ol_op (opv_box (ss := [Seg.cell (.int .u8 a0.Steps), Seg.cell V0_0 R0_0.one, Seg.cell V0_1 R0_1.one]) rfl rfl rfl) rfl rfl rfl ?_
 rintro _ w6 ⟨G1, rfl, b2, q3, z4⟩
 have z4 := Nat.le_trans fB.size z4
 have fB := fB.gr q3
 refine ol_val (v := .bool false) (xr_assign rfl rfl) rfl rfl rfl ?_
 refine ol_nil ?_
 refine cw_seq ?_
 refine cw_mid (fun ρ' w' => ρ' 2 = .bool (if (decide ((List.length a0.Plan : Int) ≤ 40)) = true then (decide ((List.length a0.L : Int) ≤ 40)) else false) ∧ w6 = w') ?_ ?_
 ·skip
  refine cw_region ?_
  refine ol_val (v := (pt G1 1)) (xr_fieldAddr (p := 0) (q := 1) rfl fl129_1 rfl) rfl rfl rfl ?_
  refine ol_val (v := V0_0) (xr_load1 (v := V0_0) rfl ag25 rfl (b2.seg 1 rfl rfl)) rfl rfl rfl ?_
  refine ol_val (v := .int .i64 (List.length a0.Plan : Int)) (xr_lenR rfl Try.underlying25 rfl (R0_0.gr fB)) rfl rfl rfl ?_
  refine ol_val (v := .bool (decide ((List.length a0.Plan : Int) ≤ 40))) (xr_leq rfl rfl rfl) rfl rfl rfl ?_
  refine ol_val (v := .bool (decide ((List.length a0.Plan : Int) ≤ 40))) (xr_move rfl rfl) rfl rfl rfl ?_
  rcases bt (decide ((List.length a0.Plan : Int) ≤ 40)) with c7 | c7
  ·skip
   refine ol_gval (v := (pt G1 2)) (xr_fieldAddr (p := 0) (q := 2) rfl fl129_2 rfl) rfl rfl rfl rfl rfl c7 ?_
   refine ol_gval (v := V0_1) (xr_load1 (v := V0_1) rfl ag25 rfl (b2.seg 2 rfl rfl)) rfl rfl rfl rfl rfl c7 ?_
   refine ol_gval (v := .int .i64 (List.length a0.L : Int)) (xr_lenR rfl Try.underlying25 rfl (R0_1.gr fB)) rfl rfl rfl rfl rfl c7 ?_
   refine ol_gval (v := .bool (decide ((List.length a0.L : Int) ≤ 40))) (xr_leq rfl rfl rfl) rfl rfl rfl rfl rfl c7 ?_
   refine ol_val (v := .bool (decide ((List.length a0.L : Int) ≤ 40))) (xr_pickT rfl rfl c7 rfl) rfl rfl rfl ?_
   refine ol_val (v := .bool (decide ((List.length a0.L : Int) ≤ 40))) (xr_assign rfl rfl) rfl rfl rfl ?_
   refine ol_nil ?_
   refine thn_i ?_
   exact ⟨(rfl).trans (congrArg (fun z => (.bool z : Value)) (show (decide ((List.length a0.L : Int) ≤ 40)) = (if (decide ((List.length a0.Plan : Int) ≤ 40)) = true then (decide ((List.length a0.L : Int) ≤ 40)) else false) from by rw [ite_t c7])), rfl⟩
  refine ol_gskip rfl rfl rfl rfl rfl c7 ?_
  refine ol_gskip rfl rfl rfl rfl rfl c7 ?_
  refine ol_gskip rfl rfl rfl rfl rfl c7 ?_
  refine ol_gskip rfl rfl rfl rfl rfl c7 ?_
  refine ol_val (v := .bool false) (xr_pickF rfl rfl c7 rfl) rfl rfl rfl ?_
  refine ol_val (v := .bool false) (xr_assign rfl rfl) rfl rfl rfl ?_
  refine ol_nil ?_
  refine thn_i ?_
  exact ⟨(rfl).trans (congrArg (fun z => (.bool z : Value)) (show false = (if (decide ((List.length a0.Plan : Int) ≤ 40)) = true then (decide ((List.length a0.L : Int) ≤ 40)) else false) from by rw [ite_f c7])), rfl⟩
 rintro ρ8 _ ⟨e2, rfl⟩
 refine cw_ret ?_
 repeat (first | with_reducible refine thn_r ?_ | with_reducible refine blk_r ?_)
 obtain rfl := Option.some.inj h
 refine fin_ret1 Try.results80 e2 ?_
 exact ⟨_, rfl, rfl, fB⟩
def rickyardlaw16_RootCommits.s0 (fu : Nat) (a0 : Arr 3 S_api_Super) : Int → Option (Sum (Sum Bool Unit) Int) := fun s33 => (if (decide (s33 < 3)) = true then (((if 0 ≤ s33 ∧ s33 < 3 then (if (decide ((List.length ((Arr.get a0 s33).Charts) : Int) > 60)) = true then some (true) else (if 0 ≤ s33 ∧ s33 < 3 then ((rickyardref13_Right.f fu (⟨(Arr.get a0 s33).Epoch, (⟨(((Arr.get a0 s33).Tickets).Geometry), ((Arr.get a0 s33).Tickets).Top, ((Arr.get a0 s33).Tickets).High, ((Arr.get a0 s33).Tickets).Free⟩ : S_api_Tickets), (Arr.get a0 s33).Dir, (Arr.get a0 s33).Charts⟩ : S_api_Super)).bind fun t47 => some ((!t47))) else none)) else none) : Option Bool).bind fun x42 => (if x42 = true then some (Sum.inl (Sum.inl (true))) else some (Sum.inr ((IntKind.i64.wrap (s33 + 1)))))) else some (Sum.inl (Sum.inr ())))
def rickyardlaw16_RootCommits.f (fu : Nat) (a0 : Arr 3 S_api_Super) (a1 : S_rickyardlaw16_Cut) : Option Bool := ((((rickyardlaw16_awake.f fu).bind fun t16 => (if (!t16) = true then some (true) else ((rickyardlaw16_Cut_small.f fu a1).bind fun t21 => some ((!t21))))) : Option Bool).bind fun x14 => (if x14 = true then ((rickyardlaw16_awake.f fu).bind fun t29 => some (t29)) else ((loopM (rickyardlaw16_RootCommits.s0 fu a0) fu (0)).bind fun e34 => match e34 with | Sum.inl p => some p | Sum.inr x37 => (if (if (decide (((Arr.get a0 0).Epoch) ≥ ((Arr.get a0 1).Epoch))) = true then true else (decide (((Arr.get a0 1).Epoch) ≥ ((Arr.get a0 2).Epoch)))) = true then some (true) else ((pmem_New.f fu 2).bind fun t60 => (Option.elim t60.1 (some (false)) (fun m67 => ((root_Lay.f fu m67 (Int.tmod (IntKind.i64.wrap a1.Steps) 2) (⟨(Arr.get a0 0).Epoch, (⟨(((Arr.get a0 0).Tickets).Geometry), ((Arr.get a0 0).Tickets).Top, ((Arr.get a0 0).Tickets).High, ((Arr.get a0 0).Tickets).Free⟩ : S_api_Tickets), (Arr.get a0 0).Dir, (Arr.get a0 0).Charts⟩ : S_api_Super)).bind fun t81 => (if (!decide (t81.1 = 0)) = true then some (false) else ((root_Lay.f fu t81.2 (IntKind.i64.wrap (1 - (Int.tmod (IntKind.i64.wrap a1.Steps) 2))) (⟨(Arr.get a0 1).Epoch, (⟨(((Arr.get a0 1).Tickets).Geometry), ((Arr.get a0 1).Tickets).Top, ((Arr.get a0 1).Tickets).High, ((Arr.get a0 1).Tickets).Free⟩ : S_api_Tickets), (Arr.get a0 1).Dir, (Arr.get a0 1).Charts⟩ : S_api_Super)).bind fun t97 => (if (!decide (t97.1 = 0)) = true then some (false) else ((pmem_Device_Plan.f fu t97.2 a1.Plan).bind fun t113 => ((pmem_Device_Arm.f fu t113 (Int.tmod (IntKind.i64.wrap (Int.tdiv (IntKind.i64.wrap a1.Steps) 2)) 20)).bind fun t128 => ((root_Lay.f fu (⟨t113.cells, (⟨t113.plan.list, t128.plan.at_⟩ : S_pmem_plan), t128.off, t128.armed, t128.left, t128.steps⟩ : S_pmem_Device) (Int.tmod (IntKind.i64.wrap a1.Steps) 2) (⟨(Arr.get a0 2).Epoch, (⟨(((Arr.get a0 2).Tickets).Geometry), ((Arr.get a0 2).Tickets).Top, ((Arr.get a0 2).Tickets).High, ((Arr.get a0 2).Tickets).Free⟩ : S_api_Tickets), (Arr.get a0 2).Dir, (Arr.get a0 2).Charts⟩ : S_api_Super)).bind fun t134 => ((pmem_Device_Crash.f fu t134.2 a1.L).bind fun t149 => ((root_Pick.f fu t149).bind fun t163 => (if (if t163.2.2 = true then (decide (t163.2.1 = (Int.tmod (IntKind.i64.wrap a1.Steps) 2))) else false) = true then ((rickyardref13_Same.f fu t163.1 (⟨(Arr.get a0 2).Epoch, (⟨(((Arr.get a0 2).Tickets).Geometry), ((Arr.get a0 2).Tickets).Top, ((Arr.get a0 2).Tickets).High, ((Arr.get a0 2).Tickets).Free⟩ : S_api_Tickets), (Arr.get a0 2).Dir, (Arr.get a0 2).Charts⟩ : S_api_Super)).bind fun t183 => some (t183)) else (((if t163.2.2 = true then (if (decide (t163.2.1 = (IntKind.i64.wrap (1 - (Int.tmod (IntKind.i64.wrap a1.Steps) 2))))) = true then (if (!decide (t134.1 = 0)) = true then ((rickyardref13_Same.f fu t163.1 (⟨(Arr.get a0 1).Epoch, (⟨(((Arr.get a0 1).Tickets).Geometry), ((Arr.get a0 1).Tickets).Top, ((Arr.get a0 1).Tickets).High, ((Arr.get a0 1).Tickets).Free⟩ : S_api_Tickets), (Arr.get a0 1).Dir, (Arr.get a0 1).Charts⟩ : S_api_Super)).bind fun t192 => some (t192)) else some (false)) else some (false)) else some (false)) : Option Bool).bind fun x187 => some (x187)))))))))))))))))))
theorem rickyardlaw16_RootCommits.ok (fu : Nat) (w : World) (a0 : Arr 3 S_api_Super) (C_0 : List Value) (E_0 : AtN 3 9 D_api_Super w C_0 a0) (a1 : S_rickyardlaw16_Cut) (V1_0 : Value) (R1_0 : Rd (kI .i64) w V1_0 a1.Plan) (V1_1 : Value) (R1_1 : Rd (kI .i64) w V1_1 a1.L) (r : Bool) (h : rickyardlaw16_RootCommits.f fu a0 a1 = some r) :
  Calls Try.prog 21 (([aggV [AtN.seg E_0], aggV [Seg.cell (.int .u8 a1.Steps), Seg.cell V1_0 R1_0.one, Seg.cell V1_1 R1_1.one]] : List Value).toArray) w (fun e w' => ∃ v, e = .returned v ∧ v = .bool r ∧ Gr w w') := by
 unfold rickyardlaw16_RootCommits.f at h
 have fB : Gr w w := Fr.refl _ _
 refine calls_cw Try.func21 rfl Try.ntmps21 rfl ?_
 refine cw_seq ?_
 refine cw_region ?_
 refine ol_op (opv_box (ss := [AtN.seg E_0]) rfl rfl rfl) rfl rfl rfl ?_
 rintro _ w6 ⟨G1, rfl, b2, q3, z4⟩
 have z4 := Nat.le_trans fB.size z4
 have fB := fB.gr q3
 refine ol_op (opv_box (ss := [Seg.cell (.int .u8 a1.Steps), Seg.cell V1_0 R1_0.one, Seg.cell V1_1 R1_1.one]) rfl rfl rfl) rfl rfl rfl ?_
 rintro _ w12 ⟨G7, rfl, b8, q9, z10⟩
 have n13 := b2.ne z10
 have z10 := Nat.le_trans fB.size z10
 have b2 := b2.gr q9
 have fB := fB.gr q9
 refine ol_val (v := .bool false) (xr_assign rfl rfl) rfl rfl rfl ?_
 refine ol_nil ?_
 refine cw_seq ?_
 refine cw_seq ?_
 obtain ⟨x14, j15, h⟩ := bs h
 refine cw_mid (fun ρ' w' => ρ' 2 = (pt G1 0) ∧ ρ' 3 = (pt G7 0) ∧ ρ' 19 = .bool x14 ∧ Gr w12 w') ?_ ?_
 ·skip
  refine cw_region ?_
  obtain ⟨t16, k17, j15⟩ := bs j15
  refine ol_op (opv_call rfl cal69 an (rickyardlaw16_awake.ok fu _ _ k17)) rfl rfl rfl ?_
  rintro _ w19 ⟨rfl, q18⟩
  have b2 := b2.gr q18
  have b8 := b8.gr q18
  have fB := fB.gr q18
  refine ol_val (v := .bool (!t16)) (xr_not rfl rfl) rfl rfl rfl ?_
  refine ol_val (v := .bool (!t16)) (xr_move rfl rfl) rfl rfl rfl ?_
  rcases is j15 with ⟨c20, j15⟩ | ⟨c20, j15⟩
  ·skip
   refine ol_gskip rfl rfl rfl rfl rfl c20 ?_
   refine ol_gskip rfl rfl rfl rfl rfl c20 ?_
   refine ol_gskip rfl rfl rfl rfl rfl c20 ?_
   refine ol_val (v := .bool true) (xr_pickT rfl rfl c20 rfl) rfl rfl rfl ?_
   refine ol_nil ?_
   obtain rfl := Option.some.inj j15
   refine thn_i ?_
   exact ⟨rfl, rfl, rfl, q18⟩
  refine ol_gval (v := aggV [Seg.cell (.int .u8 a1.Steps), Seg.cell V1_0 R1_0.one, Seg.cell V1_1 R1_1.one]) (xr_loadS (ss := [Seg.cell (.int .u8 a1.Steps), Seg.cell V1_0 R1_0.one, Seg.cell V1_1 R1_1.one]) rfl ag129 sz129 rfl rfl (b8.segs 0 3 rfl)) rfl rfl rfl rfl rfl c20 ?_
  obtain ⟨t21, k22, j15⟩ := bs j15
  refine ol_gop (opv_call rfl cal80 (ac rfl an) (rickyardlaw16_Cut_small.ok fu _ a1 V1_0 (R1_0.gr fB) V1_1 (R1_1.gr fB) _ k22)) rfl rfl rfl rfl rfl c20 ?_
  rintro _ w24 ⟨rfl, q23⟩
  have b2 := b2.gr q23
  have b8 := b8.gr q23
  have fB := fB.gr q23
  refine ol_gval (v := .bool (!t21)) (xr_not rfl rfl) rfl rfl rfl rfl rfl c20 ?_
  refine ol_val (v := .bool (!t21)) (xr_pickF rfl rfl c20 rfl) rfl rfl rfl ?_
  refine ol_nil ?_
  obtain rfl := Option.some.inj j15
  refine thn_i ?_
  exact ⟨rfl, rfl, rfl, (q18.gr q23)⟩
 rintro ρ25 w26 ⟨e2, e3, e19, q27⟩
 have b2 := b2.gr q27
 have b8 := b8.gr q27
 have fB := fB.gr q27
 rcases is h with ⟨c28, h⟩ | ⟨c28, h⟩
 ·refine cw_condT e19 c28 ?_
  refine cw_seq ?_
  refine cw_region ?_
  obtain ⟨t29, k30, h⟩ := bs h
  refine ol_op (opv_call rfl cal69 an (rickyardlaw16_awake.ok fu _ _ k30)) rfl rfl rfl ?_
  rintro _ w32 ⟨rfl, q31⟩
  have fB := fB.gr q31
  refine ol_val (v := .bool t29) (xr_assign rfl rfl) rfl rfl rfl ?_
  refine ol_nil ?_
  refine cw_ret ?_
  repeat (first | with_reducible refine thn_r ?_ | with_reducible refine blk_r ?_)
  obtain rfl := Option.some.inj h
  refine fin_ret1 Try.results21 rfl ?_
  exact ⟨_, rfl, rfl, fB⟩
 refine cw_condF e19 c28 ?_
 refine cw_skip ?_
 refine cw_seq ?_
 refine cw_seq ?_
 refine cw_region ?_
 refine ol_val (v := .int .i64 0) (xr_assign rfl rfl) rfl rfl rfl ?_
 refine ol_nil ?_
 obtain ⟨e34, l35, h36⟩ := bs h
 refine cw_mid (fun ρ' w' => ∃ x37, e34 = Sum.inr x37 ∧ ρ' 2 = (pt G1 0) ∧ ρ' 3 = (pt G7 0) ∧ Blk w' G1 127 [AtN.seg E_0] ∧ Blk w' G7 129 [Seg.cell (.int .u8 a1.Steps), Seg.cell V1_0 R1_0.one, Seg.cell V1_1 R1_1.one] ∧ Gr w w') ?_ ?_
 ·refine cw_block ?_
  refine cw_round (fun (s33 : Int) ρ' w' => ρ' 2 = (pt G1 0) ∧ ρ' 3 = (pt G7 0) ∧ ρ' 5 = .int .i64 s33 ∧ Blk w' G1 127 [AtN.seg E_0] ∧ Blk w' G7 129 [Seg.cell (.int .u8 a1.Steps), Seg.cell V1_0 R1_0.one, Seg.cell V1_1 R1_1.one] ∧ Gr w w') l35 ?_ ?_
  ·skip
   exact ⟨e2, e3, rfl, b2, b8, fB⟩
  rintro s33 x40 ρ38 w39 ⟨e2, e3, e5, b2, b8, fB⟩ h
  unfold rickyardlaw16_RootCommits.s0 at h
  refine cw_seq ?_
  refine cw_seq ?_
  refine cw_region ?_
  refine ol_val (v := .int .i64 s33) (xr_move rfl e5) rfl rfl rfl ?_
  refine ol_val (v := .bool (decide (s33 < 3))) (xr_lss rfl rfl rfl) rfl rfl rfl ?_
  refine ol_nil ?_
  rcases is h with ⟨c41, h⟩ | ⟨c41, h⟩
  ·refine cw_condT rfl c41 ?_
   refine cw_skip ?_
   refine cw_seq ?_
   refine cw_block ?_
   refine cw_seq ?_
   obtain ⟨x42, j43, h⟩ := bs h
   refine cw_mid (fun ρ' w' => ρ' 2 = (pt G1 0) ∧ ρ' 3 = (pt G7 0) ∧ ρ' 5 = .int .i64 s33 ∧ ρ' 37 = .bool x42 ∧ Gr w39 w') ?_ ?_
   ·skip
    refine cw_region ?_
    refine ol_val (v := .int .i64 s33) (xr_move rfl e5) rfl rfl rfl ?_
    obtain ⟨g44, j43⟩ := gs j43
    refine ol_val (v := (pt G1 (0 + Int.toNat s33 * 9))) (xr_indexA (p := 0) (s := 9) rfl Try.underlying127 sz110 e2 rfl g44.1 g44.2) rfl rfl rfl ?_
    refine ol_val (v := (pt G1 (0 + Int.toNat s33 * 9 + 8))) (xr_fieldAddr (p := 0 + Int.toNat s33 * 9) (q := 8) rfl fl110_3 rfl) rfl rfl rfl ?_
    refine ol_val (v := nthV C_0 (Int.toNat s33 * 9 + 8)) (xr_load1 (v := nthV C_0 (Int.toNat s33 * 9 + 8)) rfl ag25 rfl (At.segs (ss := [(sI ((Arr.get a0 s33).Epoch)), (sI ((((Arr.get a0 s33).Tickets).Geometry).Blocks)), (sI ((((Arr.get a0 s33).Tickets).Geometry).Slots)), (sI ((((Arr.get a0 s33).Tickets).Geometry).Gens)), (sI (((Arr.get a0 s33).Tickets).Top)), (sI (((Arr.get a0 s33).Tickets).High)), (sI (((Arr.get a0 s33).Tickets).Free)), (sI ((Arr.get a0 s33).Dir)), Seg.cell (nthV C_0 (Int.toNat s33 * 9 + 8)) (M_api_Super (i := s33) E_0 g44.1 g44.2).2.one]) (At.chunk (b2.seg 0 rfl rfl) (M_api_Super (i := s33) E_0 g44.1 g44.2).1) 8 1 rfl)) rfl rfl rfl ?_
    refine ol_val (v := .int .i64 (List.length ((Arr.get a0 s33).Charts) : Int)) (xr_lenR rfl Try.underlying25 rfl ((M_api_Super (i := s33) E_0 g44.1 g44.2).2.gr fB)) rfl rfl rfl ?_
    refine ol_val (v := .bool (decide ((List.length ((Arr.get a0 s33).Charts) : Int) > 60))) (xr_gtr rfl rfl rfl) rfl rfl rfl ?_
    refine ol_val (v := .bool (decide ((List.length ((Arr.get a0 s33).Charts) : Int) > 60))) (xr_move rfl rfl) rfl rfl rfl ?_
    rcases is j43 with ⟨c45, j43⟩ | ⟨c45, j43⟩
    ·skip
     refine ol_gskip rfl rfl rfl rfl rfl c45 ?_
     refine ol_gskip rfl rfl rfl rfl rfl c45 ?_
     refine ol_gskip rfl rfl rfl rfl rfl c45 ?_
     refine ol_gskip rfl rfl rfl rfl rfl c45 ?_
     refine ol_gskip rfl rfl rfl rfl rfl c45 ?_
     refine ol_val (v := .bool true) (xr_pickT rfl rfl c45 rfl) rfl rfl rfl ?_
     refine ol_nil ?_
     obtain rfl := Option.some.inj j43
     refine thn_i ?_
     exact ⟨e2, e3, e5, rfl, Fr.refl _ _⟩
    refine ol_gval (v := .int .i64 s33) (xr_move rfl e5) rfl rfl rfl rfl rfl c45 ?_
    obtain ⟨g46, j43⟩ := gs j43
    refine ol_gval (v := (pt G1 (0 + Int.toNat s33 * 9))) (xr_indexA (p := 0) (s := 9) rfl Try.underlying127 sz110 e2 rfl g46.1 g46.2) rfl rfl rfl rfl rfl c45 ?_
    refine ol_gval (v := aggV [(sI ((Arr.get a0 s33).Epoch)), (sI ((((Arr.get a0 s33).Tickets).Geometry).Blocks)), (sI ((((Arr.get a0 s33).Tickets).Geometry).Slots)), (sI ((((Arr.get a0 s33).Tickets).Geometry).Gens)), (sI (((Arr.get a0 s33).Tickets).Top)), (sI (((Arr.get a0 s33).Tickets).High)), (sI (((Arr.get a0 s33).Tickets).Free)), (sI ((Arr.get a0 s33).Dir)), Seg.cell (nthV C_0 (Int.toNat s33 * 9 + 8)) (M_api_Super (i := s33) E_0 g46.1 g46.2).2.one]) (xr_loadS (ss := [(sI ((Arr.get a0 s33).Epoch)), (sI ((((Arr.get a0 s33).Tickets).Geometry).Blocks)), (sI ((((Arr.get a0 s33).Tickets).Geometry).Slots)), (sI ((((Arr.get a0 s33).Tickets).Geometry).Gens)), (sI (((Arr.get a0 s33).Tickets).Top)), (sI (((Arr.get a0 s33).Tickets).High)), (sI (((Arr.get a0 s33).Tickets).Free)), (sI ((Arr.get a0 s33).Dir)), Seg.cell (nthV C_0 (Int.toNat s33 * 9 + 8)) (M_api_Super (i := s33) E_0 g46.1 g46.2).2.one]) rfl ag110 sz110 rfl rfl (At.chunk (b2.seg 0 rfl rfl) (M_api_Super (i := s33) E_0 g46.1 g46.2).1)) rfl rfl rfl rfl rfl c45 ?_
    obtain ⟨t47, k48, j43⟩ := bs j43
    refine ol_gop (opv_call rfl cal75 (ac rfl an) (rickyardref13_Right.ok fu _ (⟨(Arr.get a0 s33).Epoch, (⟨(((Arr.get a0 s33).Tickets).Geometry), ((Arr.get a0 s33).Tickets).Top, ((Arr.get a0 s33).Tickets).High, ((Arr.get a0 s33).Tickets).Free⟩ : S_api_Tickets), (Arr.get a0 s33).Dir, (Arr.get a0 s33).Charts⟩ : S_api_Super) (nthV C_0 (Int.toNat s33 * 9 + 8)) ((M_api_Super (i := s33) E_0 g46.1 g46.2).2.gr fB) _ k48)) rfl rfl rfl rfl rfl c45 ?_
    rintro _ w50 ⟨rfl, q49⟩
    have b2 := b2.gr q49
    have b8 := b8.gr q49
    have fB := fB.gr q49
    refine ol_gval (v := .bool (!t47)) (xr_not rfl rfl) rfl rfl rfl rfl rfl c45 ?_
    refine ol_val (v := .bool (!t47)) (xr_pickF rfl rfl c45 rfl) rfl rfl rfl ?_
    refine ol_nil ?_
    obtain rfl := Option.some.inj j43
    refine thn_i ?_
    exact ⟨e2, e3, e5, rfl, q49⟩
   rintro ρ51 w52 ⟨e2, e3, e5, e37, q53⟩
   have b2 := b2.gr q53
   have b8 := b8.gr q53
   have fB := fB.gr q53
   rcases is h with ⟨c54, h⟩ | ⟨c54, h⟩
   ·refine cw_condT e37 c54 ?_
    refine cw_seq ?_
    refine cw_region ?_
    refine ol_val (v := .bool true) (xr_assign rfl rfl) rfl rfl rfl ?_
    refine ol_nil ?_
    refine cw_ret ?_
    repeat (first | with_reducible refine thn_r ?_ | with_reducible refine blk_r ?_)
    obtain rfl := Option.some.inj h
    refine lp_ret ?_
    rintro rfl
    repeat (first | with_reducible refine thn_r ?_ | with_reducible refine blk_r ?_)
    have h := h36
    obtain rfl := Option.some.inj h
    refine fin_ret1 Try.results21 rfl ?_
    exact ⟨_, rfl, rfl, fB⟩
   refine cw_condF e37 c54 ?_
   refine cw_skip ?_
   refine blk_i ?_
   refine cw_region ?_
   refine ol_val (v := .int .i64 s33) (xr_move rfl e5) rfl rfl rfl ?_
   refine ol_val (v := .int .i64 (IntKind.i64.wrap (s33 + 1))) (xr_add rfl rfl rfl) rfl rfl rfl ?_
   refine ol_val (v := .int .i64 (IntKind.i64.wrap (s33 + 1))) (xr_assign rfl rfl) rfl rfl rfl ?_
   refine ol_nil ?_
   obtain rfl := Option.some.inj h
   refine lp_in ?_
   exact ⟨e2, e3, rfl, b2, b8, fB⟩
  refine cw_condF rfl c41 ?_
  refine cw_exit ?_
  repeat (first | with_reducible refine thn_e ?_ | with_reducible refine blk_e rfl ?_)
  obtain rfl := Option.some.inj h
  refine lp_exit ?_
  rintro rfl
  refine thn_x ?_
  exact ⟨_, rfl, e2, e3, b2, b8, fB⟩
 rintro ρ55 w56 ⟨x37, rfl, e2, e3, b2, b8, fB⟩
 have h := h36
 refine cw_seq ?_
 refine cw_seq ?_
 refine cw_mid (fun ρ' w' => ρ' 2 = (pt G1 0) ∧ ρ' 3 = (pt G7 0) ∧ ρ' 53 = .bool (if (decide (((Arr.get a0 0).Epoch) ≥ ((Arr.get a0 1).Epoch))) = true then true else (decide (((Arr.get a0 1).Epoch) ≥ ((Arr.get a0 2).Epoch)))) ∧ w56 = w') ?_ ?_
 ·skip
  refine cw_region ?_
  refine ol_val (v := (pt G1 (0 + Int.toNat 0 * 9))) (xr_indexA (p := 0) (s := 9) rfl Try.underlying127 sz110 e2 rfl (by decide) (by decide)) rfl rfl rfl ?_
  refine ol_val (v := (pt G1 (0 + Int.toNat 0 * 9 + 0))) (xr_fieldAddr (p := 0 + Int.toNat 0 * 9) (q := 0) rfl fl110_0 rfl) rfl rfl rfl ?_
  refine ol_val (v := .int .i64 ((Arr.get a0 0).Epoch)) (xr_load1 (v := .int .i64 ((Arr.get a0 0).Epoch)) rfl ag3 rfl (At.segs (ss := [(sI ((Arr.get a0 0).Epoch)), (sI ((((Arr.get a0 0).Tickets).Geometry).Blocks)), (sI ((((Arr.get a0 0).Tickets).Geometry).Slots)), (sI ((((Arr.get a0 0).Tickets).Geometry).Gens)), (sI (((Arr.get a0 0).Tickets).Top)), (sI (((Arr.get a0 0).Tickets).High)), (sI (((Arr.get a0 0).Tickets).Free)), (sI ((Arr.get a0 0).Dir)), Seg.cell (nthV C_0 (Int.toNat 0 * 9 + 8)) (M_api_Super (i := 0) E_0 (by decide) (by decide)).2.one]) (At.chunk (b2.seg 0 rfl rfl) (M_api_Super (i := 0) E_0 (by decide) (by decide)).1) 0 1 rfl)) rfl rfl rfl ?_
  refine ol_val (v := (pt G1 (0 + Int.toNat 1 * 9))) (xr_indexA (p := 0) (s := 9) rfl Try.underlying127 sz110 e2 rfl (by decide) (by decide)) rfl rfl rfl ?_
  refine ol_val (v := (pt G1 (0 + Int.toNat 1 * 9 + 0))) (xr_fieldAddr (p := 0 + Int.toNat 1 * 9) (q := 0) rfl fl110_0 rfl) rfl rfl rfl ?_
  refine ol_val (v := .int .i64 ((Arr.get a0 1).Epoch)) (xr_load1 (v := .int .i64 ((Arr.get a0 1).Epoch)) rfl ag3 rfl (At.segs (ss := [(sI ((Arr.get a0 1).Epoch)), (sI ((((Arr.get a0 1).Tickets).Geometry).Blocks)), (sI ((((Arr.get a0 1).Tickets).Geometry).Slots)), (sI ((((Arr.get a0 1).Tickets).Geometry).Gens)), (sI (((Arr.get a0 1).Tickets).Top)), (sI (((Arr.get a0 1).Tickets).High)), (sI (((Arr.get a0 1).Tickets).Free)), (sI ((Arr.get a0 1).Dir)), Seg.cell (nthV C_0 (Int.toNat 1 * 9 + 8)) (M_api_Super (i := 1) E_0 (by decide) (by decide)).2.one]) (At.chunk (b2.seg 0 rfl rfl) (M_api_Super (i := 1) E_0 (by decide) (by decide)).1) 0 1 rfl)) rfl rfl rfl ?_
  refine ol_val (v := .bool (decide (((Arr.get a0 0).Epoch) ≥ ((Arr.get a0 1).Epoch)))) (xr_geq rfl rfl rfl) rfl rfl rfl ?_
  refine ol_val (v := .bool (decide (((Arr.get a0 0).Epoch) ≥ ((Arr.get a0 1).Epoch)))) (xr_move rfl rfl) rfl rfl rfl ?_
  rcases bt (decide (((Arr.get a0 0).Epoch) ≥ ((Arr.get a0 1).Epoch))) with c57 | c57
  ·skip
   refine ol_gskip rfl rfl rfl rfl rfl c57 ?_
   refine ol_gskip rfl rfl rfl rfl rfl c57 ?_
   refine ol_gskip rfl rfl rfl rfl rfl c57 ?_
   refine ol_gskip rfl rfl rfl rfl rfl c57 ?_
   refine ol_gskip rfl rfl rfl rfl rfl c57 ?_
   refine ol_gskip rfl rfl rfl rfl rfl c57 ?_
   refine ol_gskip rfl rfl rfl rfl rfl c57 ?_
   refine ol_val (v := .bool true) (xr_pickT rfl rfl c57 rfl) rfl rfl rfl ?_
   refine ol_nil ?_
   refine thn_i ?_
   exact ⟨e2, e3, (rfl).trans (congrArg (fun z => (.bool z : Value)) (show true = (if (decide (((Arr.get a0 0).Epoch) ≥ ((Arr.get a0 1).Epoch))) = true then true else (decide (((Arr.get a0 1).Epoch) ≥ ((Arr.get a0 2).Epoch)))) from by rw [ite_t c57])), rfl⟩
  refine ol_gval (v := (pt G1 (0 + Int.toNat 1 * 9))) (xr_indexA (p := 0) (s := 9) rfl Try.underlying127 sz110 e2 rfl (by decide) (by decide)) rfl rfl rfl rfl rfl c57 ?_
  refine ol_gval (v := (pt G1 (0 + Int.toNat 1 * 9 + 0))) (xr_fieldAddr (p := 0 + Int.toNat 1 * 9) (q := 0) rfl fl110_0 rfl) rfl rfl rfl rfl rfl c57 ?_
  refine ol_gval (v := .int .i64 ((Arr.get a0 1).Epoch)) (xr_load1 (v := .int .i64 ((Arr.get a0 1).Epoch)) rfl ag3 rfl (At.segs (ss := [(sI ((Arr.get a0 1).Epoch)), (sI ((((Arr.get a0 1).Tickets).Geometry).Blocks)), (sI ((((Arr.get a0 1).Tickets).Geometry).Slots)), (sI ((((Arr.get a0 1).Tickets).Geometry).Gens)), (sI (((Arr.get a0 1).Tickets).Top)), (sI (((Arr.get a0 1).Tickets).High)), (sI (((Arr.get a0 1).Tickets).Free)), (sI ((Arr.get a0 1).Dir)), Seg.cell (nthV C_0 (Int.toNat 1 * 9 + 8)) (M_api_Super (i := 1) E_0 (by decide) (by decide)).2.one]) (At.chunk (b2.seg 0 rfl rfl) (M_api_Super (i := 1) E_0 (by decide) (by decide)).1) 0 1 rfl)) rfl rfl rfl rfl rfl c57 ?_
  refine ol_gval (v := (pt G1 (0 + Int.toNat 2 * 9))) (xr_indexA (p := 0) (s := 9) rfl Try.underlying127 sz110 e2 rfl (by decide) (by decide)) rfl rfl rfl rfl rfl c57 ?_
  refine ol_gval (v := (pt G1 (0 + Int.toNat 2 * 9 + 0))) (xr_fieldAddr (p := 0 + Int.toNat 2 * 9) (q := 0) rfl fl110_0 rfl) rfl rfl rfl rfl rfl c57 ?_
  refine ol_gval (v := .int .i64 ((Arr.get a0 2).Epoch)) (xr_load1 (v := .int .i64 ((Arr.get a0 2).Epoch)) rfl ag3 rfl (At.segs (ss := [(sI ((Arr.get a0 2).Epoch)), (sI ((((Arr.get a0 2).Tickets).Geometry).Blocks)), (sI ((((Arr.get a0 2).Tickets).Geometry).Slots)), (sI ((((Arr.get a0 2).Tickets).Geometry).Gens)), (sI (((Arr.get a0 2).Tickets).Top)), (sI (((Arr.get a0 2).Tickets).High)), (sI (((Arr.get a0 2).Tickets).Free)), (sI ((Arr.get a0 2).Dir)), Seg.cell (nthV C_0 (Int.toNat 2 * 9 + 8)) (M_api_Super (i := 2) E_0 (by decide) (by decide)).2.one]) (At.chunk (b2.seg 0 rfl rfl) (M_api_Super (i := 2) E_0 (by decide) (by decide)).1) 0 1 rfl)) rfl rfl rfl rfl rfl c57 ?_
  refine ol_gval (v := .bool (decide (((Arr.get a0 1).Epoch) ≥ ((Arr.get a0 2).Epoch)))) (xr_geq rfl rfl rfl) rfl rfl rfl rfl rfl c57 ?_
  refine ol_val (v := .bool (decide (((Arr.get a0 1).Epoch) ≥ ((Arr.get a0 2).Epoch)))) (xr_pickF rfl rfl c57 rfl) rfl rfl rfl ?_
  refine ol_nil ?_
  refine thn_i ?_
  exact ⟨e2, e3, (rfl).trans (congrArg (fun z => (.bool z : Value)) (show (decide (((Arr.get a0 1).Epoch) ≥ ((Arr.get a0 2).Epoch))) = (if (decide (((Arr.get a0 0).Epoch) ≥ ((Arr.get a0 1).Epoch))) = true then true else (decide (((Arr.get a0 1).Epoch) ≥ ((Arr.get a0 2).Epoch)))) from by rw [ite_f c57])), rfl⟩
 rintro ρ58 _ ⟨e2, e3, e53, rfl⟩
 rcases is h with ⟨c59, h⟩ | ⟨c59, h⟩
 ·refine cw_condT e53 c59 ?_
  refine cw_seq ?_
  refine cw_region ?_
  refine ol_val (v := .bool true) (xr_assign rfl rfl) rfl rfl rfl ?_
  refine ol_nil ?_
  refine cw_ret ?_
  repeat (first | with_reducible refine thn_r ?_ | with_reducible refine blk_r ?_)
  obtain rfl := Option.some.inj h
  refine fin_ret1 Try.results21 rfl ?_
  exact ⟨_, rfl, rfl, fB⟩
 refine cw_condF e53 c59 ?_
 refine cw_skip ?_
 refine cw_seq ?_
 refine cw_region ?_
 refine ol_val (v := (pt G7 0)) (xr_fieldAddr (p := 0) (q := 0) rfl fl129_0 e3) rfl rfl rfl ?_
 refine ol_val (v := .int .u8 a1.Steps) (xr_load1 (v := .int .u8 a1.Steps) rfl ag5 rfl (b8.seg 0 rfl rfl)) rfl rfl rfl ?_
 refine ol_val (v := .int .i64 (IntKind.i64.wrap a1.Steps)) (xr_conv rfl Try.underlying5 Try.underlying3 rfl) rfl rfl rfl ?_
 refine ol_val (v := .int .i64 (Int.tmod (IntKind.i64.wrap a1.Steps) 2)) (xr_rem rfl rfl rfl (by decide)) rfl rfl rfl ?_
 refine ol_val (v := .int .i64 (Int.tmod (IntKind.i64.wrap a1.Steps) 2)) (xr_assign rfl rfl) rfl rfl rfl ?_
 refine ol_nil ?_
 refine cw_seq ?_
 refine cw_region ?_
 obtain ⟨t60, k61, h⟩ := bs h
 refine ol_op (opv_call rfl cal26 (ac rfl an) (pmem_New.ok fu _ 2 _ k61)) rfl rfl rfl ?_
 rintro _ w65 ⟨u62, p63, rfl, q64⟩
 rcases en h with ⟨e66, h⟩ | ⟨m67, e66, h⟩
 ·obtain rfl := p63.1 e66
  have b2 := b2.gr q64
  have b8 := b8.gr q64
  have fB := fB.gr q64
  refine ol_val (v := .tuple #[.pointer none, .int .i64 t60.2]) (xr_move rfl rfl) rfl rfl rfl ?_
  refine ol_val (v := .pointer none) (xr_extract rfl rfl rfl) rfl rfl rfl ?_
  refine ol_val (v := .int .i64 t60.2) (xr_extract rfl rfl rfl) rfl rfl rfl ?_
  refine ol_val (v := .pointer none) (xr_assign rfl rfl) rfl rfl rfl ?_
  refine ol_val (v := .int .i64 t60.2) (xr_assign rfl rfl) rfl rfl rfl ?_
  refine ol_nil ?_
  refine cw_seq ?_
  refine cw_seq ?_
  refine cw_mid (fun ρ' w' => ρ' 2 = (pt G1 0) ∧ ρ' 3 = (pt G7 0) ∧ ρ' 6 = .int .i64 (Int.tmod (IntKind.i64.wrap a1.Steps) 2) ∧ ρ' 7 = .pointer none ∧ ρ' 80 = .bool true ∧ w65 = w') ?_ ?_
  ·skip
   refine cw_region ?_
   refine ol_val (v := .pointer none) (xr_move rfl rfl) rfl rfl rfl ?_
   refine ol_val (v := .bool true) (xr_eqP (b := true) rfl Try.underlying30 rfl rfl (by simp) (by simp)) rfl rfl rfl ?_
   refine ol_val (v := .bool true) (xr_move rfl rfl) rfl rfl rfl ?_
   refine ol_gskip rfl rfl rfl rfl rfl rfl ?_
   refine ol_gskip rfl rfl rfl rfl rfl rfl ?_
   refine ol_gskip rfl rfl rfl rfl rfl rfl ?_
   refine ol_gskip rfl rfl rfl rfl rfl rfl ?_
   refine ol_gskip rfl rfl rfl rfl rfl rfl ?_
   refine ol_gskip rfl rfl rfl rfl rfl rfl ?_
   refine ol_val (v := .bool true) (xr_pickT rfl rfl rfl rfl) rfl rfl rfl ?_
   refine ol_val (v := .bool true) (xr_move rfl rfl) rfl rfl rfl ?_
   refine ol_gskip rfl rfl rfl rfl rfl rfl ?_
   refine ol_gskip rfl rfl rfl rfl rfl rfl ?_
   refine ol_gskip rfl rfl rfl rfl rfl rfl ?_
   refine ol_gskip rfl rfl rfl rfl rfl rfl ?_
   refine ol_gskip rfl rfl rfl rfl rfl rfl ?_
   refine ol_gskip rfl rfl rfl rfl rfl rfl ?_
   refine ol_gskip rfl rfl rfl rfl rfl rfl ?_
   refine ol_val (v := .bool true) (xr_pickT rfl rfl rfl rfl) rfl rfl rfl ?_
   refine ol_nil ?_
   refine thn_i ?_
   exact ⟨e2, e3, rfl, rfl, rfl, rfl⟩
  rintro ρ68 _ ⟨e2, e3, e6, e7, e80, rfl⟩
  refine cw_condT e80 rfl ?_
  refine cw_seq ?_
  refine cw_region ?_
  refine ol_val (v := .bool false) (xr_assign rfl rfl) rfl rfl rfl ?_
  refine ol_nil ?_
  refine cw_ret ?_
  repeat (first | with_reducible refine thn_r ?_ | with_reducible refine blk_r ?_)
  obtain rfl := Option.some.inj h
  refine fin_ret1 Try.results21 rfl ?_
  exact ⟨_, rfl, rfl, fB⟩
 obtain ⟨G69, u73, u76, o74, o77, rfl, z70, b71⟩ := p63.2 _ e66
 have o74 := Own.base o74 fB.size
 have o77 := Own.base o77 fB.size
 have n79 := b2.ne z70
 have n80 := b8.ne z70
 have z70 := Nat.le_trans fB.size z70
 have b2 := b2.gr q64
 have b8 := b8.gr q64
 have fB := fB.gr q64
 refine ol_val (v := .tuple #[(pt G69 0), .int .i64 t60.2]) (xr_move rfl rfl) rfl rfl rfl ?_
 refine ol_val (v := (pt G69 0)) (xr_extract rfl rfl rfl) rfl rfl rfl ?_
 refine ol_val (v := .int .i64 t60.2) (xr_extract rfl rfl rfl) rfl rfl rfl ?_
 refine ol_val (v := (pt G69 0)) (xr_assign rfl rfl) rfl rfl rfl ?_
 refine ol_val (v := .int .i64 t60.2) (xr_assign rfl rfl) rfl rfl rfl ?_
 refine ol_nil ?_
 refine cw_seq ?_
 refine cw_seq ?_
 refine cw_region ?_
 refine ol_val (v := (pt G69 0)) (xr_move rfl rfl) rfl rfl rfl ?_
 refine ol_val (v := .bool false) (xr_eqP (b := false) rfl Try.underlying30 rfl rfl (by simp) (by simp)) rfl rfl rfl ?_
 refine ol_val (v := .bool false) (xr_move rfl rfl) rfl rfl rfl ?_
 refine ol_gval (v := (pt G69 0)) (xr_move rfl rfl) rfl rfl rfl rfl rfl rfl ?_
 refine ol_gval (v := .int .i64 (Int.tmod (IntKind.i64.wrap a1.Steps) 2)) (xr_move rfl rfl) rfl rfl rfl rfl rfl rfl ?_
 refine ol_gval (v := (pt G1 (0 + Int.toNat 0 * 9))) (xr_indexA (p := 0) (s := 9) rfl Try.underlying127 sz110 e2 rfl (by decide) (by decide)) rfl rfl rfl rfl rfl rfl ?_
 refine ol_gval (v := aggV [(sI ((Arr.get a0 0).Epoch)), (sI ((((Arr.get a0 0).Tickets).Geometry).Blocks)), (sI ((((Arr.get a0 0).Tickets).Geometry).Slots)), (sI ((((Arr.get a0 0).Tickets).Geometry).Gens)), (sI (((Arr.get a0 0).Tickets).Top)), (sI (((Arr.get a0 0).Tickets).High)), (sI (((Arr.get a0 0).Tickets).Free)), (sI ((Arr.get a0 0).Dir)), Seg.cell (nthV C_0 (Int.toNat 0 * 9 + 8)) (M_api_Super (i := 0) E_0 (by decide) (by decide)).2.one]) (xr_loadS (ss := [(sI ((Arr.get a0 0).Epoch)), (sI ((((Arr.get a0 0).Tickets).Geometry).Blocks)), (sI ((((Arr.get a0 0).Tickets).Geometry).Slots)), (sI ((((Arr.get a0 0).Tickets).Geometry).Gens)), (sI (((Arr.get a0 0).Tickets).Top)), (sI (((Arr.get a0 0).Tickets).High)), (sI (((Arr.get a0 0).Tickets).Free)), (sI ((Arr.get a0 0).Dir)), Seg.cell (nthV C_0 (Int.toNat 0 * 9 + 8)) (M_api_Super (i := 0) E_0 (by decide) (by decide)).2.one]) rfl ag110 sz110 rfl rfl (At.chunk (b2.seg 0 rfl rfl) (M_api_Super (i := 0) E_0 (by decide) (by decide)).1)) rfl rfl rfl rfl rfl rfl ?_
 obtain ⟨t81, k82, h⟩ := bs h
 have f92 := (nb_or n79 (nb_or (nb_off (off_ty b2 o74 (by decide))) (nb_off (off_ty b2 o77 (by decide)))))
 have f93 := (nb_or n80 (nb_or (nb_off (off_ty b8 o74 (by decide))) (nb_off (off_ty b8 o77 (by decide)))))
 have c94 : ∀ k, (k = G69 ∨ some k = Value.ownBlock u73 ∨ some k = Value.ownBlock u76) → w.heap.size ≤ k := (cv_or (cv_eq z70) (cv_or (cv_own o74.geO) (cv_own o77.geO)))
 refine ol_gop (opv_call rfl cal77 (ac rfl (ac rfl (ac rfl an))) (root_Lay.ok fu _ m67 G69 u73 (Own.base o74 (Nat.zero_le _)) u76 (Own.base o77 (Nat.zero_le _)) b71 (Int.tmod (IntKind.i64.wrap a1.Steps) 2) (⟨(Arr.get a0 0).Epoch, (⟨(((Arr.get a0 0).Tickets).Geometry), ((Arr.get a0 0).Tickets).Top, ((Arr.get a0 0).Tickets).High, ((Arr.get a0 0).Tickets).Free⟩ : S_api_Tickets), (Arr.get a0 0).Dir, (Arr.get a0 0).Charts⟩ : S_api_Super) (nthV C_0 (Int.toNat 0 * 9 + 8)) ((M_api_Super (i := 0) E_0 (by decide) (by decide)).2.gr fB) (OffR.new (M_api_Super (i := 0) E_0 (by decide) (by decide)).2 z70 rfl) (OffRV.call (M_api_Super (i := 0) E_0 (by decide) (by decide)).2 o74 rfl) (OffRV.call (M_api_Super (i := 0) E_0 (by decide) (by decide)).2 o77 rfl) _ k82)) rfl rfl rfl rfl rfl rfl ?_
 rintro _ w95 ⟨u84, u88, o85, m86, o89, m90, rfl, b71, q83⟩
 have o85 := Own.rebase o85 (fun g hg => (m86 g hg).elim (fun x => Nat.le_trans fB.size x) (c94 g))
 have o89 := Own.rebase o89 (fun g hg => (m90 g hg).elim (fun x => Nat.le_trans fB.size x) (c94 g))
 have b2 := b2.fr q83 f92
 have b8 := b8.fr q83 f93
 have fB := fB.call q83 (fun k h => .inl (c94 k h))
 refine ol_gval (v := .bool (!decide (t81.1 = 0))) (xr_neI rfl Try.underlying31 rfl rfl rfl) rfl rfl rfl rfl rfl rfl ?_
 refine ol_val (v := .bool (!decide (t81.1 = 0))) (xr_pickF rfl rfl rfl rfl) rfl rfl rfl ?_
 refine ol_val (v := .bool (!decide (t81.1 = 0))) (xr_move rfl rfl) rfl rfl rfl ?_
 rcases is h with ⟨c96, h⟩ | ⟨c96, h⟩
 ·skip
  refine ol_gskip rfl rfl rfl rfl rfl c96 ?_
  refine ol_gskip rfl rfl rfl rfl rfl c96 ?_
  refine ol_gskip rfl rfl rfl rfl rfl c96 ?_
  refine ol_gskip rfl rfl rfl rfl rfl c96 ?_
  refine ol_gskip rfl rfl rfl rfl rfl c96 ?_
  refine ol_gskip rfl rfl rfl rfl rfl c96 ?_
  refine ol_gskip rfl rfl rfl rfl rfl c96 ?_
  refine ol_val (v := .bool true) (xr_pickT rfl rfl c96 rfl) rfl rfl rfl ?_
  refine ol_nil ?_
  refine cw_condT rfl rfl ?_
  refine cw_seq ?_
  refine cw_region ?_
  refine ol_val (v := .bool false) (xr_assign rfl rfl) rfl rfl rfl ?_
  refine ol_nil ?_
  refine cw_ret ?_
  repeat (first | with_reducible refine thn_r ?_ | with_reducible refine blk_r ?_)
  obtain rfl := Option.some.inj h
  refine fin_ret1 Try.results21 rfl ?_
  exact ⟨_, rfl, rfl, fB⟩
 refine ol_gval (v := (pt G69 0)) (xr_move rfl rfl) rfl rfl rfl rfl rfl c96 ?_
 refine ol_gval (v := .int .i64 (Int.tmod (IntKind.i64.wrap a1.Steps) 2)) (xr_move rfl rfl) rfl rfl rfl rfl rfl c96 ?_
 refine ol_gval (v := .int .i64 (IntKind.i64.wrap (1 - (Int.tmod (IntKind.i64.wrap a1.Steps) 2)))) (xr_sub rfl rfl rfl) rfl rfl rfl rfl rfl c96 ?_
 refine ol_gval (v := (pt G1 (0 + Int.toNat 1 * 9))) (xr_indexA (p := 0) (s := 9) rfl Try.underlying127 sz110 e2 rfl (by decide) (by decide)) rfl rfl rfl rfl rfl c96 ?_
 refine ol_gval (v := aggV [(sI ((Arr.get a0 1).Epoch)), (sI ((((Arr.get a0 1).Tickets).Geometry).Blocks)), (sI ((((Arr.get a0 1).Tickets).Geometry).Slots)), (sI ((((Arr.get a0 1).Tickets).Geometry).Gens)), (sI (((Arr.get a0 1).Tickets).Top)), (sI (((Arr.get a0 1).Tickets).High)), (sI (((Arr.get a0 1).Tickets).Free)), (sI ((Arr.get a0 1).Dir)), Seg.cell (nthV C_0 (Int.toNat 1 * 9 + 8)) (M_api_Super (i := 1) E_0 (by decide) (by decide)).2.one]) (xr_loadS (ss := [(sI ((Arr.get a0 1).Epoch)), (sI ((((Arr.get a0 1).Tickets).Geometry).Blocks)), (sI ((((Arr.get a0 1).Tickets).Geometry).Slots)), (sI ((((Arr.get a0 1).Tickets).Geometry).Gens)), (sI (((Arr.get a0 1).Tickets).Top)), (sI (((Arr.get a0 1).Tickets).High)), (sI (((Arr.get a0 1).Tickets).Free)), (sI ((Arr.get a0 1).Dir)), Seg.cell (nthV C_0 (Int.toNat 1 * 9 + 8)) (M_api_Super (i := 1) E_0 (by decide) (by decide)).2.one]) rfl ag110 sz110 rfl rfl (At.chunk (b2.seg 0 rfl rfl) (M_api_Super (i := 1) E_0 (by decide) (by decide)).1)) rfl rfl rfl rfl rfl c96 ?_
 obtain ⟨t97, k98, h⟩ := bs h
 have f108 := (nb_or n79 (nb_or (nb_off (off_ty b2 o85 (by decide))) (nb_off (off_ty b2 o89 (by decide)))))
 have f109 := (nb_or n80 (nb_or (nb_off (off_ty b8 o85 (by decide))) (nb_off (off_ty b8 o89 (by decide)))))
 have c110 : ∀ k, (k = G69 ∨ some k = Value.ownBlock u84 ∨ some k = Value.ownBlock u88) → w.heap.size ≤ k := (cv_or (cv_eq z70) (cv_or (cv_own o85.geO) (cv_own o89.geO)))
 refine ol_gop (opv_call rfl cal77 (ac rfl (ac rfl (ac rfl an))) (root_Lay.ok fu _ t81.2 G69 u84 (Own.base o85 (Nat.zero_le _)) u88 (Own.base o89 (Nat.zero_le _)) b71 (IntKind.i64.wrap (1 - (Int.tmod (IntKind.i64.wrap a1.Steps) 2))) (⟨(Arr.get a0 1).Epoch, (⟨(((Arr.get a0 1).Tickets).Geometry), ((Arr.get a0 1).Tickets).Top, ((Arr.get a0 1).Tickets).High, ((Arr.get a0 1).Tickets).Free⟩ : S_api_Tickets), (Arr.get a0 1).Dir, (Arr.get a0 1).Charts⟩ : S_api_Super) (nthV C_0 (Int.toNat 1 * 9 + 8)) ((M_api_Super (i := 1) E_0 (by decide) (by decide)).2.gr fB) (OffR.new (M_api_Super (i := 1) E_0 (by decide) (by decide)).2 z70 rfl) (OffRV.call (M_api_Super (i := 1) E_0 (by decide) (by decide)).2 o85 rfl) (OffRV.call (M_api_Super (i := 1) E_0 (by decide) (by decide)).2 o89 rfl) _ k98)) rfl rfl rfl rfl rfl c96 ?_
 rintro _ w111 ⟨u100, u104, o101, m102, o105, m106, rfl, b71, q99⟩
 have o101 := Own.rebase o101 (fun g hg => (m102 g hg).elim (fun x => Nat.le_trans fB.size x) (c110 g))
 have o105 := Own.rebase o105 (fun g hg => (m106 g hg).elim (fun x => Nat.le_trans fB.size x) (c110 g))
 have b2 := b2.fr q99 f108
 have b8 := b8.fr q99 f109
 have fB := fB.call q99 (fun k h => .inl (c110 k h))
 refine ol_gval (v := .bool (!decide (t97.1 = 0))) (xr_neI rfl Try.underlying31 rfl rfl rfl) rfl rfl rfl rfl rfl c96 ?_
 refine ol_val (v := .bool (!decide (t97.1 = 0))) (xr_pickF rfl rfl c96 rfl) rfl rfl rfl ?_
 refine ol_nil ?_
 rcases is h with ⟨c112, h⟩ | ⟨c112, h⟩
 ·refine cw_condT rfl c112 ?_
  refine cw_seq ?_
  refine cw_region ?_
  refine ol_val (v := .bool false) (xr_assign rfl rfl) rfl rfl rfl ?_
  refine ol_nil ?_
  refine cw_ret ?_
  repeat (first | with_reducible refine thn_r ?_ | with_reducible refine blk_r ?_)
  obtain rfl := Option.some.inj h
  refine fin_ret1 Try.results21 rfl ?_
  exact ⟨_, rfl, rfl, fB⟩
 refine cw_condF rfl c112 ?_
 refine cw_skip ?_
 refine cw_seq ?_
 refine cw_region ?_
 refine ol_val (v := (pt G69 0)) (xr_move rfl rfl) rfl rfl rfl ?_
 refine ol_val (v := (pt G7 1)) (xr_fieldAddr (p := 0) (q := 1) rfl fl129_1 e3) rfl rfl rfl ?_
 refine ol_val (v := V1_0) (xr_load1 (v := V1_0) rfl ag25 rfl (b8.seg 1 rfl rfl)) rfl rfl rfl ?_
 obtain ⟨t113, k114, h⟩ := bs h
 have f124 := (nb_or n79 (nb_or (nb_off (off_ty b2 o101 (by decide))) (nb_off (off_ty b2 o105 (by decide)))))
 have f125 := (nb_or n80 (nb_or (nb_off (off_ty b8 o101 (by decide))) (nb_off (off_ty b8 o105 (by decide)))))
 have c126 : ∀ k, (k = G69 ∨ some k = Value.ownBlock u100 ∨ some k = Value.ownBlock u104) → w.heap.size ≤ k := (cv_or (cv_eq z70) (cv_or (cv_own o101.geO) (cv_own o105.geO)))
 refine ol_op (opv_call rfl cal35 (ac rfl (ac rfl an)) (pmem_Device_Plan.ok fu _ t97.2 G69 u100 (Own.base o101 (Nat.zero_le _)) u104 (Own.base o105 (Nat.zero_le _)) b71 a1.Plan V1_0 (R1_0.gr fB) (OffR.new R1_0 z70 rfl) (OffRV.call R1_0 o101 rfl) (OffRV.call R1_0 o105 rfl) _ k114)) rfl rfl rfl ?_
 rintro _ w127 ⟨u116, u120, o117, m118, o121, m122, rfl, b71, q115⟩
 have o117 := Own.rebase o117 (fun g hg => (m118 g hg).elim (fun x => Nat.le_trans fB.size x) (c126 g))
 have o121 := Own.rebase o121 (fun g hg => (m122 g hg).elim (fun x => Nat.le_trans fB.size x) (c126 g))
 have b2 := b2.fr q115 f124
 have b8 := b8.fr q115 f125
 have fB := fB.call q115 (fun k h => .inl (c126 k h))
 refine ol_nil ?_
 refine cw_seq ?_
 refine cw_region ?_
 refine ol_val (v := (pt G69 0)) (xr_move rfl rfl) rfl rfl rfl ?_
 refine ol_val (v := (pt G7 0)) (xr_fieldAddr (p := 0) (q := 0) rfl fl129_0 e3) rfl rfl rfl ?_
 refine ol_val (v := .int .u8 a1.Steps) (xr_load1 (v := .int .u8 a1.Steps) rfl ag5 rfl (b8.seg 0 rfl rfl)) rfl rfl rfl ?_
 refine ol_val (v := .int .i64 (IntKind.i64.wrap a1.Steps)) (xr_conv rfl Try.underlying5 Try.underlying3 rfl) rfl rfl rfl ?_
 refine ol_val (v := .int .i64 (IntKind.i64.wrap (Int.tdiv (IntKind.i64.wrap a1.Steps) 2))) (xr_quo rfl rfl rfl (by decide)) rfl rfl rfl ?_
 refine ol_val (v := .int .i64 (Int.tmod (IntKind.i64.wrap (Int.tdiv (IntKind.i64.wrap a1.Steps) 2)) 20)) (xr_rem rfl rfl rfl (by decide)) rfl rfl rfl ?_
 obtain ⟨t128, k129, h⟩ := bs h
 have f131 := off_ty b71 o117 (by decide)
 have f132 := off_ty b71 o121 (by decide)
 refine ol_op (opv_call rfl cal38 (ac rfl (ac rfl an)) (pmem_Device_Arm.ok fu _ t113 G69 u116 o117.rd (OffR.own o117 (off_ty b71 o117 (by decide))) u120 o121.rd (OffR.own o121 (off_ty b71 o121 (by decide))) b71 (Int.tmod (IntKind.i64.wrap (Int.tdiv (IntKind.i64.wrap a1.Steps) 2)) 20) _ k129)) rfl rfl rfl ?_
 rintro _ w133 ⟨rfl, b71, q130⟩
 have b2 := b2.wr q130 n79
 have b8 := b8.wr q130 n80
 have o117 := o117.wr q130 f131
 have o121 := o121.wr q130 f132
 have fB := fB.wr q130 z70
 refine ol_nil ?_
 refine cw_seq ?_
 refine cw_region ?_
 refine ol_val (v := (pt G69 0)) (xr_move rfl rfl) rfl rfl rfl ?_
 refine ol_val (v := .int .i64 (Int.tmod (IntKind.i64.wrap a1.Steps) 2)) (xr_move rfl rfl) rfl rfl rfl ?_
 refine ol_val (v := (pt G1 (0 + Int.toNat 2 * 9))) (xr_indexA (p := 0) (s := 9) rfl Try.underlying127 sz110 e2 rfl (by decide) (by decide)) rfl rfl rfl ?_
 refine ol_val (v := aggV [(sI ((Arr.get a0 2).Epoch)), (sI ((((Arr.get a0 2).Tickets).Geometry).Blocks)), (sI ((((Arr.get a0 2).Tickets).Geometry).Slots)), (sI ((((Arr.get a0 2).Tickets).Geometry).Gens)), (sI (((Arr.get a0 2).Tickets).Top)), (sI (((Arr.get a0 2).Tickets).High)), (sI (((Arr.get a0 2).Tickets).Free)), (sI ((Arr.get a0 2).Dir)), Seg.cell (nthV C_0 (Int.toNat 2 * 9 + 8)) (M_api_Super (i := 2) E_0 (by decide) (by decide)).2.one]) (xr_loadS (ss := [(sI ((Arr.get a0 2).Epoch)), (sI ((((Arr.get a0 2).Tickets).Geometry).Blocks)), (sI ((((Arr.get a0 2).Tickets).Geometry).Slots)), (sI ((((Arr.get a0 2).Tickets).Geometry).Gens)), (sI (((Arr.get a0 2).Tickets).Top)), (sI (((Arr.get a0 2).Tickets).High)), (sI (((Arr.get a0 2).Tickets).Free)), (sI ((Arr.get a0 2).Dir)), Seg.cell (nthV C_0 (Int.toNat 2 * 9 + 8)) (M_api_Super (i := 2) E_0 (by decide) (by decide)).2.one]) rfl ag110 sz110 rfl rfl (At.chunk (b2.seg 0 rfl rfl) (M_api_Super (i := 2) E_0 (by decide) (by decide)).1)) rfl rfl rfl ?_
 obtain ⟨t134, k135, h⟩ := bs h
 have f145 := (nb_or n79 (nb_or (nb_off (off_ty b2 o117 (by decide))) (nb_off (off_ty b2 o121 (by decide)))))
 have f146 := (nb_or n80 (nb_or (nb_off (off_ty b8 o117 (by decide))) (nb_off (off_ty b8 o121 (by decide)))))
 have c147 : ∀ k, (k = G69 ∨ some k = Value.ownBlock u116 ∨ some k = Value.ownBlock u120) → w.heap.size ≤ k := (cv_or (cv_eq z70) (cv_or (cv_own o117.geO) (cv_own o121.geO)))
 refine ol_op (opv_call rfl cal77 (ac rfl (ac rfl (ac rfl an))) (root_Lay.ok fu _ (⟨t113.cells, (⟨t113.plan.list, t128.plan.at_⟩ : S_pmem_plan), t128.off, t128.armed, t128.left, t128.steps⟩ : S_pmem_Device) G69 u116 (Own.base o117 (Nat.zero_le _)) u120 (Own.base o121 (Nat.zero_le _)) b71 (Int.tmod (IntKind.i64.wrap a1.Steps) 2) (⟨(Arr.get a0 2).Epoch, (⟨(((Arr.get a0 2).Tickets).Geometry), ((Arr.get a0 2).Tickets).Top, ((Arr.get a0 2).Tickets).High, ((Arr.get a0 2).Tickets).Free⟩ : S_api_Tickets), (Arr.get a0 2).Dir, (Arr.get a0 2).Charts⟩ : S_api_Super) (nthV C_0 (Int.toNat 2 * 9 + 8)) ((M_api_Super (i := 2) E_0 (by decide) (by decide)).2.gr fB) (OffR.new (M_api_Super (i := 2) E_0 (by decide) (by decide)).2 z70 rfl) (OffRV.call (M_api_Super (i := 2) E_0 (by decide) (by decide)).2 o117 rfl) (OffRV.call (M_api_Super (i := 2) E_0 (by decide) (by decide)).2 o121 rfl) _ k135)) rfl rfl rfl ?_
 rintro _ w148 ⟨u137, u141, o138, m139, o142, m143, rfl, b71, q136⟩
 have o138 := Own.rebase o138 (fun g hg => (m139 g hg).elim (fun x => Nat.le_trans fB.size x) (c147 g))
 have o142 := Own.rebase o142 (fun g hg => (m143 g hg).elim (fun x => Nat.le_trans fB.size x) (c147 g))
 have b2 := b2.fr q136 f145
 have b8 := b8.fr q136 f146
 have fB := fB.call q136 (fun k h => .inl (c147 k h))
 refine ol_val (v := .int .i64 t134.1) (xr_assign rfl rfl) rfl rfl rfl ?_
 refine ol_nil ?_
 refine cw_seq ?_
 refine cw_region ?_
 refine ol_val (v := (pt G69 0)) (xr_move rfl rfl) rfl rfl rfl ?_
 refine ol_val (v := (pt G7 2)) (xr_fieldAddr (p := 0) (q := 2) rfl fl129_2 e3) rfl rfl rfl ?_
 refine ol_val (v := V1_1) (xr_load1 (v := V1_1) rfl ag25 rfl (b8.seg 2 rfl rfl)) rfl rfl rfl ?_
 obtain ⟨t149, k150, h⟩ := bs h
 have f160 := (nb_or n79 (nb_or (nb_off (off_ty b2 o138 (by decide))) (nb_off (off_ty b2 o142 (by decide)))))
 have c161 : ∀ k, (k = G69 ∨ some k = Value.ownBlock u137 ∨ some k = Value.ownBlock u141) → w.heap.size ≤ k := (cv_or (cv_eq z70) (cv_or (cv_own o138.geO) (cv_own o142.geO)))
 refine ol_op (opv_call rfl cal32 (ac rfl (ac rfl an)) (pmem_Device_Crash.ok fu _ t134.2 G69 u137 (Own.base o138 (Nat.zero_le _)) u141 (Own.base o142 (Nat.zero_le _)) b71 a1.L V1_1 (R1_1.gr fB) (OffR.new R1_1 z70 rfl) (OffRV.call R1_1 o138 rfl) (OffRV.call R1_1 o142 rfl) _ k150)) rfl rfl rfl ?_
 rintro _ w162 ⟨u152, u156, o153, m154, o157, m158, rfl, b71, q151⟩
 have o153 := Own.rebase o153 (fun g hg => (m154 g hg).elim (fun x => Nat.le_trans fB.size x) (c161 g))
 have o157 := Own.rebase o157 (fun g hg => (m158 g hg).elim (fun x => Nat.le_trans fB.size x) (c161 g))
 have b2 := b2.fr q151 f160
 have fB := fB.call q151 (fun k h => .inl (c161 k h))
 refine ol_nil ?_
 refine cw_seq ?_
 refine cw_region ?_
 refine ol_val (v := (pt G69 0)) (xr_move rfl rfl) rfl rfl rfl ?_
 obtain ⟨t163, k164, h⟩ := bs h
 refine ol_op (opv_call rfl cal72 (ac rfl an) (root_Pick.ok fu _ t149 G69 u152 (o153.rd) u156 (o157.rd) b71 _ k164)) rfl rfl rfl ?_
 rintro _ w169 ⟨u165, o166, rfl, q168⟩
 have o166 := Own.base o166 fB.size
 have b2 := b2.gr q168
 have fB := fB.gr q168
 refine ol_val (v := .tuple #[aggV [(sI t163.1.Epoch), (sI t163.1.Tickets.Geometry.Blocks), (sI t163.1.Tickets.Geometry.Slots), (sI t163.1.Tickets.Geometry.Gens), (sI t163.1.Tickets.Top), (sI t163.1.Tickets.High), (sI t163.1.Tickets.Free), (sI t163.1.Dir), Seg.cell u165 o166.one], .int .i64 t163.2.1, .bool t163.2.2]) (xr_move rfl rfl) rfl rfl rfl ?_
 refine ol_val (v := aggV [(sI t163.1.Epoch), (sI t163.1.Tickets.Geometry.Blocks), (sI t163.1.Tickets.Geometry.Slots), (sI t163.1.Tickets.Geometry.Gens), (sI t163.1.Tickets.Top), (sI t163.1.Tickets.High), (sI t163.1.Tickets.Free), (sI t163.1.Dir), Seg.cell u165 o166.one]) (xr_extract rfl rfl rfl) rfl rfl rfl ?_
 refine ol_val (v := .int .i64 t163.2.1) (xr_extract rfl rfl rfl) rfl rfl rfl ?_
 refine ol_val (v := .bool t163.2.2) (xr_extract rfl rfl rfl) rfl rfl rfl ?_
 refine ol_op (opv_alloc (ss := [(sI (0 : Int)), (sI (0 : Int)), (sI (0 : Int)), (sI (0 : Int)), (sI (0 : Int)), (sI (0 : Int)), (sI (0 : Int)), (sI (0 : Int)), Seg.cell (.slice none 0 0) (by rfl)]) rfl ze110 rfl) rfl rfl rfl ?_
 rintro _ w175 ⟨G170, rfl, b171, q172, z173⟩
 have n176 := b2.ne z173
 have z173 := Nat.le_trans fB.size z173
 have b2 := b2.gr q172
 have o166 := o166.gr q172
 have fB := fB.gr q172
 have f178 := off_ty b171 o166 (by decide)
 refine ol_op0 (opv_store (ss' := [(sI t163.1.Epoch), (sI t163.1.Tickets.Geometry.Blocks), (sI t163.1.Tickets.Geometry.Slots), (sI t163.1.Tickets.Geometry.Gens), (sI t163.1.Tickets.Top), (sI t163.1.Tickets.High), (sI t163.1.Tickets.Free), (sI t163.1.Dir), Seg.cell u165 o166.one]) (xs := cellsOf [(sI t163.1.Epoch), (sI t163.1.Tickets.Geometry.Blocks), (sI t163.1.Tickets.Geometry.Slots), (sI t163.1.Tickets.Geometry.Gens), (sI t163.1.Tickets.Top), (sI t163.1.Tickets.High), (sI t163.1.Tickets.Free), (sI t163.1.Dir), Seg.cell u165 o166.one]) rfl sz110 rfl rfl rfl (len_cellsOf _) (one_cellsOf _) b171 (Spl.segs _ 0 9 [(sI t163.1.Epoch), (sI t163.1.Tickets.Geometry.Blocks), (sI t163.1.Tickets.Geometry.Slots), (sI t163.1.Tickets.Geometry.Gens), (sI t163.1.Tickets.Top), (sI t163.1.Tickets.High), (sI t163.1.Tickets.Free), (sI t163.1.Dir), Seg.cell u165 o166.one] rfl rfl)) rfl rfl ?_
 rintro _ w179 ⟨b171, q177⟩
 have b2 := b2.wr q177 n176
 have o166 := o166.wr q177 f178
 have fB := fB.wr q177 z173
 refine ol_val (v := .int .i64 t163.2.1) (xr_assign rfl rfl) rfl rfl rfl ?_
 refine ol_val (v := .bool t163.2.2) (xr_assign rfl rfl) rfl rfl rfl ?_
 refine ol_nil ?_
 refine cw_seq ?_
 refine cw_seq ?_
 refine cw_mid (fun ρ' w' => ρ' 2 = (pt G1 0) ∧ ρ' 6 = .int .i64 (Int.tmod (IntKind.i64.wrap a1.Steps) 2) ∧ ρ' 9 = .int .i64 t134.1 ∧ ρ' 10 = (pt G170 0) ∧ ρ' 11 = .int .i64 t163.2.1 ∧ ρ' 12 = .bool t163.2.2 ∧ ρ' 112 = .bool (if t163.2.2 = true then (decide (t163.2.1 = (Int.tmod (IntKind.i64.wrap a1.Steps) 2))) else false) ∧ w179 = w') ?_ ?_
 ·skip
  refine cw_region ?_
  refine ol_val (v := .bool t163.2.2) (xr_move rfl rfl) rfl rfl rfl ?_
  refine ol_val (v := .bool t163.2.2) (xr_move rfl rfl) rfl rfl rfl ?_
  rcases bt t163.2.2 with c180 | c180
  ·skip
   refine ol_gval (v := .int .i64 t163.2.1) (xr_move rfl rfl) rfl rfl rfl rfl rfl c180 ?_
   refine ol_gval (v := .int .i64 (Int.tmod (IntKind.i64.wrap a1.Steps) 2)) (xr_move rfl rfl) rfl rfl rfl rfl rfl c180 ?_
   refine ol_gval (v := .bool (decide (t163.2.1 = (Int.tmod (IntKind.i64.wrap a1.Steps) 2)))) (xr_eqI rfl Try.underlying3 rfl rfl rfl) rfl rfl rfl rfl rfl c180 ?_
   refine ol_val (v := .bool (decide (t163.2.1 = (Int.tmod (IntKind.i64.wrap a1.Steps) 2)))) (xr_pickT rfl rfl c180 rfl) rfl rfl rfl ?_
   refine ol_nil ?_
   refine thn_i ?_
   exact ⟨e2, rfl, rfl, rfl, rfl, rfl, (rfl).trans (congrArg (fun z => (.bool z : Value)) (show (decide (t163.2.1 = (Int.tmod (IntKind.i64.wrap a1.Steps) 2))) = (if t163.2.2 = true then (decide (t163.2.1 = (Int.tmod (IntKind.i64.wrap a1.Steps) 2))) else false) from by rw [ite_t c180])), rfl⟩
  refine ol_gskip rfl rfl rfl rfl rfl c180 ?_
  refine ol_gskip rfl rfl rfl rfl rfl c180 ?_
  refine ol_gskip rfl rfl rfl rfl rfl c180 ?_
  refine ol_val (v := .bool false) (xr_pickF rfl rfl c180 rfl) rfl rfl rfl ?_
  refine ol_nil ?_
  refine thn_i ?_
  exact ⟨e2, rfl, rfl, rfl, rfl, rfl, (rfl).trans (congrArg (fun z => (.bool z : Value)) (show false = (if t163.2.2 = true then (decide (t163.2.1 = (Int.tmod (IntKind.i64.wrap a1.Steps) 2))) else false) from by rw [ite_f c180])), rfl⟩
 rintro ρ181 _ ⟨e2, e6, e9, e10, e11, e12, e112, rfl⟩
 rcases is h with ⟨c182, h⟩ | ⟨c182, h⟩
 ·refine cw_condT e112 c182 ?_
  refine cw_seq ?_
  refine cw_region ?_
  refine ol_val (v := aggV [(sI t163.1.Epoch), (sI t163.1.Tickets.Geometry.Blocks), (sI t163.1.Tickets.Geometry.Slots), (sI t163.1.Tickets.Geometry.Gens), (sI t163.1.Tickets.Top), (sI t163.1.Tickets.High), (sI t163.1.Tickets.Free), (sI t163.1.Dir), Seg.cell u165 o166.one]) (xr_loadS (ss := [(sI t163.1.Epoch), (sI t163.1.Tickets.Geometry.Blocks), (sI t163.1.Tickets.Geometry.Slots), (sI t163.1.Tickets.Geometry.Gens), (sI t163.1.Tickets.Top), (sI t163.1.Tickets.High), (sI t163.1.Tickets.Free), (sI t163.1.Dir), Seg.cell u165 o166.one]) rfl ag110 sz110 rfl e10 (b171.segs 0 9 rfl)) rfl rfl rfl ?_
  refine ol_val (v := (pt G1 (0 + Int.toNat 2 * 9))) (xr_indexA (p := 0) (s := 9) rfl Try.underlying127 sz110 e2 rfl (by decide) (by decide)) rfl rfl rfl ?_
  refine ol_val (v := aggV [(sI ((Arr.get a0 2).Epoch)), (sI ((((Arr.get a0 2).Tickets).Geometry).Blocks)), (sI ((((Arr.get a0 2).Tickets).Geometry).Slots)), (sI ((((Arr.get a0 2).Tickets).Geometry).Gens)), (sI (((Arr.get a0 2).Tickets).Top)), (sI (((Arr.get a0 2).Tickets).High)), (sI (((Arr.get a0 2).Tickets).Free)), (sI ((Arr.get a0 2).Dir)), Seg.cell (nthV C_0 (Int.toNat 2 * 9 + 8)) (M_api_Super (i := 2) E_0 (by decide) (by decide)).2.one]) (xr_loadS (ss := [(sI ((Arr.get a0 2).Epoch)), (sI ((((Arr.get a0 2).Tickets).Geometry).Blocks)), (sI ((((Arr.get a0 2).Tickets).Geometry).Slots)), (sI ((((Arr.get a0 2).Tickets).Geometry).Gens)), (sI (((Arr.get a0 2).Tickets).Top)), (sI (((Arr.get a0 2).Tickets).High)), (sI (((Arr.get a0 2).Tickets).Free)), (sI ((Arr.get a0 2).Dir)), Seg.cell (nthV C_0 (Int.toNat 2 * 9 + 8)) (M_api_Super (i := 2) E_0 (by decide) (by decide)).2.one]) rfl ag110 sz110 rfl rfl (At.chunk (b2.seg 0 rfl rfl) (M_api_Super (i := 2) E_0 (by decide) (by decide)).1)) rfl rfl rfl ?_
  obtain ⟨t183, k184, h⟩ := bs h
  refine ol_op (opv_call rfl cal74 (ac rfl (ac rfl an)) (rickyardref13_Same.ok fu _ t163.1 u165 (o166.rd) (⟨(Arr.get a0 2).Epoch, (⟨(((Arr.get a0 2).Tickets).Geometry), ((Arr.get a0 2).Tickets).Top, ((Arr.get a0 2).Tickets).High, ((Arr.get a0 2).Tickets).Free⟩ : S_api_Tickets), (Arr.get a0 2).Dir, (Arr.get a0 2).Charts⟩ : S_api_Super) (nthV C_0 (Int.toNat 2 * 9 + 8)) ((M_api_Super (i := 2) E_0 (by decide) (by decide)).2.gr fB) _ k184)) rfl rfl rfl ?_
  rintro _ w186 ⟨rfl, q185⟩
  have fB := fB.gr q185
  refine ol_val (v := .bool t183) (xr_assign rfl rfl) rfl rfl rfl ?_
  refine ol_nil ?_
  refine cw_ret ?_
  repeat (first | with_reducible refine thn_r ?_ | with_reducible refine blk_r ?_)
  obtain rfl := Option.some.inj h
  refine fin_ret1 Try.results21 rfl ?_
  exact ⟨_, rfl, rfl, fB⟩
 refine cw_condF e112 c182 ?_
 refine cw_skip ?_
 refine cw_seq ?_
 obtain ⟨x187, j188, h⟩ := bs h
 refine cw_mid (fun ρ' w' => ρ' 4 = .bool x187 ∧ Gr w179 w') ?_ ?_
 ·skip
  refine cw_region ?_
  refine ol_val (v := .bool t163.2.2) (xr_move rfl e12) rfl rfl rfl ?_
  refine ol_val (v := .bool t163.2.2) (xr_move rfl rfl) rfl rfl rfl ?_
  rcases is j188 with ⟨c189, j188⟩ | ⟨c189, j188⟩
  ·skip
   refine ol_gval (v := .int .i64 t163.2.1) (xr_move rfl e11) rfl rfl rfl rfl rfl c189 ?_
   refine ol_gval (v := .int .i64 (Int.tmod (IntKind.i64.wrap a1.Steps) 2)) (xr_move rfl e6) rfl rfl rfl rfl rfl c189 ?_
   refine ol_gval (v := .int .i64 (IntKind.i64.wrap (1 - (Int.tmod (IntKind.i64.wrap a1.Steps) 2)))) (xr_sub rfl rfl rfl) rfl rfl rfl rfl rfl c189 ?_
   refine ol_gval (v := .bool (decide (t163.2.1 = (IntKind.i64.wrap (1 - (Int.tmod (IntKind.i64.wrap a1.Steps) 2)))))) (xr_eqI rfl Try.underlying3 rfl rfl rfl) rfl rfl rfl rfl rfl c189 ?_
   refine ol_val (v := .bool (decide (t163.2.1 = (IntKind.i64.wrap (1 - (Int.tmod (IntKind.i64.wrap a1.Steps) 2)))))) (xr_pickT rfl rfl c189 rfl) rfl rfl rfl ?_
   refine ol_val (v := .bool (decide (t163.2.1 = (IntKind.i64.wrap (1 - (Int.tmod (IntKind.i64.wrap a1.Steps) 2)))))) (xr_move rfl rfl) rfl rfl rfl ?_
   rcases is j188 with ⟨c190, j188⟩ | ⟨c190, j188⟩
   ·skip
    refine ol_gval (v := .int .i64 t134.1) (xr_move rfl e9) rfl rfl rfl rfl rfl c190 ?_
    refine ol_gval (v := .bool (!decide (t134.1 = 0))) (xr_neI rfl Try.underlying31 rfl rfl rfl) rfl rfl rfl rfl rfl c190 ?_
    refine ol_val (v := .bool (!decide (t134.1 = 0))) (xr_pickT rfl rfl c190 rfl) rfl rfl rfl ?_
    refine ol_val (v := .bool (!decide (t134.1 = 0))) (xr_move rfl rfl) rfl rfl rfl ?_
    rcases is j188 with ⟨c191, j188⟩ | ⟨c191, j188⟩
    ·skip
     refine ol_gval (v := aggV [(sI t163.1.Epoch), (sI t163.1.Tickets.Geometry.Blocks), (sI t163.1.Tickets.Geometry.Slots), (sI t163.1.Tickets.Geometry.Gens), (sI t163.1.Tickets.Top), (sI t163.1.Tickets.High), (sI t163.1.Tickets.Free), (sI t163.1.Dir), Seg.cell u165 o166.one]) (xr_loadS (ss := [(sI t163.1.Epoch), (sI t163.1.Tickets.Geometry.Blocks), (sI t163.1.Tickets.Geometry.Slots), (sI t163.1.Tickets.Geometry.Gens), (sI t163.1.Tickets.Top), (sI t163.1.Tickets.High), (sI t163.1.Tickets.Free), (sI t163.1.Dir), Seg.cell u165 o166.one]) rfl ag110 sz110 rfl e10 (b171.segs 0 9 rfl)) rfl rfl rfl rfl rfl c191 ?_
     refine ol_gval (v := (pt G1 (0 + Int.toNat 1 * 9))) (xr_indexA (p := 0) (s := 9) rfl Try.underlying127 sz110 e2 rfl (by decide) (by decide)) rfl rfl rfl rfl rfl c191 ?_
     refine ol_gval (v := aggV [(sI ((Arr.get a0 1).Epoch)), (sI ((((Arr.get a0 1).Tickets).Geometry).Blocks)), (sI ((((Arr.get a0 1).Tickets).Geometry).Slots)), (sI ((((Arr.get a0 1).Tickets).Geometry).Gens)), (sI (((Arr.get a0 1).Tickets).Top)), (sI (((Arr.get a0 1).Tickets).High)), (sI (((Arr.get a0 1).Tickets).Free)), (sI ((Arr.get a0 1).Dir)), Seg.cell (nthV C_0 (Int.toNat 1 * 9 + 8)) (M_api_Super (i := 1) E_0 (by decide) (by decide)).2.one]) (xr_loadS (ss := [(sI ((Arr.get a0 1).Epoch)), (sI ((((Arr.get a0 1).Tickets).Geometry).Blocks)), (sI ((((Arr.get a0 1).Tickets).Geometry).Slots)), (sI ((((Arr.get a0 1).Tickets).Geometry).Gens)), (sI (((Arr.get a0 1).Tickets).Top)), (sI (((Arr.get a0 1).Tickets).High)), (sI (((Arr.get a0 1).Tickets).Free)), (sI ((Arr.get a0 1).Dir)), Seg.cell (nthV C_0 (Int.toNat 1 * 9 + 8)) (M_api_Super (i := 1) E_0 (by decide) (by decide)).2.one]) rfl ag110 sz110 rfl rfl (At.chunk (b2.seg 0 rfl rfl) (M_api_Super (i := 1) E_0 (by decide) (by decide)).1)) rfl rfl rfl rfl rfl c191 ?_
     obtain ⟨t192, k193, j188⟩ := bs j188
     refine ol_gop (opv_call rfl cal74 (ac rfl (ac rfl an)) (rickyardref13_Same.ok fu _ t163.1 u165 (o166.rd) (⟨(Arr.get a0 1).Epoch, (⟨(((Arr.get a0 1).Tickets).Geometry), ((Arr.get a0 1).Tickets).Top, ((Arr.get a0 1).Tickets).High, ((Arr.get a0 1).Tickets).Free⟩ : S_api_Tickets), (Arr.get a0 1).Dir, (Arr.get a0 1).Charts⟩ : S_api_Super) (nthV C_0 (Int.toNat 1 * 9 + 8)) ((M_api_Super (i := 1) E_0 (by decide) (by decide)).2.gr fB) _ k193)) rfl rfl rfl rfl rfl c191 ?_
     rintro _ w195 ⟨rfl, q194⟩
     have fB := fB.gr q194
     refine ol_val (v := .bool t192) (xr_pickT rfl rfl c191 rfl) rfl rfl rfl ?_
     refine ol_val (v := .bool t192) (xr_assign rfl rfl) rfl rfl rfl ?_
     refine ol_nil ?_
     obtain rfl := Option.some.inj j188
     refine thn_i ?_
     exact ⟨rfl, q194⟩
    refine ol_gskip rfl rfl rfl rfl rfl c191 ?_
    refine ol_gskip rfl rfl rfl rfl rfl c191 ?_
    refine ol_gskip rfl rfl rfl rfl rfl c191 ?_
    refine ol_gskip rfl rfl rfl rfl rfl c191 ?_
    refine ol_val (v := .bool false) (xr_pickF rfl rfl c191 rfl) rfl rfl rfl ?_
    refine ol_val (v := .bool false) (xr_assign rfl rfl) rfl rfl rfl ?_
    refine ol_nil ?_
    obtain rfl := Option.some.inj j188
    refine thn_i ?_
    exact ⟨rfl, Fr.refl _ _⟩
   refine ol_gskip rfl rfl rfl rfl rfl c190 ?_
   refine ol_gskip rfl rfl rfl rfl rfl c190 ?_
   refine ol_val (v := .bool false) (xr_pickF rfl rfl c190 rfl) rfl rfl rfl ?_
   refine ol_val (v := .bool false) (xr_move rfl rfl) rfl rfl rfl ?_
   refine ol_gskip rfl rfl rfl rfl rfl rfl ?_
   refine ol_gskip rfl rfl rfl rfl rfl rfl ?_
   refine ol_gskip rfl rfl rfl rfl rfl rfl ?_
   refine ol_gskip rfl rfl rfl rfl rfl rfl ?_
   refine ol_val (v := .bool false) (xr_pickF rfl rfl rfl rfl) rfl rfl rfl ?_
   refine ol_val (v := .bool false) (xr_assign rfl rfl) rfl rfl rfl ?_
   refine ol_nil ?_
   obtain rfl := Option.some.inj j188
   refine thn_i ?_
   exact ⟨rfl, Fr.refl _ _⟩
  refine ol_gskip rfl rfl rfl rfl rfl c189 ?_
  refine ol_gskip rfl rfl rfl rfl rfl c189 ?_
  refine ol_gskip rfl rfl rfl rfl rfl c189 ?_
  refine ol_gskip rfl rfl rfl rfl rfl c189 ?_
  refine ol_val (v := .bool false) (xr_pickF rfl rfl c189 rfl) rfl rfl rfl ?_
  refine ol_val (v := .bool false) (xr_move rfl rfl) rfl rfl rfl ?_
  refine ol_gskip rfl rfl rfl rfl rfl rfl ?_
  refine ol_gskip rfl rfl rfl rfl rfl rfl ?_
  refine ol_val (v := .bool false) (xr_pickF rfl rfl rfl rfl) rfl rfl rfl ?_
  refine ol_val (v := .bool false) (xr_move rfl rfl) rfl rfl rfl ?_
  refine ol_gskip rfl rfl rfl rfl rfl rfl ?_
  refine ol_gskip rfl rfl rfl rfl rfl rfl ?_
  refine ol_gskip rfl rfl rfl rfl rfl rfl ?_
  refine ol_gskip rfl rfl rfl rfl rfl rfl ?_
  refine ol_val (v := .bool false) (xr_pickF rfl rfl rfl rfl) rfl rfl rfl ?_
  refine ol_val (v := .bool false) (xr_assign rfl rfl) rfl rfl rfl ?_
  refine ol_nil ?_
  obtain rfl := Option.some.inj j188
  refine thn_i ?_
  exact ⟨rfl, Fr.refl _ _⟩
 rintro ρ196 w197 ⟨e4, q198⟩
 have fB := fB.gr q198
 refine cw_ret ?_
 repeat (first | with_reducible refine thn_r ?_ | with_reducible refine blk_r ?_)
 obtain rfl := Option.some.inj h
 refine fin_ret1 Try.results21 e4 ?_
 exact ⟨_, rfl, rfl, fB⟩
end Go.Proofs.Ytklhbaghbmndeaa
namespace Go.Xw
open Go
variable {P : Program} {w : World}
def Opn {α : Type} (P : Program) (w : World) (T : TypeId) (K : Kd α) (ok : α → Prop) : Prop :=
  ∀ {H : Type} (enc : TypeId × Value → H) (base : Nat) (sp : Nat → Bool) (held : Bool) (fuel : Nat) (cs : List Value) (x : DataW H × List MemPlace), DataW.trod enc P w base sp held fuel T cs = some x → ∃ a : α, cs = K.enc a ∧ ok a
theorem opn_int {T : TypeId} {k : IntKind} (ht : P.underlying T = some (.int k)) : Opn P w T (kI k) (fun n => (Lit.int k n).wf = true) := by
  intro H enc base sp held fuel cs x h
  obtain ⟨n, rfl, _, hw⟩ := DataW.trod_int ht h
  exact ⟨n, rfl, hw⟩
theorem ms_len {α β : Type} {f : α → Option β} : ∀ {l : List α} {ys : List β}, l.mapM f = some ys → ys.length = l.length
  | [], ys, h => by simp at h; subst h; rfl
  | a :: l, ys, h => by
    rw [List.mapM_cons] at h
    obtain ⟨b, _, h⟩ := Option.bind_eq_some_iff.1 h
    obtain ⟨bs, hb, h⟩ := Option.bind_eq_some_iff.1 h
    simp at h
    subst h
    simp [ms_len hb]
theorem ms_get {α β : Type} {f : α → Option β} : ∀ {l : List α} {ys : List β}, l.mapM f = some ys → ∀ (i : Nat) (a : α), l[i]? = some a → ∃ y, ys[i]? = some y ∧ f a = some y
  | [], ys, h, i, a, ha => by simp at ha
  | b :: l, ys, h, i, a, ha => by
    rw [List.mapM_cons] at h
    obtain ⟨c, hc, h⟩ := Option.bind_eq_some_iff.1 h
    obtain ⟨bs, hb, h⟩ := Option.bind_eq_some_iff.1 h
    simp at h
    subst h
    cases i with
    | zero =>
      simp at ha
      subst ha
      exact ⟨c, rfl, hc⟩
    | succ i =>
      simp at ha
      obtain ⟨y, h1, h2⟩ := ms_get hb i a ha
      exact ⟨y, by simpa using h1, h2⟩
theorem trod_arr {H : Type} {enc : TypeId × Value → H} {base : Nat} {sp : Nat → Bool} {held : Bool} {fuel : Nat} {T e : TypeId} {n : Nat} {cs : List Value} {x : DataW H × List MemPlace} (ht : P.underlying T = some (.array n e)) (h : DataW.trod enc P w base sp held fuel T cs = some x) :
    cs.length = P.cellsOf T ∧ ∃ m, ∀ i, i < n → ∃ y, DataW.trod enc P w base sp held m e ((cs.drop (i * P.cellsOf e)).take (P.cellsOf e)) = some y := by
  cases fuel with
  | zero => simp [DataW.trod] at h
  | succ m =>
    unfold DataW.trod at h
    rw [ht] at h
    simp only at h
    split at h
    · rename_i hl
      refine ⟨hl, m, fun i hi => ?_⟩
      obtain ⟨xs, hx, _⟩ := Option.map_eq_some_iff.1 h
      obtain ⟨y, _, hy⟩ := ms_get hx i i (by simp [hi])
      exact ⟨y, hy⟩
    · cases h
theorem fld_cons {cs : List Value} {o n : Nat} {c r : List Value} (h : (cs.drop o).take n = c) (hr : cs.drop (o + n) = r) : cs.drop o = c ++ r := by
  rw [← h, ← hr, ← List.drop_drop, List.take_append_drop]
theorem trod_st {H : Type} {enc : TypeId × Value → H} {base : Nat} {sp : Nat → Bool} {held : Bool} {fuel : Nat} {T : TypeId} {fs : Array Field} {cs : List Value} {x : DataW H × List MemPlace} (ht : P.underlying T = some (.struct fs)) (h : DataW.trod enc P w base sp held fuel T cs = some x) :
    cs.length = P.cellsOf T ∧ ∃ m, ∀ (i : Nat) (f : Field), fs[i]? = some f → ∃ y, DataW.trod enc P w base sp held m f.type ((cs.drop f.offset).take (P.cellsOf f.type)) = some y := by
  obtain ⟨xs, m, _, _, hl, hn, hf⟩ := DataW.trod_struct ht h
  refine ⟨hl, m, fun i f hi => ?_⟩
  have hx : i < xs.length := by rw [hn]; exact (Array.getElem?_eq_some_iff.1 hi).1
  exact ⟨xs[i], by rw [hf i f hi, List.getElem?_eq_getElem hx]⟩
def OpnS {α : Type} (P : Program) (w : World) (T : TypeId) (K : Kd α) (ok : α → Prop) : Prop :=
  ∀ {H : Type} (enc : TypeId × Value → H) (base : Nat) (sp : Nat → Bool) (held : Bool) (fuel : Nat) (cs : List Value) (x : DataW H × List MemPlace), DataW.trod enc P w base sp held fuel T cs = some x → ∃ (l : List α) (V : Value), cs = [V] ∧ Rd K w V l ∧ (∀ a ∈ l, ok a) ∧ l.length ≤ maxLen ∧ (sb V < w.heap.size ∨ l = [])
theorem cells_get {base : Nat} {a : Addr} {n : Nat} {cs : List Value} (h : w.cells? base a n = some cs) : cs.length = n ∧ ∀ j, j < n → w.cell? (a.add j) = cs[j]? := by
  unfold World.cells? at h
  split at h
  · refine ⟨by simpa using ms_len h, fun j hj => ?_⟩
    obtain ⟨y, h1, h2⟩ := ms_get h j j (by simp [hj])
    rw [h1, h2]
  · cases h
theorem opn_slice {α : Type} {K : Kd α} {ok : α → Prop} {T e : TypeId} (ht : P.underlying T = some (.slice e)) (he : P.cellsOf e = K.size) (hk : 0 < K.size) (ho : Opn P w e K ok) : OpnS P w T K ok := by
  intro H enc base sp held fuel cs x h
  rcases DataW.trod_slice ht h with ⟨rfl, _⟩ | ⟨a, len, cap, elems, rest, n, rfl, rfl, _, _, hl, hm, hlen, hel, _, _⟩
  · exact ⟨[], _, rfl, Rd.nil K w, by simp, by simp, .inr rfl⟩
  · have hex : ∀ i, i < len → ∃ b, (∀ j z, (K.enc b)[j]? = some z → w.cell? (a.add (i * K.size + j)) = some z) ∧ ok b := by
      intro i hi
      have h1 := hel i hi
      rw [List.getElem?_eq_getElem (by omega)] at h1
      obtain ⟨cs, h2, h3⟩ := Option.bind_eq_some_iff.1 h1
      obtain ⟨b, rfl, hb⟩ := ho enc base sp held n cs _ h3
      obtain ⟨h4, h5⟩ := cells_get h2
      rw [he] at h4 h5
      refine ⟨b, fun j z hz => ?_, hb⟩
      have hj : j < K.size := by rw [← h4]; exact (List.getElem?_eq_some_iff.1 hz).1
      have := h5 j hj
      rw [hz] at this
      rw [← this]
      congr 1
      unfold Addr.add
      by_cases hi0 : i * K.size = 0
      · by_cases hj0 : j = 0
        · simp [hi0, hj0]
        · simp [hi0, hj0]
      · by_cases hj0 : j = 0
        · simp [hi0, hj0]
        · have : i * K.size + j ≠ 0 := by omega
          simp [hi0, hj0, this, Nat.add_assoc]
    have hlist : ∀ m, m ≤ len → ∃ l : List α, l.length = m ∧ (∀ b ∈ l, ok b) ∧ ∀ j z, (l.flatMap K.enc)[j]? = some z → w.cell? (a.add j) = some z := by
      intro m
      induction m with
      | zero => intro _; exact ⟨[], rfl, by simp, by simp⟩
      | succ m ih =>
        intro hm
        obtain ⟨l, h1, h2, h3⟩ := ih (by omega)
        obtain ⟨b, h4, h5⟩ := hex m (by omega)
        refine ⟨l ++ [b], by simp [h1], ?_, ?_⟩
        · intro c hc
          rcases List.mem_append.1 hc with hc | hc
          · exact h2 c hc
          · obtain rfl := List.mem_singleton.1 hc
            exact h5
        · intro j z hz
          have hL : (l.flatMap K.enc).length = m * K.size := by rw [len_flat, h1]
          simp only [List.flatMap_append, List.flatMap_cons, List.flatMap_nil, List.append_nil] at hz
          by_cases hj : j < m * K.size
          · rw [List.getElem?_append_left (by omega)] at hz
            exact h3 j z hz
          · rw [List.getElem?_append_right (by omega), hL] at hz
            have := h4 (j - m * K.size) z hz
            rwa [show m * K.size + (j - m * K.size) = j from by omega] at this
    obtain ⟨l, h1, h2, h3⟩ := hlist len (Nat.le_refl _)
    have hpos : 0 < l.length → ∃ z, w.cell? a = some z := by
      intro hp
      cases l with
      | nil => simp at hp
      | cons b l =>
        have hb : (K.enc b).length = K.size := K.len b
        have : ∃ z, ((b :: l).flatMap K.enc)[0]? = some z := ⟨_, List.getElem?_eq_getElem (by simp [List.flatMap_cons, hb]; omega)⟩
        obtain ⟨z, hz⟩ := this
        have := h3 0 z hz
        exact ⟨z, by simpa [Addr.add] using this⟩
    refine ⟨l, _, rfl, ⟨some a, cap, by rw [h1], by omega, fun hp => ?_⟩, h2, by omega, ?_⟩
    · obtain ⟨z, hz⟩ := hpos hp
      obtain ⟨b, o, s⟩ := a
      have hs : s = none := by
        unfold World.cell? at hz
        split at hz
        · cases s with
          | none => rfl
          | some _ => simp at hz
        · cases hz
      subst hs
      refine ⟨b, o, rfl, fun j v hv => ?_⟩
      have := h3 j v hv
      rwa [Addr.add_lit] at this
    · rcases Nat.eq_zero_or_pos l.length with h0 | hp
      · exact .inr (List.eq_nil_of_length_eq_zero h0)
      · obtain ⟨z, hz⟩ := hpos hp
        refine .inl ?_
        unfold World.cell? at hz
        split at hz
        · rename_i hh
          exact (Array.getElem?_eq_some_iff.1 hh).1
        · cases hz
theorem agg_of {T : TypeId} {v : Value} {cs : List Value} {base : Nat} (h : aggB P T = some true) (hv : Value.okWide P w .any base T v) (hc : v.cells.toList = cs) : v = .agg cs.toArray := by
  unfold aggB at h
  obtain ⟨d, hu, hd⟩ := Option.map_eq_some_iff.1 h
  unfold Value.okWide at hv
  rw [hu] at hv
  cases d <;> simp at hd <;> (obtain ⟨c2, rfl, _⟩ := hv; subst hc; simp [Value.cells])
theorem opn_arrN {P : Program} {w : World} {α : Type} {N n : Nat} {D : World → List Value → α → Prop} {ok : α → Prop} {T e : TypeId} (ht : P.underlying T = some (.array N e)) (hc : P.cellsOf T = N * n) (he : P.cellsOf e = n) (hk : 0 < n)
    (ho : ∀ {H : Type} (enc : TypeId × Value → H) (base : Nat) (sp : Nat → Bool) (held : Bool) (fuel : Nat) (cs : List Value) (x : DataW H × List MemPlace), DataW.trod enc P w base sp held fuel e cs = some x → ∃ a : α, D w cs a ∧ ok a ∧ cs.length = n ∧ ∀ v ∈ cs, v.oneCell' = true)
    {H : Type} (enc : TypeId × Value → H) (base : Nat) (sp : Nat → Bool) (held : Bool) (fuel : Nat) (cs : List Value) (x : DataW H × List MemPlace) (h : DataW.trod enc P w base sp held fuel T cs = some x) :
    ∃ (C : List Value) (a : Arr N α) (E : AtN N n D w C a), cs = cellsOf [AtN.seg E] ∧ ∀ x ∈ a.l, ok x := by
  obtain ⟨hl, m, hm⟩ := trod_arr ht h
  rw [he] at hm
  have hex : ∀ i : Fin N, ∃ a : α, D w ((cs.drop (i.1 * n)).take n) a ∧ ok a ∧ ((cs.drop (i.1 * n)).take n).length = n ∧ ∀ v ∈ (cs.drop (i.1 * n)).take n, v.oneCell' = true := fun i => by
    obtain ⟨y, hy⟩ := hm i.1 i.2
    exact ho enc base sp held m _ y hy
  let f : Fin N → α := fun i => Classical.choose (hex i)
  have hf : ∀ i, D w ((cs.drop (i.1 * n)).take n) (f i) ∧ ok (f i) ∧ ((cs.drop (i.1 * n)).take n).length = n ∧ ∀ v ∈ (cs.drop (i.1 * n)).take n, v.oneCell' = true := fun i => Classical.choose_spec (hex i)
  have h1 : cs.length = N * n := hl.trans hc
  have h2 : ∀ v ∈ cs, v.oneCell' = true := by
    intro v hv
    obtain ⟨k, hk1, rfl⟩ := List.getElem_of_mem hv
    have hkn : k / n < N := (Nat.div_lt_iff_lt_mul hk).2 (by omega)
    refine (hf ⟨k / n, hkn⟩).2.2.2 _ ?_
    have hmod := Nat.mod_lt k hk
    have hdm : k / n * n + k % n = k := by rw [Nat.mul_comm]; exact Nat.div_add_mod k n
    refine List.mem_iff_getElem?.2 ⟨k % n, ?_⟩
    rw [List.getElem?_take, if_pos hmod, List.getElem?_drop, hdm, List.getElem?_eq_getElem hk1]
  refine ⟨cs, ⟨List.ofFn f, by simp⟩, ⟨h1, h2, fun i hi => ?_⟩, by simp [cellsOf, AtN.seg], ?_⟩
  · have hi' : i < N := by simpa using hi
    have := (hf ⟨i, hi'⟩).1
    simpa using this
  · intro y hy
    obtain ⟨i, rfl⟩ := List.mem_ofFn.1 hy
    exact (hf i).2.1
end Go.Xw
namespace Go.Proofs.Ytklhbaghbmndeaa
open Go Go.Xw
def ok_api_Geometry (a : S_api_Geometry) : Prop := (Lit.int .i64 a.Blocks).wf = true ∧ (Lit.int .i64 a.Slots).wf = true ∧ (Lit.int .i64 a.Gens).wf = true
theorem opn_api_Geometry {w : World} : Opn Try.prog w 106 k_api_Geometry ok_api_Geometry := by
  intro H enc base sp held fuel cs x h
  obtain ⟨hl, m, hf⟩ := trod_st Try.underlying106 h
  obtain ⟨y0, h0⟩ := hf 0 _ rfl
  have c0 : Try.prog.cellsOf 3 = 1 := by kernel_rfl
  obtain ⟨b0, e0, o0⟩ := (opn_int Try.underlying3) enc base sp held m _ y0 h0
  have e0 : (cs.drop 0).take 1 = (kI .i64).enc b0 := (congrArg (fun n => (cs.drop 0).take n) c0).symm.trans e0
  obtain ⟨y1, h1⟩ := hf 1 _ rfl
  have c1 : Try.prog.cellsOf 3 = 1 := by kernel_rfl
  obtain ⟨b1, e1, o1⟩ := (opn_int Try.underlying3) enc base sp held m _ y1 h1
  have e1 : (cs.drop 1).take 1 = (kI .i64).enc b1 := (congrArg (fun n => (cs.drop 1).take n) c1).symm.trans e1
  obtain ⟨y2, h2⟩ := hf 2 _ rfl
  have c2 : Try.prog.cellsOf 3 = 1 := by kernel_rfl
  obtain ⟨b2, e2, o2⟩ := (opn_int Try.underlying3) enc base sp held m _ y2 h2
  have e2 : (cs.drop 2).take 1 = (kI .i64).enc b2 := (congrArg (fun n => (cs.drop 2).take n) c2).symm.trans e2
  have hn : cs.drop 3 = [] := List.drop_eq_nil_of_le (by rw [hl]; exact Nat.le_of_eq (by kernel_rfl))
  have hc : cs = (kI .i64).enc b0 ++ ((kI .i64).enc b1 ++ ((kI .i64).enc b2 ++ [])) := (fld_cons (o := 0) (n := 1) e0 (fld_cons (o := 1) (n := 1) e1 (fld_cons (o := 2) (n := 1) e2 hn)))
  refine ⟨⟨b0, b1, b2⟩, ?_, o0, o1, o2⟩
  rw [hc]
  simp [kA, kI, kB, kS, kT, cellsOf, Seg.cell, Kd.seg, k_api_Geometry, k_api_Tickets, segs_api_Geometry, segs_api_Tickets]
def ok_api_Tickets (a : S_api_Tickets) : Prop := ok_api_Geometry a.Geometry ∧ (Lit.int .i64 a.Top).wf = true ∧ (Lit.int .i64 a.High).wf = true ∧ (Lit.int .i64 a.Free).wf = true
theorem opn_api_Tickets {w : World} : Opn Try.prog w 108 k_api_Tickets ok_api_Tickets := by
  intro H enc base sp held fuel cs x h
  obtain ⟨hl, m, hf⟩ := trod_st Try.underlying108 h
  obtain ⟨y0, h0⟩ := hf 0 _ rfl
  have c0 : Try.prog.cellsOf 106 = 3 := by kernel_rfl
  obtain ⟨b0, e0, o0⟩ := (opn_api_Geometry (w := w)) enc base sp held m _ y0 h0
  have e0 : (cs.drop 0).take 3 = k_api_Geometry.enc b0 := (congrArg (fun n => (cs.drop 0).take n) c0).symm.trans e0
  obtain ⟨y1, h1⟩ := hf 1 _ rfl
  have c1 : Try.prog.cellsOf 3 = 1 := by kernel_rfl
  obtain ⟨b1, e1, o1⟩ := (opn_int Try.underlying3) enc base sp held m _ y1 h1
  have e1 : (cs.drop 3).take 1 = (kI .i64).enc b1 := (congrArg (fun n => (cs.drop 3).take n) c1).symm.trans e1
  obtain ⟨y2, h2⟩ := hf 2 _ rfl
  have c2 : Try.prog.cellsOf 3 = 1 := by kernel_rfl
  obtain ⟨b2, e2, o2⟩ := (opn_int Try.underlying3) enc base sp held m _ y2 h2
  have e2 : (cs.drop 4).take 1 = (kI .i64).enc b2 := (congrArg (fun n => (cs.drop 4).take n) c2).symm.trans e2
  obtain ⟨y3, h3⟩ := hf 3 _ rfl
  have c3 : Try.prog.cellsOf 3 = 1 := by kernel_rfl
  obtain ⟨b3, e3, o3⟩ := (opn_int Try.underlying3) enc base sp held m _ y3 h3
  have e3 : (cs.drop 5).take 1 = (kI .i64).enc b3 := (congrArg (fun n => (cs.drop 5).take n) c3).symm.trans e3
  have hn : cs.drop 6 = [] := List.drop_eq_nil_of_le (by rw [hl]; exact Nat.le_of_eq (by kernel_rfl))
  have hc : cs = k_api_Geometry.enc b0 ++ ((kI .i64).enc b1 ++ ((kI .i64).enc b2 ++ ((kI .i64).enc b3 ++ []))) := (fld_cons (o := 0) (n := 3) e0 (fld_cons (o := 3) (n := 1) e1 (fld_cons (o := 4) (n := 1) e2 (fld_cons (o := 5) (n := 1) e3 hn))))
  refine ⟨⟨b0, b1, b2, b3⟩, ?_, o0, o1, o2, o3⟩
  rw [hc]
  simp [kA, kI, kB, kS, kT, cellsOf, Seg.cell, Kd.seg, k_api_Geometry, k_api_Tickets, segs_api_Geometry, segs_api_Tickets]
def ok_api_Super (a : S_api_Super) : Prop := (Lit.int .i64 a.Epoch).wf = true ∧ ok_api_Tickets a.Tickets ∧ (Lit.int .i64 a.Dir).wf = true ∧ ((∀ x ∈ a.Charts, (Lit.int .i64 x).wf = true) ∧ List.length a.Charts ≤ maxLen)
theorem opn_api_Super {w : World} {H : Type} (enc : TypeId × Value → H) (base : Nat) (sp : Nat → Bool) (held : Bool) (fuel : Nat) (cs : List Value) (x : DataW H × List MemPlace) (h : DataW.trod enc Try.prog w base sp held fuel 110 cs = some x) : ∃ a : S_api_Super, ∃ V0 : Value, ∃ R0 : Rd (kI .i64) w V0 a.Charts, cs = cellsOf [Seg.cell (.int .i64 a.Epoch), Seg.cell (.int .i64 a.Tickets.Geometry.Blocks), Seg.cell (.int .i64 a.Tickets.Geometry.Slots), Seg.cell (.int .i64 a.Tickets.Geometry.Gens), Seg.cell (.int .i64 a.Tickets.Top), Seg.cell (.int .i64 a.Tickets.High), Seg.cell (.int .i64 a.Tickets.Free), Seg.cell (.int .i64 a.Dir), Seg.cell V0 R0.one] ∧ ok_api_Super a := by
  obtain ⟨hl, m, hf⟩ := trod_st Try.underlying110 h
  obtain ⟨y0, h0⟩ := hf 0 _ rfl
  have c0 : Try.prog.cellsOf 3 = 1 := by kernel_rfl
  obtain ⟨b0, e0, o0⟩ := (opn_int Try.underlying3) enc base sp held m _ y0 h0
  have e0 : (cs.drop 0).take 1 = (kI .i64).enc b0 := (congrArg (fun n => (cs.drop 0).take n) c0).symm.trans e0
  obtain ⟨y1, h1⟩ := hf 1 _ rfl
  have c1 : Try.prog.cellsOf 108 = 6 := by kernel_rfl
  obtain ⟨b1, e1, o1⟩ := (opn_api_Tickets (w := w)) enc base sp held m _ y1 h1
  have e1 : (cs.drop 1).take 6 = k_api_Tickets.enc b1 := (congrArg (fun n => (cs.drop 1).take n) c1).symm.trans e1
  obtain ⟨y2, h2⟩ := hf 2 _ rfl
  have c2 : Try.prog.cellsOf 3 = 1 := by kernel_rfl
  obtain ⟨b2, e2, o2⟩ := (opn_int Try.underlying3) enc base sp held m _ y2 h2
  have e2 : (cs.drop 7).take 1 = (kI .i64).enc b2 := (congrArg (fun n => (cs.drop 7).take n) c2).symm.trans e2
  obtain ⟨y3, h3⟩ := hf 3 _ rfl
  have c3 : Try.prog.cellsOf 25 = 1 := by kernel_rfl
  obtain ⟨b3, W3, e3, r3, o3, l3, _⟩ := (opn_slice (K := (kI .i64)) Try.underlying25 (by kernel_rfl) (by decide) (opn_int Try.underlying3)) enc base sp held m _ y3 h3
  have e3 : (cs.drop 8).take 1 = [W3] := (congrArg (fun n => (cs.drop 8).take n) c3).symm.trans e3
  have hn : cs.drop 9 = [] := List.drop_eq_nil_of_le (by rw [hl]; exact Nat.le_of_eq (by kernel_rfl))
  have hc : cs = (kI .i64).enc b0 ++ (k_api_Tickets.enc b1 ++ ((kI .i64).enc b2 ++ ([W3] ++ []))) := (fld_cons (o := 0) (n := 1) e0 (fld_cons (o := 1) (n := 6) e1 (fld_cons (o := 7) (n := 1) e2 (fld_cons (o := 8) (n := 1) e3 hn))))
  refine ⟨⟨b0, b1, b2, b3⟩, W3, r3, ?_, o0, o1, o2, ⟨o3, l3⟩⟩
  rw [hc]
  simp [kA, kI, kB, kS, kT, cellsOf, Seg.cell, Kd.seg, k_api_Geometry, k_api_Tickets, segs_api_Geometry, segs_api_Tickets]
def ok_rickyardlaw16_Cut (a : S_rickyardlaw16_Cut) : Prop := (Lit.int .u8 a.Steps).wf = true ∧ ((∀ x ∈ a.Plan, (Lit.int .i64 x).wf = true) ∧ List.length a.Plan ≤ maxLen) ∧ ((∀ x ∈ a.L, (Lit.int .i64 x).wf = true) ∧ List.length a.L ≤ maxLen)
theorem opn_rickyardlaw16_Cut {w : World} {H : Type} (enc : TypeId × Value → H) (base : Nat) (sp : Nat → Bool) (held : Bool) (fuel : Nat) (cs : List Value) (x : DataW H × List MemPlace) (h : DataW.trod enc Try.prog w base sp held fuel 129 cs = some x) : ∃ a : S_rickyardlaw16_Cut, ∃ V0 : Value, ∃ V1 : Value, ∃ R0 : Rd (kI .i64) w V0 a.Plan, ∃ R1 : Rd (kI .i64) w V1 a.L, cs = cellsOf [Seg.cell (.int .u8 a.Steps), Seg.cell V0 R0.one, Seg.cell V1 R1.one] ∧ ok_rickyardlaw16_Cut a := by
  obtain ⟨hl, m, hf⟩ := trod_st Try.underlying129 h
  obtain ⟨y0, h0⟩ := hf 0 _ rfl
  have c0 : Try.prog.cellsOf 5 = 1 := by kernel_rfl
  obtain ⟨b0, e0, o0⟩ := (opn_int Try.underlying5) enc base sp held m _ y0 h0
  have e0 : (cs.drop 0).take 1 = (kI .u8).enc b0 := (congrArg (fun n => (cs.drop 0).take n) c0).symm.trans e0
  obtain ⟨y1, h1⟩ := hf 1 _ rfl
  have c1 : Try.prog.cellsOf 25 = 1 := by kernel_rfl
  obtain ⟨b1, W1, e1, r1, o1, l1, _⟩ := (opn_slice (K := (kI .i64)) Try.underlying25 (by kernel_rfl) (by decide) (opn_int Try.underlying3)) enc base sp held m _ y1 h1
  have e1 : (cs.drop 1).take 1 = [W1] := (congrArg (fun n => (cs.drop 1).take n) c1).symm.trans e1
  obtain ⟨y2, h2⟩ := hf 2 _ rfl
  have c2 : Try.prog.cellsOf 25 = 1 := by kernel_rfl
  obtain ⟨b2, W2, e2, r2, o2, l2, _⟩ := (opn_slice (K := (kI .i64)) Try.underlying25 (by kernel_rfl) (by decide) (opn_int Try.underlying3)) enc base sp held m _ y2 h2
  have e2 : (cs.drop 2).take 1 = [W2] := (congrArg (fun n => (cs.drop 2).take n) c2).symm.trans e2
  have hn : cs.drop 3 = [] := List.drop_eq_nil_of_le (by rw [hl]; exact Nat.le_of_eq (by kernel_rfl))
  have hc : cs = (kI .u8).enc b0 ++ ([W1] ++ ([W2] ++ [])) := (fld_cons (o := 0) (n := 1) e0 (fld_cons (o := 1) (n := 1) e1 (fld_cons (o := 2) (n := 1) e2 hn)))
  refine ⟨⟨b0, b1, b2⟩, W1, W2, r1, r2, ?_, o0, ⟨o1, l1⟩, ⟨o2, l2⟩⟩
  rw [hc]
  simp [kA, kI, kB, kS, kT, cellsOf, Seg.cell, Kd.seg, k_api_Geometry, k_api_Tickets, segs_api_Geometry, segs_api_Tickets]
end Go.Proofs.Ytklhbaghbmndeaa
namespace Go.Proofs.Ytklhbaghbmndeaa.Pure
open Go Go.Xw
def upd {α : Type} (g : Nat → α → α) (lo j : Nat) (cs : List α) : List α := cs.mapIdx fun i c => if lo ≤ i ∧ i < lo + j then g i c else c
theorem upd_len {α : Type} (g : Nat → α → α) (lo j : Nat) (cs : List α) : (upd g lo j cs).length = cs.length := by simp [upd]
theorem upd_zero {α : Type} (g : Nat → α → α) (lo : Nat) (cs : List α) : upd g lo 0 cs = cs := by
  apply List.ext_getElem (by simp [upd])
  intro i h1 h2
  simp only [upd, List.getElem_mapIdx]
  rw [if_neg (by omega)]
theorem upd_get {α : Type} (g : Nat → α → α) (lo j : Nat) (cs : List α) (i : Nat) (h : i < (upd g lo j cs).length) : (upd g lo j cs)[i] = if lo ≤ i ∧ i < lo + j then g i (cs[i]'(by simpa [upd] using h)) else cs[i]'(by simpa [upd] using h) := by
  simp only [upd, List.getElem_mapIdx]
theorem upd_next {α : Type} (g : Nat → α → α) (lo j : Nat) (cs : List α) (h : lo + j < cs.length) : (upd g lo j cs)[lo + j]'(by rw [upd_len]; exact h) = cs[lo + j] := by
  rw [upd_get, if_neg (by omega)]
theorem upd_set {α : Type} (g : Nat → α → α) (lo j : Nat) (cs : List α) (h : lo + j < cs.length) : (upd g lo j cs).set (lo + j) (g (lo + j) cs[lo + j]) = upd g lo (j + 1) cs := by
  apply List.ext_getElem (by simp [upd])
  intro i h1 h2
  rw [List.getElem_set, upd_get g lo (j + 1)]
  by_cases e : lo + j = i
  · subst e
    rw [if_pos rfl, if_pos (by omega)]
  · rw [if_neg e, upd_get]
    by_cases c : lo ≤ i ∧ i < lo + j
    · rw [if_pos c, if_pos (by omega)]
    · rw [if_neg c, if_neg (by omega)]
theorem upd_same {α : Type} (g : Nat → α → α) (lo j : Nat) (cs : List α) (h : lo + j < cs.length) (e : g (lo + j) cs[lo + j] = cs[lo + j]) : upd g lo j cs = upd g lo (j + 1) cs := by
  apply List.ext_getElem (by simp [upd])
  intro i h1 h2
  rw [upd_get g lo j, upd_get g lo (j + 1)]
  by_cases e' : lo + j = i
  · subst e'
    rw [if_neg (by omega), if_pos (by omega), e]
  · by_cases c : lo ≤ i ∧ i < lo + j
    · rw [if_pos c, if_pos (by omega)]
    · rw [if_neg c, if_neg (by omega)]
theorem upd_all {α : Type} (g : Nat → α → α) (cs : List α) : upd g 0 cs.length cs = cs.mapIdx g := by
  apply List.ext_getElem (by simp [upd])
  intro i h1 h2
  rw [upd_get, if_pos ⟨by omega, by rw [upd_len] at h1; omega⟩, List.getElem_mapIdx]
theorem getD_set {α : Type} (cs : List α) (i k : Nat) (v d : α) (hi : i < cs.length) : (cs.set i v).getD k d = if i = k then v else cs.getD k d := by
  simp only [List.getD_eq_getElem?_getD, List.getElem?_set]
  by_cases h : i = k
  · subst h
    simp [hi]
  · simp [h]
theorem getD_of {α : Type} (cs : List α) (i : Nat) (d : α) (hi : i < cs.length) : cs.getD i d = cs[i] := by
  simp [List.getD_eq_getElem?_getD, List.getElem?_eq_getElem hi]
end Go.Proofs.Ytklhbaghbmndeaa.Pure
namespace Go.Proofs.Ytklhbaghbmndeaa
open Go Go.Xw
end Go.Proofs.Ytklhbaghbmndeaa
namespace Go.Proofs.Ytklhbaghbmndeaa.Pure
open Go Go.Xw
def I32 (x : BitVec 32) : Int := (x.toNat : Int)
theorem I32_lt (x : BitVec 32) : 0 ≤ I32 x ∧ I32 x ≤ 4294967295 := by
  unfold I32
  have := x.isLt
  omega
theorem ofI (x : BitVec 32) : BitVec.ofInt 32 (I32 x) = x := by
  unfold I32
  rw [BitVec.ofInt_natCast, BitVec.ofNat_toNat, BitVec.setWidth_eq]
theorem I32_of {n : Int} (h0 : 0 ≤ n) (h1 : n ≤ 4294967295) : n = I32 (BitVec.ofNat 32 n.toNat) := by
  unfold I32
  rw [BitVec.toNat_ofNat, Nat.mod_eq_of_lt (by omega)]
  omega
theorem wI32 (x : BitVec 32) : IntKind.u32.wrap (I32 x) = I32 x := wu32 (I32_lt x).1 (I32_lt x).2
theorem bx32 (x y : BitVec 32) : bXor .u32 (I32 x) (I32 y) = I32 (x ^^^ y) := by
  unfold bXor
  show IntKind.u32.wrap (((BitVec.ofInt 32 (I32 x) ^^^ BitVec.ofInt 32 (I32 y)).toNat : Nat) : Int) = _
  rw [ofI, ofI]
  exact wI32 _
theorem ba32 (x y : BitVec 32) : bAnd .u32 (I32 x) (I32 y) = I32 (x &&& y) := by
  unfold bAnd
  show IntKind.u32.wrap (((BitVec.ofInt 32 (I32 x) &&& BitVec.ofInt 32 (I32 y)).toNat : Nat) : Int) = _
  rw [ofI, ofI]
  exact wI32 _
theorem sr32 (x : BitVec 32) (n : Nat) (hn : n ≤ 32) : shR .u32 (I32 x) (n : Int) = I32 (x >>> n) := by
  unfold shR I32
  rw [BitVec.toNat_ushiftRight, Nat.shiftRight_eq_div_pow]
  show Int.fdiv (x.toNat : Int) (2 ^ min ((n : Int).toNat) 32) = _
  rw [Int.toNat_natCast, Nat.min_eq_left hn, Int.fdiv_eq_ediv_of_nonneg _ (Int.le_of_lt (Int.pow_pos (by decide)))]
  simp
def poly : BitVec 32 := 2197175160#32
def stp (x : BitVec 32) : BitVec 32 := (x >>> 1) ^^^ (if x.getLsbD 0 then poly else 0#32)
theorem xor4 (a b p q : BitVec 32) : (a ^^^ b) ^^^ (p ^^^ q) = (a ^^^ p) ^^^ (b ^^^ q) := by
  rw [BitVec.xor_assoc, ← BitVec.xor_assoc b, BitVec.xor_comm b p, BitVec.xor_assoc p, ← BitVec.xor_assoc]
theorem sel_xor (a b : Bool) (p : BitVec 32) : (if (a ^^ b) = true then p else 0#32) = (if a = true then p else 0#32) ^^^ (if b = true then p else 0#32) := by
  cases a <;> cases b <;> simp
theorem stp_xor (x y : BitVec 32) : stp (x ^^^ y) = stp x ^^^ stp y := by
  unfold stp
  rw [BitVec.ushiftRight_xor_distrib, BitVec.getLsbD_xor, sel_xor, xor4]
def stps : Nat → BitVec 32 → BitVec 32
  | 0, x => x
  | n + 1, x => stps n (stp x)
theorem stps_xor : ∀ (n : Nat) (x y : BitVec 32), stps n (x ^^^ y) = stps n x ^^^ stps n y
  | 0, x, y => rfl
  | n + 1, x, y => by
    unfold stps
    rw [stp_xor, stps_xor n]
theorem stps_add (m : Nat) : ∀ (n : Nat) (x : BitVec 32), stps (n + m) x = stps m (stps n x)
  | 0, x => by simp [stps]
  | n + 1, x => by
    rw [Nat.add_right_comm]
    show stps (n + m) (stp x) = stps m (stps n (stp x))
    exact stps_add m n (stp x)
theorem stps_succ (n : Nat) (x : BitVec 32) : stps (n + 1) x = stp (stps n x) := stps_add 1 n x
theorem stp_even {x : BitVec 32} (h : x.getLsbD 0 = false) : stp x = x >>> 1 := by
  unfold stp
  rw [h]
  simp
theorem stps_high (x : BitVec 32) : ∀ n, (∀ j, j < n → x.getLsbD j = false) → stps n x = x >>> n
  | 0, _ => by simp [stps]
  | n + 1, h => by
    rw [stps_succ, stps_high x n fun j hj => h j (by omega)]
    rw [stp_even (by rw [BitVec.getLsbD_ushiftRight]; exact h (n + 0) (by omega)), ← BitVec.shiftRight_add]
theorem low_bit (n j : Nat) (hj : j < n) (hn : n ≤ 32) : (BitVec.ofNat 32 (2 ^ n - 1)).getLsbD j = true := by
  rw [BitVec.getLsbD_ofNat, Nat.testBit_two_pow_sub_one]
  simp
  omega
theorem high_bit (n j : Nat) (hj : n ≤ j) : (BitVec.ofNat 32 (2 ^ n - 1)).getLsbD j = false := by
  rw [BitVec.getLsbD_ofNat, Nat.testBit_two_pow_sub_one]
  simp
  omega
theorem stps_split (n : Nat) (hn : n ≤ 32) (x : BitVec 32) : stps n x = (x >>> n) ^^^ stps n (x &&& BitVec.ofNat 32 (2 ^ n - 1)) := by
  have e : x = (x &&& ~~~ BitVec.ofNat 32 (2 ^ n - 1)) ^^^ (x &&& BitVec.ofNat 32 (2 ^ n - 1)) := by
    apply BitVec.eq_of_getLsbD_eq
    intro i hi
    rw [BitVec.getLsbD_xor, BitVec.getLsbD_and, BitVec.getLsbD_and, BitVec.getLsbD_not]
    cases x.getLsbD i <;> cases (BitVec.ofNat 32 (2 ^ n - 1)).getLsbD i <;> simp [hi]
  conv => lhs; rw [e]
  rw [stps_xor, stps_high]
  · congr 1
    apply BitVec.eq_of_getLsbD_eq
    intro i hi
    rw [BitVec.getLsbD_ushiftRight, BitVec.getLsbD_ushiftRight, BitVec.getLsbD_and, BitVec.getLsbD_not, high_bit n (n + i) (by omega)]
    by_cases h : n + i < 32
    · simp [h]
    · have : x.getLsbD (n + i) = false := BitVec.getLsbD_of_ge _ _ (by omega)
      simp [this]
  · intro j hj
    rw [BitVec.getLsbD_and, BitVec.getLsbD_not, low_bit n j hj hn]
    simp
def Bytes (l : List Int) : Prop := ∀ x ∈ l, 0 ≤ x ∧ x ≤ 255
def b32 (c : Int) : BitVec 32 := BitVec.ofNat 32 c.toNat
theorem b32_eq {c : Int} (h : 0 ≤ c ∧ c ≤ 255) : IntKind.u32.wrap c = I32 (b32 c) := by
  rw [wu32 h.1 (by omega)]
  exact I32_of h.1 (by omega)
def take8 (x : BitVec 32) (c : Int) : BitVec 32 := stps 8 (x ^^^ b32 c)
def regs (x : BitVec 32) (l : List Int) : BitVec 32 := l.foldl take8 x
def tabL : List Int := (List.range 16).map fun i => I32 (stps 4 (BitVec.ofNat 32 i))
def tabA : Arr 16 Int := ⟨tabL, rfl⟩
theorem table_at (n : Nat) : crc_Table.f (n + 20) = some tabA := by kernel_rfl
theorem table_eq {fu : Nat} (h : 20 ≤ fu) : crc_Table.f fu = some tabA := by
  obtain ⟨n, rfl⟩ : ∃ n, fu = n + 20 := ⟨fu - 20, by omega⟩
  exact table_at n
theorem tab_get : ∀ i : Fin 16, Arr.get tabA ((i : Nat) : Int) = I32 (stps 4 (BitVec.ofNat 32 (i : Nat))) := by decide +kernel
theorem nib (x : BitVec 32) : bXor .u32 (shR .u32 (I32 x) 4) (Arr.get tabA (bAnd .u32 (I32 x) 15)) = I32 (stps 4 x) := by
  have e1 : bAnd .u32 (I32 x) 15 = I32 (x &&& 15#32) := ba32 x 15#32
  have e2 : shR .u32 (I32 x) 4 = I32 (x >>> 4) := sr32 x 4 (by decide)
  have hlt : (x &&& 15#32).toNat < 16 := by
    rw [BitVec.toNat_and]
    exact Nat.lt_of_le_of_lt Nat.and_le_right (by decide)
  have e3 : Arr.get tabA (I32 (x &&& 15#32)) = I32 (stps 4 (x &&& 15#32)) := by
    have := tab_get ⟨(x &&& 15#32).toNat, hlt⟩
    simp only [BitVec.ofNat_toNat, BitVec.setWidth_eq] at this
    exact this
  rw [e1, e2, e3, bx32]
  exact congrArg I32 (stps_split 4 (by decide) x).symm
theorem nib_in (x : BitVec 32) : 0 ≤ bAnd .u32 (I32 x) 15 ∧ bAnd .u32 (I32 x) 15 < 16 := by
  have e1 : bAnd .u32 (I32 x) 15 = I32 (x &&& 15#32) := ba32 x 15#32
  have hlt : (x &&& 15#32).toNat < 16 := by
    rw [BitVec.toNat_and]
    exact Nat.lt_of_le_of_lt Nat.and_le_right (by decide)
  rw [e1]
  unfold I32
  omega
theorem ix_nat {α : Type} [Inhabited α] {l : List α} {j : Nat} (h : j < l.length) : ix l (j : Int) = l[j] := by
  simp [ix, List.getD_eq_getElem?_getD, List.getElem?_eq_getElem h]
theorem take_next {α : Type} {l : List α} {j : Nat} (h : j < l.length) : l.take (j + 1) = l.take j ++ [l[j]] := by
  rw [List.take_add_one, List.getElem?_eq_getElem h]
  rfl
theorem reg_eq {fu : Nat} {x : BitVec 32} {l : List Int} (hb : Bytes l) (hl : l.length ≤ 9000000000000000000) (hf : l.length < fu) : crc_register.f fu tabA (I32 x) l = some (I32 (regs x l)) := by
  unfold crc_register.f
  have : loopM (crc_register.s0 fu tabA l) fu (I32 x, 0) = some (I32 (regs x l)) := by
    refine loopM_run (S := fun j => (I32 (regs x (l.take j)), (j : Int))) l.length (by simp [regs]) ?_ ?_ hf
    · intro j hj
      unfold crc_register.s0
      have h1 : (j : Int) < (l.length : Int) := by omega
      have w3 : IntKind.i64.wrap ((j : Int) + 1) = ((j + 1 : Nat) : Int) := by rw [w64 (by omega) (by omega)]; omega
      have hc := hb _ (List.getElem_mem hj)
      have e1 : bXor .u32 (I32 (regs x (l.take j))) (IntKind.u32.wrap (ix l (j : Int))) = I32 (regs x (l.take j) ^^^ b32 l[j]) := by
        rw [ix_nat hj, b32_eq hc, bx32]
      have e2 : regs x (l.take (j + 1)) = stps 4 (stps 4 (regs x (l.take j) ^^^ b32 l[j])) := by
        rw [take_next hj]
        unfold regs
        rw [List.foldl_append]
        exact stps_add 4 4 _
      simp only [h1, decide_true, if_true, e1, nib, w3, e2]
      rw [if_pos ⟨by omega, trivial⟩, if_pos (nib_in _), if_pos (nib_in _)]
    · unfold crc_register.s0
      simp
  rw [this]
  rfl
def ones : BitVec 32 := 4294967295#32
def crc (l : List Int) : BitVec 32 := regs ones l ^^^ ones
theorem sum_eq {fu : Nat} {l : List Int} (hb : Bytes l) (hl : l.length ≤ 9000000000000000000) (hf : l.length + 20 < fu) : crc_Sum.f fu [l] = some (I32 (crc l)) := by
  unfold crc_Sum.f
  rw [table_eq (by omega)]
  have : loopM (crc_Sum.s0 fu [l] tabA) fu (4294967295, 0) = some (I32 (regs ones l)) := by
    refine loopM_run (S := fun j => (if j = 0 then I32 ones else I32 (regs ones l), (j : Int))) 1 rfl ?_ ?_ (by omega)
    · intro j hj
      obtain rfl : j = 0 := by omega
      unfold crc_Sum.s0
      have e0 : ix [l] ((0 : Nat) : Int) = l := rfl
      have w3 : IntKind.i64.wrap (((0 : Nat) : Int) + 1) = ((0 + 1 : Nat) : Int) := by decide
      simp only [e0, w3, if_true, reg_eq hb hl (by omega : l.length < fu)]
      simp
    · unfold crc_Sum.s0
      simp
  simp only [Option.bind_some]
  rw [this]
  simp only [Option.bind_some]
  exact congrArg some (bx32 _ ones)
end Go.Proofs.Ytklhbaghbmndeaa.Pure
namespace Go.Proofs.Ytklhbaghbmndeaa
open Go Go.Xw
end Go.Proofs.Ytklhbaghbmndeaa
