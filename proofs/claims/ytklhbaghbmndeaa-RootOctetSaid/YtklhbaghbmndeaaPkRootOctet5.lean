/- RootOctet: texts merged, part 5 of 6. The last part proves that the law RootOctet holds for every input. -/
import Derived.Test.YtklhbaghbmndeaaPkRootOctet4
import Derived.ProofKit
import Derived.OpenShut
import Derived.ChangeOld
import Derived.Below
import Derived.SizedLaws
import Derived.WalkKit
set_option maxRecDepth 100000
set_option maxHeartbeats 4000000
set_option linter.unusedVariables false
set_option linter.unusedSimpArgs false
namespace Go.Proofs.Ytklhbaghbmndeaa
open Go Go.Xw
def rickyardref13_Same.f (fu : Nat) (a0 : S_api_Super) (a1 : S_api_Super) : Option Bool := (((if (decide (a0.Epoch = a1.Epoch)) = true then (if (decide (a0.Tickets.Geometry = a1.Tickets.Geometry)) = true then (if (decide (a0.Tickets.High = a1.Tickets.High)) = true then (if (decide (a0.Tickets.Free = a1.Tickets.Free)) = true then (if (decide (a0.Tickets.Top = a1.Tickets.Top)) = true then (if (decide (a0.Dir = a1.Dir)) = true then ((rickyardref01_Ints.f fu a0.Charts a1.Charts).bind fun t22 => some (t22)) else some (false)) else some (false)) else some (false)) else some (false)) else some (false)) else some (false)) : Option Bool).bind fun x14 => some (x14))
theorem rickyardref13_Same.ok (fu : Nat) (w : World) (a0 : S_api_Super) (V0_0 : Value) (R0_0 : Rd (kI .i64) w V0_0 a0.Charts) (a1 : S_api_Super) (V1_0 : Value) (R1_0 : Rd (kI .i64) w V1_0 a1.Charts) (r : Bool) (h : rickyardref13_Same.f fu a0 a1 = some r) :
  Calls Try.prog 74 (([aggV [(sI a0.Epoch), (sI a0.Tickets.Geometry.Blocks), (sI a0.Tickets.Geometry.Slots), (sI a0.Tickets.Geometry.Gens), (sI a0.Tickets.Top), (sI a0.Tickets.High), (sI a0.Tickets.Free), (sI a0.Dir), Seg.cell V0_0 R0_0.one], aggV [(sI a1.Epoch), (sI a1.Tickets.Geometry.Blocks), (sI a1.Tickets.Geometry.Slots), (sI a1.Tickets.Geometry.Gens), (sI a1.Tickets.Top), (sI a1.Tickets.High), (sI a1.Tickets.Free), (sI a1.Dir), Seg.cell V1_0 R1_0.one]] : List Value).toArray) w (fun e w' => ∃ v, e = .returned v ∧ v = .bool r ∧ Gr w w') := by
 unfold rickyardref13_Same.f at h
 have fB : Gr w w := Fr.refl _ _
 refine calls_cw Try.func74 rfl Try.ntmps74 rfl ?_
 refine cw_seq ?_
 refine cw_region ?_
 refine ol_op (opv_box (ss := [(sI a0.Epoch), (sI a0.Tickets.Geometry.Blocks), (sI a0.Tickets.Geometry.Slots), (sI a0.Tickets.Geometry.Gens), (sI a0.Tickets.Top), (sI a0.Tickets.High), (sI a0.Tickets.Free), (sI a0.Dir), Seg.cell V0_0 R0_0.one]) rfl rfl rfl) rfl rfl rfl ?_
 rintro _ w6 ⟨G1, rfl, b2, q3, z4⟩
 have z4 := Nat.le_trans fB.size z4
 have fB := fB.gr q3
 refine ol_op (opv_box (ss := [(sI a1.Epoch), (sI a1.Tickets.Geometry.Blocks), (sI a1.Tickets.Geometry.Slots), (sI a1.Tickets.Geometry.Gens), (sI a1.Tickets.Top), (sI a1.Tickets.High), (sI a1.Tickets.Free), (sI a1.Dir), Seg.cell V1_0 R1_0.one]) rfl rfl rfl) rfl rfl rfl ?_
 rintro _ w12 ⟨G7, rfl, b8, q9, z10⟩
 have n13 := b2.ne z10
 have z10 := Nat.le_trans fB.size z10
 have b2 := b2.gr q9
 have fB := fB.gr q9
 refine ol_val (v := .bool false) (xr_assign rfl rfl) rfl rfl rfl ?_
 refine ol_nil ?_
 refine cw_seq ?_
 obtain ⟨x14, j15, h⟩ := bs h
 refine cw_mid (fun ρ' w' => ρ' 4 = .bool x14 ∧ Gr w12 w') ?_ ?_
 ·skip
  refine cw_region ?_
  refine ol_val (v := (pt G1 0)) (xr_fieldAddr (p := 0) (q := 0) rfl fl110_0 rfl) rfl rfl rfl ?_
  refine ol_val (v := .int .i64 a0.Epoch) (xr_load1 (v := .int .i64 a0.Epoch) rfl ag3 rfl (b2.seg 0 rfl rfl)) rfl rfl rfl ?_
  refine ol_val (v := (pt G7 0)) (xr_fieldAddr (p := 0) (q := 0) rfl fl110_0 rfl) rfl rfl rfl ?_
  refine ol_val (v := .int .i64 a1.Epoch) (xr_load1 (v := .int .i64 a1.Epoch) rfl ag3 rfl (b8.seg 0 rfl rfl)) rfl rfl rfl ?_
  refine ol_val (v := .bool (decide (a0.Epoch = a1.Epoch))) (xr_eqI rfl Try.underlying3 rfl rfl rfl) rfl rfl rfl ?_
  refine ol_val (v := .bool (decide (a0.Epoch = a1.Epoch))) (xr_move rfl rfl) rfl rfl rfl ?_
  rcases is j15 with ⟨c16, j15⟩ | ⟨c16, j15⟩
  ·skip
   refine ol_gval (v := (pt G1 1)) (xr_fieldAddr (p := 0) (q := 1) rfl fl110_1 rfl) rfl rfl rfl rfl rfl c16 ?_
   refine ol_gval (v := (pt G1 1)) (xr_fieldAddr (p := 1) (q := 0) rfl fl108_0 rfl) rfl rfl rfl rfl rfl c16 ?_
   refine ol_gval (v := aggV [(sI a0.Tickets.Geometry.Blocks), (sI a0.Tickets.Geometry.Slots), (sI a0.Tickets.Geometry.Gens)]) (xr_loadS (ss := [(sI a0.Tickets.Geometry.Blocks), (sI a0.Tickets.Geometry.Slots), (sI a0.Tickets.Geometry.Gens)]) rfl ag106 sz106 rfl rfl (b2.segs 1 3 rfl)) rfl rfl rfl rfl rfl c16 ?_
   refine ol_gval (v := (pt G7 1)) (xr_fieldAddr (p := 0) (q := 1) rfl fl110_1 rfl) rfl rfl rfl rfl rfl c16 ?_
   refine ol_gval (v := (pt G7 1)) (xr_fieldAddr (p := 1) (q := 0) rfl fl108_0 rfl) rfl rfl rfl rfl rfl c16 ?_
   refine ol_gval (v := aggV [(sI a1.Tickets.Geometry.Blocks), (sI a1.Tickets.Geometry.Slots), (sI a1.Tickets.Geometry.Gens)]) (xr_loadS (ss := [(sI a1.Tickets.Geometry.Blocks), (sI a1.Tickets.Geometry.Slots), (sI a1.Tickets.Geometry.Gens)]) rfl ag106 sz106 rfl rfl (b8.segs 1 3 rfl)) rfl rfl rfl rfl rfl c16 ?_
   refine ol_gval (v := .bool (decide (a0.Tickets.Geometry = a1.Tickets.Geometry))) (xr_eqA (a := a0.Tickets.Geometry) (b := a1.Tickets.Geometry) rfl eqa106 rfl Try.eqGuardType105 rfl rfl rfl rfl) rfl rfl rfl rfl rfl c16 ?_
   refine ol_val (v := .bool (decide (a0.Tickets.Geometry = a1.Tickets.Geometry))) (xr_pickT rfl rfl c16 rfl) rfl rfl rfl ?_
   refine ol_val (v := .bool (decide (a0.Tickets.Geometry = a1.Tickets.Geometry))) (xr_move rfl rfl) rfl rfl rfl ?_
   rcases is j15 with ⟨c17, j15⟩ | ⟨c17, j15⟩
   ·skip
    refine ol_gval (v := (pt G1 1)) (xr_fieldAddr (p := 0) (q := 1) rfl fl110_1 rfl) rfl rfl rfl rfl rfl c17 ?_
    refine ol_gval (v := (pt G1 5)) (xr_fieldAddr (p := 1) (q := 4) rfl fl108_2 rfl) rfl rfl rfl rfl rfl c17 ?_
    refine ol_gval (v := .int .i64 a0.Tickets.High) (xr_load1 (v := .int .i64 a0.Tickets.High) rfl ag3 rfl (b2.seg 5 rfl rfl)) rfl rfl rfl rfl rfl c17 ?_
    refine ol_gval (v := (pt G7 1)) (xr_fieldAddr (p := 0) (q := 1) rfl fl110_1 rfl) rfl rfl rfl rfl rfl c17 ?_
    refine ol_gval (v := (pt G7 5)) (xr_fieldAddr (p := 1) (q := 4) rfl fl108_2 rfl) rfl rfl rfl rfl rfl c17 ?_
    refine ol_gval (v := .int .i64 a1.Tickets.High) (xr_load1 (v := .int .i64 a1.Tickets.High) rfl ag3 rfl (b8.seg 5 rfl rfl)) rfl rfl rfl rfl rfl c17 ?_
    refine ol_gval (v := .bool (decide (a0.Tickets.High = a1.Tickets.High))) (xr_eqI rfl Try.underlying3 rfl rfl rfl) rfl rfl rfl rfl rfl c17 ?_
    refine ol_val (v := .bool (decide (a0.Tickets.High = a1.Tickets.High))) (xr_pickT rfl rfl c17 rfl) rfl rfl rfl ?_
    refine ol_val (v := .bool (decide (a0.Tickets.High = a1.Tickets.High))) (xr_move rfl rfl) rfl rfl rfl ?_
    rcases is j15 with ⟨c18, j15⟩ | ⟨c18, j15⟩
    ·skip
     refine ol_gval (v := (pt G1 1)) (xr_fieldAddr (p := 0) (q := 1) rfl fl110_1 rfl) rfl rfl rfl rfl rfl c18 ?_
     refine ol_gval (v := (pt G1 6)) (xr_fieldAddr (p := 1) (q := 5) rfl fl108_3 rfl) rfl rfl rfl rfl rfl c18 ?_
     refine ol_gval (v := .int .i64 a0.Tickets.Free) (xr_load1 (v := .int .i64 a0.Tickets.Free) rfl ag3 rfl (b2.seg 6 rfl rfl)) rfl rfl rfl rfl rfl c18 ?_
     refine ol_gval (v := (pt G7 1)) (xr_fieldAddr (p := 0) (q := 1) rfl fl110_1 rfl) rfl rfl rfl rfl rfl c18 ?_
     refine ol_gval (v := (pt G7 6)) (xr_fieldAddr (p := 1) (q := 5) rfl fl108_3 rfl) rfl rfl rfl rfl rfl c18 ?_
     refine ol_gval (v := .int .i64 a1.Tickets.Free) (xr_load1 (v := .int .i64 a1.Tickets.Free) rfl ag3 rfl (b8.seg 6 rfl rfl)) rfl rfl rfl rfl rfl c18 ?_
     refine ol_gval (v := .bool (decide (a0.Tickets.Free = a1.Tickets.Free))) (xr_eqI rfl Try.underlying3 rfl rfl rfl) rfl rfl rfl rfl rfl c18 ?_
     refine ol_val (v := .bool (decide (a0.Tickets.Free = a1.Tickets.Free))) (xr_pickT rfl rfl c18 rfl) rfl rfl rfl ?_
     refine ol_val (v := .bool (decide (a0.Tickets.Free = a1.Tickets.Free))) (xr_move rfl rfl) rfl rfl rfl ?_
     rcases is j15 with ⟨c19, j15⟩ | ⟨c19, j15⟩
     ·skip
      refine ol_gval (v := (pt G1 1)) (xr_fieldAddr (p := 0) (q := 1) rfl fl110_1 rfl) rfl rfl rfl rfl rfl c19 ?_
      refine ol_gval (v := (pt G1 4)) (xr_fieldAddr (p := 1) (q := 3) rfl fl108_1 rfl) rfl rfl rfl rfl rfl c19 ?_
      refine ol_gval (v := .int .i64 a0.Tickets.Top) (xr_load1 (v := .int .i64 a0.Tickets.Top) rfl ag3 rfl (b2.seg 4 rfl rfl)) rfl rfl rfl rfl rfl c19 ?_
      refine ol_gval (v := (pt G7 1)) (xr_fieldAddr (p := 0) (q := 1) rfl fl110_1 rfl) rfl rfl rfl rfl rfl c19 ?_
      refine ol_gval (v := (pt G7 4)) (xr_fieldAddr (p := 1) (q := 3) rfl fl108_1 rfl) rfl rfl rfl rfl rfl c19 ?_
      refine ol_gval (v := .int .i64 a1.Tickets.Top) (xr_load1 (v := .int .i64 a1.Tickets.Top) rfl ag3 rfl (b8.seg 4 rfl rfl)) rfl rfl rfl rfl rfl c19 ?_
      refine ol_gval (v := .bool (decide (a0.Tickets.Top = a1.Tickets.Top))) (xr_eqI rfl Try.underlying3 rfl rfl rfl) rfl rfl rfl rfl rfl c19 ?_
      refine ol_val (v := .bool (decide (a0.Tickets.Top = a1.Tickets.Top))) (xr_pickT rfl rfl c19 rfl) rfl rfl rfl ?_
      refine ol_val (v := .bool (decide (a0.Tickets.Top = a1.Tickets.Top))) (xr_move rfl rfl) rfl rfl rfl ?_
      rcases is j15 with ⟨c20, j15⟩ | ⟨c20, j15⟩
      ·skip
       refine ol_gval (v := (pt G1 7)) (xr_fieldAddr (p := 0) (q := 7) rfl fl110_2 rfl) rfl rfl rfl rfl rfl c20 ?_
       refine ol_gval (v := .int .i64 a0.Dir) (xr_load1 (v := .int .i64 a0.Dir) rfl ag3 rfl (b2.seg 7 rfl rfl)) rfl rfl rfl rfl rfl c20 ?_
       refine ol_gval (v := (pt G7 7)) (xr_fieldAddr (p := 0) (q := 7) rfl fl110_2 rfl) rfl rfl rfl rfl rfl c20 ?_
       refine ol_gval (v := .int .i64 a1.Dir) (xr_load1 (v := .int .i64 a1.Dir) rfl ag3 rfl (b8.seg 7 rfl rfl)) rfl rfl rfl rfl rfl c20 ?_
       refine ol_gval (v := .bool (decide (a0.Dir = a1.Dir))) (xr_eqI rfl Try.underlying3 rfl rfl rfl) rfl rfl rfl rfl rfl c20 ?_
       refine ol_val (v := .bool (decide (a0.Dir = a1.Dir))) (xr_pickT rfl rfl c20 rfl) rfl rfl rfl ?_
       refine ol_val (v := .bool (decide (a0.Dir = a1.Dir))) (xr_move rfl rfl) rfl rfl rfl ?_
       rcases is j15 with ⟨c21, j15⟩ | ⟨c21, j15⟩
       ·skip
        refine ol_gval (v := (pt G1 8)) (xr_fieldAddr (p := 0) (q := 8) rfl fl110_3 rfl) rfl rfl rfl rfl rfl c21 ?_
        refine ol_gval (v := V0_0) (xr_load1 (v := V0_0) rfl ag25 rfl (b2.seg 8 rfl rfl)) rfl rfl rfl rfl rfl c21 ?_
        refine ol_gval (v := (pt G7 8)) (xr_fieldAddr (p := 0) (q := 8) rfl fl110_3 rfl) rfl rfl rfl rfl rfl c21 ?_
        refine ol_gval (v := V1_0) (xr_load1 (v := V1_0) rfl ag25 rfl (b8.seg 8 rfl rfl)) rfl rfl rfl rfl rfl c21 ?_
        obtain ⟨t22, k23, j15⟩ := bs j15
        refine ol_gop (opv_call rfl cal66 (ac rfl (ac rfl an)) (rickyardref01_Ints.ok fu _ a0.Charts V0_0 (R0_0.gr fB) a1.Charts V1_0 (R1_0.gr fB) _ k23)) rfl rfl rfl rfl rfl c21 ?_
        rintro _ w25 ⟨rfl, q24⟩
        have fB := fB.gr q24
        refine ol_val (v := .bool t22) (xr_pickT rfl rfl c21 rfl) rfl rfl rfl ?_
        refine ol_val (v := .bool t22) (xr_assign rfl rfl) rfl rfl rfl ?_
        refine ol_nil ?_
        obtain rfl := Option.some.inj j15
        refine thn_i ?_
        exact ⟨rfl, q24⟩
       refine ol_gskip rfl rfl rfl rfl rfl c21 ?_
       refine ol_gskip rfl rfl rfl rfl rfl c21 ?_
       refine ol_gskip rfl rfl rfl rfl rfl c21 ?_
       refine ol_gskip rfl rfl rfl rfl rfl c21 ?_
       refine ol_gskip rfl rfl rfl rfl rfl c21 ?_
       refine ol_val (v := .bool false) (xr_pickF rfl rfl c21 rfl) rfl rfl rfl ?_
       refine ol_val (v := .bool false) (xr_assign rfl rfl) rfl rfl rfl ?_
       refine ol_nil ?_
       obtain rfl := Option.some.inj j15
       refine thn_i ?_
       exact ⟨rfl, Fr.refl _ _⟩
      refine ol_gskip rfl rfl rfl rfl rfl c20 ?_
      refine ol_gskip rfl rfl rfl rfl rfl c20 ?_
      refine ol_gskip rfl rfl rfl rfl rfl c20 ?_
      refine ol_gskip rfl rfl rfl rfl rfl c20 ?_
      refine ol_gskip rfl rfl rfl rfl rfl c20 ?_
      refine ol_val (v := .bool false) (xr_pickF rfl rfl c20 rfl) rfl rfl rfl ?_
      refine ol_val (v := .bool false) (xr_move rfl rfl) rfl rfl rfl ?_
      refine ol_gskip rfl rfl rfl rfl rfl rfl ?_
      refine ol_gskip rfl rfl rfl rfl rfl rfl ?_
      refine ol_gskip rfl rfl rfl rfl rfl rfl ?_
      refine ol_gskip rfl rfl rfl rfl rfl rfl ?_
      refine ol_gskip rfl rfl rfl rfl rfl rfl ?_
      refine ol_val (v := .bool false) (xr_pickF rfl rfl rfl rfl) rfl rfl rfl ?_
      refine ol_val (v := .bool false) (xr_assign rfl rfl) rfl rfl rfl ?_
      refine ol_nil ?_
      obtain rfl := Option.some.inj j15
      refine thn_i ?_
      exact ⟨rfl, Fr.refl _ _⟩
     refine ol_gskip rfl rfl rfl rfl rfl c19 ?_
     refine ol_gskip rfl rfl rfl rfl rfl c19 ?_
     refine ol_gskip rfl rfl rfl rfl rfl c19 ?_
     refine ol_gskip rfl rfl rfl rfl rfl c19 ?_
     refine ol_gskip rfl rfl rfl rfl rfl c19 ?_
     refine ol_gskip rfl rfl rfl rfl rfl c19 ?_
     refine ol_gskip rfl rfl rfl rfl rfl c19 ?_
     refine ol_val (v := .bool false) (xr_pickF rfl rfl c19 rfl) rfl rfl rfl ?_
     refine ol_val (v := .bool false) (xr_move rfl rfl) rfl rfl rfl ?_
     refine ol_gskip rfl rfl rfl rfl rfl rfl ?_
     refine ol_gskip rfl rfl rfl rfl rfl rfl ?_
     refine ol_gskip rfl rfl rfl rfl rfl rfl ?_
     refine ol_gskip rfl rfl rfl rfl rfl rfl ?_
     refine ol_gskip rfl rfl rfl rfl rfl rfl ?_
     refine ol_val (v := .bool false) (xr_pickF rfl rfl rfl rfl) rfl rfl rfl ?_
     refine ol_val (v := .bool false) (xr_move rfl rfl) rfl rfl rfl ?_
     refine ol_gskip rfl rfl rfl rfl rfl rfl ?_
     refine ol_gskip rfl rfl rfl rfl rfl rfl ?_
     refine ol_gskip rfl rfl rfl rfl rfl rfl ?_
     refine ol_gskip rfl rfl rfl rfl rfl rfl ?_
     refine ol_gskip rfl rfl rfl rfl rfl rfl ?_
     refine ol_val (v := .bool false) (xr_pickF rfl rfl rfl rfl) rfl rfl rfl ?_
     refine ol_val (v := .bool false) (xr_assign rfl rfl) rfl rfl rfl ?_
     refine ol_nil ?_
     obtain rfl := Option.some.inj j15
     refine thn_i ?_
     exact ⟨rfl, Fr.refl _ _⟩
    refine ol_gskip rfl rfl rfl rfl rfl c18 ?_
    refine ol_gskip rfl rfl rfl rfl rfl c18 ?_
    refine ol_gskip rfl rfl rfl rfl rfl c18 ?_
    refine ol_gskip rfl rfl rfl rfl rfl c18 ?_
    refine ol_gskip rfl rfl rfl rfl rfl c18 ?_
    refine ol_gskip rfl rfl rfl rfl rfl c18 ?_
    refine ol_gskip rfl rfl rfl rfl rfl c18 ?_
    refine ol_val (v := .bool false) (xr_pickF rfl rfl c18 rfl) rfl rfl rfl ?_
    refine ol_val (v := .bool false) (xr_move rfl rfl) rfl rfl rfl ?_
    refine ol_gskip rfl rfl rfl rfl rfl rfl ?_
    refine ol_gskip rfl rfl rfl rfl rfl rfl ?_
    refine ol_gskip rfl rfl rfl rfl rfl rfl ?_
    refine ol_gskip rfl rfl rfl rfl rfl rfl ?_
    refine ol_gskip rfl rfl rfl rfl rfl rfl ?_
    refine ol_gskip rfl rfl rfl rfl rfl rfl ?_
    refine ol_gskip rfl rfl rfl rfl rfl rfl ?_
    refine ol_val (v := .bool false) (xr_pickF rfl rfl rfl rfl) rfl rfl rfl ?_
    refine ol_val (v := .bool false) (xr_move rfl rfl) rfl rfl rfl ?_
    refine ol_gskip rfl rfl rfl rfl rfl rfl ?_
    refine ol_gskip rfl rfl rfl rfl rfl rfl ?_
    refine ol_gskip rfl rfl rfl rfl rfl rfl ?_
    refine ol_gskip rfl rfl rfl rfl rfl rfl ?_
    refine ol_gskip rfl rfl rfl rfl rfl rfl ?_
    refine ol_val (v := .bool false) (xr_pickF rfl rfl rfl rfl) rfl rfl rfl ?_
    refine ol_val (v := .bool false) (xr_move rfl rfl) rfl rfl rfl ?_
    refine ol_gskip rfl rfl rfl rfl rfl rfl ?_
    refine ol_gskip rfl rfl rfl rfl rfl rfl ?_
    refine ol_gskip rfl rfl rfl rfl rfl rfl ?_
    refine ol_gskip rfl rfl rfl rfl rfl rfl ?_
    refine ol_gskip rfl rfl rfl rfl rfl rfl ?_
    refine ol_val (v := .bool false) (xr_pickF rfl rfl rfl rfl) rfl rfl rfl ?_
    refine ol_val (v := .bool false) (xr_assign rfl rfl) rfl rfl rfl ?_
    refine ol_nil ?_
    obtain rfl := Option.some.inj j15
    refine thn_i ?_
    exact ⟨rfl, Fr.refl _ _⟩
   refine ol_gskip rfl rfl rfl rfl rfl c17 ?_
   refine ol_gskip rfl rfl rfl rfl rfl c17 ?_
   refine ol_gskip rfl rfl rfl rfl rfl c17 ?_
   refine ol_gskip rfl rfl rfl rfl rfl c17 ?_
   refine ol_gskip rfl rfl rfl rfl rfl c17 ?_
   refine ol_gskip rfl rfl rfl rfl rfl c17 ?_
   refine ol_gskip rfl rfl rfl rfl rfl c17 ?_
   refine ol_val (v := .bool false) (xr_pickF rfl rfl c17 rfl) rfl rfl rfl ?_
   refine ol_val (v := .bool false) (xr_move rfl rfl) rfl rfl rfl ?_
   refine ol_gskip rfl rfl rfl rfl rfl rfl ?_
   refine ol_gskip rfl rfl rfl rfl rfl rfl ?_
   refine ol_gskip rfl rfl rfl rfl rfl rfl ?_
   refine ol_gskip rfl rfl rfl rfl rfl rfl ?_
   refine ol_gskip rfl rfl rfl rfl rfl rfl ?_
   refine ol_gskip rfl rfl rfl rfl rfl rfl ?_
   refine ol_gskip rfl rfl rfl rfl rfl rfl ?_
   refine ol_val (v := .bool false) (xr_pickF rfl rfl rfl rfl) rfl rfl rfl ?_
   refine ol_val (v := .bool false) (xr_move rfl rfl) rfl rfl rfl ?_
   refine ol_gskip rfl rfl rfl rfl rfl rfl ?_
   refine ol_gskip rfl rfl rfl rfl rfl rfl ?_
   refine ol_gskip rfl rfl rfl rfl rfl rfl ?_
   refine ol_gskip rfl rfl rfl rfl rfl rfl ?_
   refine ol_gskip rfl rfl rfl rfl rfl rfl ?_
   refine ol_gskip rfl rfl rfl rfl rfl rfl ?_
   refine ol_gskip rfl rfl rfl rfl rfl rfl ?_
   refine ol_val (v := .bool false) (xr_pickF rfl rfl rfl rfl) rfl rfl rfl ?_
   refine ol_val (v := .bool false) (xr_move rfl rfl) rfl rfl rfl ?_
   refine ol_gskip rfl rfl rfl rfl rfl rfl ?_
   refine ol_gskip rfl rfl rfl rfl rfl rfl ?_
   refine ol_gskip rfl rfl rfl rfl rfl rfl ?_
   refine ol_gskip rfl rfl rfl rfl rfl rfl ?_
   refine ol_gskip rfl rfl rfl rfl rfl rfl ?_
   refine ol_val (v := .bool false) (xr_pickF rfl rfl rfl rfl) rfl rfl rfl ?_
   refine ol_val (v := .bool false) (xr_move rfl rfl) rfl rfl rfl ?_
   refine ol_gskip rfl rfl rfl rfl rfl rfl ?_
   refine ol_gskip rfl rfl rfl rfl rfl rfl ?_
   refine ol_gskip rfl rfl rfl rfl rfl rfl ?_
   refine ol_gskip rfl rfl rfl rfl rfl rfl ?_
   refine ol_gskip rfl rfl rfl rfl rfl rfl ?_
   refine ol_val (v := .bool false) (xr_pickF rfl rfl rfl rfl) rfl rfl rfl ?_
   refine ol_val (v := .bool false) (xr_assign rfl rfl) rfl rfl rfl ?_
   refine ol_nil ?_
   obtain rfl := Option.some.inj j15
   refine thn_i ?_
   exact ⟨rfl, Fr.refl _ _⟩
  refine ol_gskip rfl rfl rfl rfl rfl c16 ?_
  refine ol_gskip rfl rfl rfl rfl rfl c16 ?_
  refine ol_gskip rfl rfl rfl rfl rfl c16 ?_
  refine ol_gskip rfl rfl rfl rfl rfl c16 ?_
  refine ol_gskip rfl rfl rfl rfl rfl c16 ?_
  refine ol_gskip rfl rfl rfl rfl rfl c16 ?_
  refine ol_gskip rfl rfl rfl rfl rfl c16 ?_
  refine ol_val (v := .bool false) (xr_pickF rfl rfl c16 rfl) rfl rfl rfl ?_
  refine ol_val (v := .bool false) (xr_move rfl rfl) rfl rfl rfl ?_
  refine ol_gskip rfl rfl rfl rfl rfl rfl ?_
  refine ol_gskip rfl rfl rfl rfl rfl rfl ?_
  refine ol_gskip rfl rfl rfl rfl rfl rfl ?_
  refine ol_gskip rfl rfl rfl rfl rfl rfl ?_
  refine ol_gskip rfl rfl rfl rfl rfl rfl ?_
  refine ol_gskip rfl rfl rfl rfl rfl rfl ?_
  refine ol_gskip rfl rfl rfl rfl rfl rfl ?_
  refine ol_val (v := .bool false) (xr_pickF rfl rfl rfl rfl) rfl rfl rfl ?_
  refine ol_val (v := .bool false) (xr_move rfl rfl) rfl rfl rfl ?_
  refine ol_gskip rfl rfl rfl rfl rfl rfl ?_
  refine ol_gskip rfl rfl rfl rfl rfl rfl ?_
  refine ol_gskip rfl rfl rfl rfl rfl rfl ?_
  refine ol_gskip rfl rfl rfl rfl rfl rfl ?_
  refine ol_gskip rfl rfl rfl rfl rfl rfl ?_
  refine ol_gskip rfl rfl rfl rfl rfl rfl ?_
  refine ol_gskip rfl rfl rfl rfl rfl rfl ?_
  refine ol_val (v := .bool false) (xr_pickF rfl rfl rfl rfl) rfl rfl rfl ?_
  refine ol_val (v := .bool false) (xr_move rfl rfl) rfl rfl rfl ?_
  refine ol_gskip rfl rfl rfl rfl rfl rfl ?_
  refine ol_gskip rfl rfl rfl rfl rfl rfl ?_
  refine ol_gskip rfl rfl rfl rfl rfl rfl ?_
  refine ol_gskip rfl rfl rfl rfl rfl rfl ?_
  refine ol_gskip rfl rfl rfl rfl rfl rfl ?_
  refine ol_gskip rfl rfl rfl rfl rfl rfl ?_
  refine ol_gskip rfl rfl rfl rfl rfl rfl ?_
  refine ol_val (v := .bool false) (xr_pickF rfl rfl rfl rfl) rfl rfl rfl ?_
  refine ol_val (v := .bool false) (xr_move rfl rfl) rfl rfl rfl ?_
  refine ol_gskip rfl rfl rfl rfl rfl rfl ?_
  refine ol_gskip rfl rfl rfl rfl rfl rfl ?_
  refine ol_gskip rfl rfl rfl rfl rfl rfl ?_
  refine ol_gskip rfl rfl rfl rfl rfl rfl ?_
  refine ol_gskip rfl rfl rfl rfl rfl rfl ?_
  refine ol_val (v := .bool false) (xr_pickF rfl rfl rfl rfl) rfl rfl rfl ?_
  refine ol_val (v := .bool false) (xr_move rfl rfl) rfl rfl rfl ?_
  refine ol_gskip rfl rfl rfl rfl rfl rfl ?_
  refine ol_gskip rfl rfl rfl rfl rfl rfl ?_
  refine ol_gskip rfl rfl rfl rfl rfl rfl ?_
  refine ol_gskip rfl rfl rfl rfl rfl rfl ?_
  refine ol_gskip rfl rfl rfl rfl rfl rfl ?_
  refine ol_val (v := .bool false) (xr_pickF rfl rfl rfl rfl) rfl rfl rfl ?_
  refine ol_val (v := .bool false) (xr_assign rfl rfl) rfl rfl rfl ?_
  refine ol_nil ?_
  obtain rfl := Option.some.inj j15
  refine thn_i ?_
  exact ⟨rfl, Fr.refl _ _⟩
 rintro ρ26 w27 ⟨e4, q28⟩
 have fB := fB.gr q28
 refine cw_ret ?_
 repeat (first | with_reducible refine thn_r ?_ | with_reducible refine blk_r ?_)
 obtain rfl := Option.some.inj h
 refine fin_ret1 Try.results74 e4 ?_
 exact ⟨_, rfl, rfl, fB⟩
def rickyardref12_Right.f (fu : Nat) (a0 : S_api_Geometry) : Option Bool := some ((if (decide (a0.Blocks ≥ 16)) = true then (if (decide (a0.Blocks ≤ 3072)) = true then (if (decide (a0.Slots ≥ 1)) = true then (if (decide (a0.Slots ≤ 1792)) = true then (if (decide (a0.Gens ≥ 1)) = true then (decide (a0.Gens ≤ 4294967295)) else false) else false) else false) else false) else false))
theorem rickyardref12_Right.ok (fu : Nat) (w : World) (a0 : S_api_Geometry) (r : Bool) (h : rickyardref12_Right.f fu a0 = some r) :
  Calls Try.prog 115 (([aggV [(sI a0.Blocks), (sI a0.Slots), (sI a0.Gens)]] : List Value).toArray) w (fun e w' => ∃ v, e = .returned v ∧ v = .bool r ∧ Gr w w') := by
 unfold rickyardref12_Right.f at h
 have fB : Gr w w := Fr.refl _ _
 refine calls_cw Try.func115 rfl Try.ntmps115 rfl ?_
 refine cw_seq ?_
 refine cw_region ?_
 refine ol_op (opv_box (ss := [(sI a0.Blocks), (sI a0.Slots), (sI a0.Gens)]) rfl rfl rfl) rfl rfl rfl ?_
 rintro _ w6 ⟨G1, rfl, b2, q3, z4⟩
 have z4 := Nat.le_trans fB.size z4
 have fB := fB.gr q3
 refine ol_val (v := .bool false) (xr_assign rfl rfl) rfl rfl rfl ?_
 refine ol_nil ?_
 refine cw_seq ?_
 refine cw_mid (fun ρ' w' => ρ' 2 = .bool (if (decide (a0.Blocks ≥ 16)) = true then (if (decide (a0.Blocks ≤ 3072)) = true then (if (decide (a0.Slots ≥ 1)) = true then (if (decide (a0.Slots ≤ 1792)) = true then (if (decide (a0.Gens ≥ 1)) = true then (decide (a0.Gens ≤ 4294967295)) else false) else false) else false) else false) else false) ∧ w6 = w') ?_ ?_
 ·skip
  refine cw_region ?_
  refine ol_val (v := (pt G1 0)) (xr_fieldAddr (p := 0) (q := 0) rfl fl106_0 rfl) rfl rfl rfl ?_
  refine ol_val (v := .int .i64 a0.Blocks) (xr_load1 (v := .int .i64 a0.Blocks) rfl ag3 rfl (b2.seg 0 rfl rfl)) rfl rfl rfl ?_
  refine ol_val (v := .bool (decide (a0.Blocks ≥ 16))) (xr_geq rfl rfl rfl) rfl rfl rfl ?_
  refine ol_val (v := .bool (decide (a0.Blocks ≥ 16))) (xr_move rfl rfl) rfl rfl rfl ?_
  rcases bt (decide (a0.Blocks ≥ 16)) with c7 | c7
  ·skip
   refine ol_gval (v := (pt G1 0)) (xr_fieldAddr (p := 0) (q := 0) rfl fl106_0 rfl) rfl rfl rfl rfl rfl c7 ?_
   refine ol_gval (v := .int .i64 a0.Blocks) (xr_load1 (v := .int .i64 a0.Blocks) rfl ag3 rfl (b2.seg 0 rfl rfl)) rfl rfl rfl rfl rfl c7 ?_
   refine ol_gval (v := .bool (decide (a0.Blocks ≤ 3072))) (xr_leq rfl rfl rfl) rfl rfl rfl rfl rfl c7 ?_
   refine ol_val (v := .bool (decide (a0.Blocks ≤ 3072))) (xr_pickT rfl rfl c7 rfl) rfl rfl rfl ?_
   refine ol_val (v := .bool (decide (a0.Blocks ≤ 3072))) (xr_move rfl rfl) rfl rfl rfl ?_
   rcases bt (decide (a0.Blocks ≤ 3072)) with c8 | c8
   ·skip
    refine ol_gval (v := (pt G1 1)) (xr_fieldAddr (p := 0) (q := 1) rfl fl106_1 rfl) rfl rfl rfl rfl rfl c8 ?_
    refine ol_gval (v := .int .i64 a0.Slots) (xr_load1 (v := .int .i64 a0.Slots) rfl ag3 rfl (b2.seg 1 rfl rfl)) rfl rfl rfl rfl rfl c8 ?_
    refine ol_gval (v := .bool (decide (a0.Slots ≥ 1))) (xr_geq rfl rfl rfl) rfl rfl rfl rfl rfl c8 ?_
    refine ol_val (v := .bool (decide (a0.Slots ≥ 1))) (xr_pickT rfl rfl c8 rfl) rfl rfl rfl ?_
    refine ol_val (v := .bool (decide (a0.Slots ≥ 1))) (xr_move rfl rfl) rfl rfl rfl ?_
    rcases bt (decide (a0.Slots ≥ 1)) with c9 | c9
    ·skip
     refine ol_gval (v := (pt G1 1)) (xr_fieldAddr (p := 0) (q := 1) rfl fl106_1 rfl) rfl rfl rfl rfl rfl c9 ?_
     refine ol_gval (v := .int .i64 a0.Slots) (xr_load1 (v := .int .i64 a0.Slots) rfl ag3 rfl (b2.seg 1 rfl rfl)) rfl rfl rfl rfl rfl c9 ?_
     refine ol_gval (v := .bool (decide (a0.Slots ≤ 1792))) (xr_leq rfl rfl rfl) rfl rfl rfl rfl rfl c9 ?_
     refine ol_val (v := .bool (decide (a0.Slots ≤ 1792))) (xr_pickT rfl rfl c9 rfl) rfl rfl rfl ?_
     refine ol_val (v := .bool (decide (a0.Slots ≤ 1792))) (xr_move rfl rfl) rfl rfl rfl ?_
     rcases bt (decide (a0.Slots ≤ 1792)) with c10 | c10
     ·skip
      refine ol_gval (v := (pt G1 2)) (xr_fieldAddr (p := 0) (q := 2) rfl fl106_2 rfl) rfl rfl rfl rfl rfl c10 ?_
      refine ol_gval (v := .int .i64 a0.Gens) (xr_load1 (v := .int .i64 a0.Gens) rfl ag3 rfl (b2.seg 2 rfl rfl)) rfl rfl rfl rfl rfl c10 ?_
      refine ol_gval (v := .bool (decide (a0.Gens ≥ 1))) (xr_geq rfl rfl rfl) rfl rfl rfl rfl rfl c10 ?_
      refine ol_val (v := .bool (decide (a0.Gens ≥ 1))) (xr_pickT rfl rfl c10 rfl) rfl rfl rfl ?_
      refine ol_val (v := .bool (decide (a0.Gens ≥ 1))) (xr_move rfl rfl) rfl rfl rfl ?_
      rcases bt (decide (a0.Gens ≥ 1)) with c11 | c11
      ·skip
       refine ol_gval (v := (pt G1 2)) (xr_fieldAddr (p := 0) (q := 2) rfl fl106_2 rfl) rfl rfl rfl rfl rfl c11 ?_
       refine ol_gval (v := .int .i64 a0.Gens) (xr_load1 (v := .int .i64 a0.Gens) rfl ag3 rfl (b2.seg 2 rfl rfl)) rfl rfl rfl rfl rfl c11 ?_
       refine ol_gval (v := .bool (decide (a0.Gens ≤ 4294967295))) (xr_leq rfl rfl rfl) rfl rfl rfl rfl rfl c11 ?_
       refine ol_val (v := .bool (decide (a0.Gens ≤ 4294967295))) (xr_pickT rfl rfl c11 rfl) rfl rfl rfl ?_
       refine ol_val (v := .bool (decide (a0.Gens ≤ 4294967295))) (xr_assign rfl rfl) rfl rfl rfl ?_
       refine ol_nil ?_
       refine thn_i ?_
       exact ⟨(rfl).trans (congrArg (fun z => (.bool z : Value)) (show (decide (a0.Gens ≤ 4294967295)) = (if (decide (a0.Blocks ≥ 16)) = true then (if (decide (a0.Blocks ≤ 3072)) = true then (if (decide (a0.Slots ≥ 1)) = true then (if (decide (a0.Slots ≤ 1792)) = true then (if (decide (a0.Gens ≥ 1)) = true then (decide (a0.Gens ≤ 4294967295)) else false) else false) else false) else false) else false) from by rw [ite_t c7, ite_t c8, ite_t c9, ite_t c10, ite_t c11])), rfl⟩
      refine ol_gskip rfl rfl rfl rfl rfl c11 ?_
      refine ol_gskip rfl rfl rfl rfl rfl c11 ?_
      refine ol_gskip rfl rfl rfl rfl rfl c11 ?_
      refine ol_val (v := .bool false) (xr_pickF rfl rfl c11 rfl) rfl rfl rfl ?_
      refine ol_val (v := .bool false) (xr_assign rfl rfl) rfl rfl rfl ?_
      refine ol_nil ?_
      refine thn_i ?_
      exact ⟨(rfl).trans (congrArg (fun z => (.bool z : Value)) (show false = (if (decide (a0.Blocks ≥ 16)) = true then (if (decide (a0.Blocks ≤ 3072)) = true then (if (decide (a0.Slots ≥ 1)) = true then (if (decide (a0.Slots ≤ 1792)) = true then (if (decide (a0.Gens ≥ 1)) = true then (decide (a0.Gens ≤ 4294967295)) else false) else false) else false) else false) else false) from by rw [ite_t c7, ite_t c8, ite_t c9, ite_t c10, ite_f c11])), rfl⟩
     refine ol_gskip rfl rfl rfl rfl rfl c10 ?_
     refine ol_gskip rfl rfl rfl rfl rfl c10 ?_
     refine ol_gskip rfl rfl rfl rfl rfl c10 ?_
     refine ol_val (v := .bool false) (xr_pickF rfl rfl c10 rfl) rfl rfl rfl ?_
     refine ol_val (v := .bool false) (xr_move rfl rfl) rfl rfl rfl ?_
     refine ol_gskip rfl rfl rfl rfl rfl rfl ?_
     refine ol_gskip rfl rfl rfl rfl rfl rfl ?_
     refine ol_gskip rfl rfl rfl rfl rfl rfl ?_
     refine ol_val (v := .bool false) (xr_pickF rfl rfl rfl rfl) rfl rfl rfl ?_
     refine ol_val (v := .bool false) (xr_assign rfl rfl) rfl rfl rfl ?_
     refine ol_nil ?_
     refine thn_i ?_
     exact ⟨(rfl).trans (congrArg (fun z => (.bool z : Value)) (show false = (if (decide (a0.Blocks ≥ 16)) = true then (if (decide (a0.Blocks ≤ 3072)) = true then (if (decide (a0.Slots ≥ 1)) = true then (if (decide (a0.Slots ≤ 1792)) = true then (if (decide (a0.Gens ≥ 1)) = true then (decide (a0.Gens ≤ 4294967295)) else false) else false) else false) else false) else false) from by rw [ite_t c7, ite_t c8, ite_t c9, ite_f c10])), rfl⟩
    refine ol_gskip rfl rfl rfl rfl rfl c9 ?_
    refine ol_gskip rfl rfl rfl rfl rfl c9 ?_
    refine ol_gskip rfl rfl rfl rfl rfl c9 ?_
    refine ol_val (v := .bool false) (xr_pickF rfl rfl c9 rfl) rfl rfl rfl ?_
    refine ol_val (v := .bool false) (xr_move rfl rfl) rfl rfl rfl ?_
    refine ol_gskip rfl rfl rfl rfl rfl rfl ?_
    refine ol_gskip rfl rfl rfl rfl rfl rfl ?_
    refine ol_gskip rfl rfl rfl rfl rfl rfl ?_
    refine ol_val (v := .bool false) (xr_pickF rfl rfl rfl rfl) rfl rfl rfl ?_
    refine ol_val (v := .bool false) (xr_move rfl rfl) rfl rfl rfl ?_
    refine ol_gskip rfl rfl rfl rfl rfl rfl ?_
    refine ol_gskip rfl rfl rfl rfl rfl rfl ?_
    refine ol_gskip rfl rfl rfl rfl rfl rfl ?_
    refine ol_val (v := .bool false) (xr_pickF rfl rfl rfl rfl) rfl rfl rfl ?_
    refine ol_val (v := .bool false) (xr_assign rfl rfl) rfl rfl rfl ?_
    refine ol_nil ?_
    refine thn_i ?_
    exact ⟨(rfl).trans (congrArg (fun z => (.bool z : Value)) (show false = (if (decide (a0.Blocks ≥ 16)) = true then (if (decide (a0.Blocks ≤ 3072)) = true then (if (decide (a0.Slots ≥ 1)) = true then (if (decide (a0.Slots ≤ 1792)) = true then (if (decide (a0.Gens ≥ 1)) = true then (decide (a0.Gens ≤ 4294967295)) else false) else false) else false) else false) else false) from by rw [ite_t c7, ite_t c8, ite_f c9])), rfl⟩
   refine ol_gskip rfl rfl rfl rfl rfl c8 ?_
   refine ol_gskip rfl rfl rfl rfl rfl c8 ?_
   refine ol_gskip rfl rfl rfl rfl rfl c8 ?_
   refine ol_val (v := .bool false) (xr_pickF rfl rfl c8 rfl) rfl rfl rfl ?_
   refine ol_val (v := .bool false) (xr_move rfl rfl) rfl rfl rfl ?_
   refine ol_gskip rfl rfl rfl rfl rfl rfl ?_
   refine ol_gskip rfl rfl rfl rfl rfl rfl ?_
   refine ol_gskip rfl rfl rfl rfl rfl rfl ?_
   refine ol_val (v := .bool false) (xr_pickF rfl rfl rfl rfl) rfl rfl rfl ?_
   refine ol_val (v := .bool false) (xr_move rfl rfl) rfl rfl rfl ?_
   refine ol_gskip rfl rfl rfl rfl rfl rfl ?_
   refine ol_gskip rfl rfl rfl rfl rfl rfl ?_
   refine ol_gskip rfl rfl rfl rfl rfl rfl ?_
   refine ol_val (v := .bool false) (xr_pickF rfl rfl rfl rfl) rfl rfl rfl ?_
   refine ol_val (v := .bool false) (xr_move rfl rfl) rfl rfl rfl ?_
   refine ol_gskip rfl rfl rfl rfl rfl rfl ?_
   refine ol_gskip rfl rfl rfl rfl rfl rfl ?_
   refine ol_gskip rfl rfl rfl rfl rfl rfl ?_
   refine ol_val (v := .bool false) (xr_pickF rfl rfl rfl rfl) rfl rfl rfl ?_
   refine ol_val (v := .bool false) (xr_assign rfl rfl) rfl rfl rfl ?_
   refine ol_nil ?_
   refine thn_i ?_
   exact ⟨(rfl).trans (congrArg (fun z => (.bool z : Value)) (show false = (if (decide (a0.Blocks ≥ 16)) = true then (if (decide (a0.Blocks ≤ 3072)) = true then (if (decide (a0.Slots ≥ 1)) = true then (if (decide (a0.Slots ≤ 1792)) = true then (if (decide (a0.Gens ≥ 1)) = true then (decide (a0.Gens ≤ 4294967295)) else false) else false) else false) else false) else false) from by rw [ite_t c7, ite_f c8])), rfl⟩
  refine ol_gskip rfl rfl rfl rfl rfl c7 ?_
  refine ol_gskip rfl rfl rfl rfl rfl c7 ?_
  refine ol_gskip rfl rfl rfl rfl rfl c7 ?_
  refine ol_val (v := .bool false) (xr_pickF rfl rfl c7 rfl) rfl rfl rfl ?_
  refine ol_val (v := .bool false) (xr_move rfl rfl) rfl rfl rfl ?_
  refine ol_gskip rfl rfl rfl rfl rfl rfl ?_
  refine ol_gskip rfl rfl rfl rfl rfl rfl ?_
  refine ol_gskip rfl rfl rfl rfl rfl rfl ?_
  refine ol_val (v := .bool false) (xr_pickF rfl rfl rfl rfl) rfl rfl rfl ?_
  refine ol_val (v := .bool false) (xr_move rfl rfl) rfl rfl rfl ?_
  refine ol_gskip rfl rfl rfl rfl rfl rfl ?_
  refine ol_gskip rfl rfl rfl rfl rfl rfl ?_
  refine ol_gskip rfl rfl rfl rfl rfl rfl ?_
  refine ol_val (v := .bool false) (xr_pickF rfl rfl rfl rfl) rfl rfl rfl ?_
  refine ol_val (v := .bool false) (xr_move rfl rfl) rfl rfl rfl ?_
  refine ol_gskip rfl rfl rfl rfl rfl rfl ?_
  refine ol_gskip rfl rfl rfl rfl rfl rfl ?_
  refine ol_gskip rfl rfl rfl rfl rfl rfl ?_
  refine ol_val (v := .bool false) (xr_pickF rfl rfl rfl rfl) rfl rfl rfl ?_
  refine ol_val (v := .bool false) (xr_move rfl rfl) rfl rfl rfl ?_
  refine ol_gskip rfl rfl rfl rfl rfl rfl ?_
  refine ol_gskip rfl rfl rfl rfl rfl rfl ?_
  refine ol_gskip rfl rfl rfl rfl rfl rfl ?_
  refine ol_val (v := .bool false) (xr_pickF rfl rfl rfl rfl) rfl rfl rfl ?_
  refine ol_val (v := .bool false) (xr_assign rfl rfl) rfl rfl rfl ?_
  refine ol_nil ?_
  refine thn_i ?_
  exact ⟨(rfl).trans (congrArg (fun z => (.bool z : Value)) (show false = (if (decide (a0.Blocks ≥ 16)) = true then (if (decide (a0.Blocks ≤ 3072)) = true then (if (decide (a0.Slots ≥ 1)) = true then (if (decide (a0.Slots ≤ 1792)) = true then (if (decide (a0.Gens ≥ 1)) = true then (decide (a0.Gens ≤ 4294967295)) else false) else false) else false) else false) else false) from by rw [ite_f c7])), rfl⟩
 rintro ρ12 _ ⟨e2, rfl⟩
 refine cw_ret ?_
 repeat (first | with_reducible refine thn_r ?_ | with_reducible refine blk_r ?_)
 obtain rfl := Option.some.inj h
 refine fin_ret1 Try.results115 e2 ?_
 exact ⟨_, rfl, rfl, fB⟩
def rickyardref12_Need.s0 (fu : Nat) (a0 : Int) (a1 : Int) : Int → Option (Sum Int Int) := fun s1 => (if (decide ((IntKind.i64.wrap (s1 * a1)) < a0)) = true then some (Sum.inr ((IntKind.i64.wrap (s1 + 1)))) else some (Sum.inl (s1)))
def rickyardref12_Need.f (fu : Nat) (a0 : Int) (a1 : Int) : Option Int := ((loopM (rickyardref12_Need.s0 fu a0 a1) fu (0)).bind fun e2 => some (e2))
theorem rickyardref12_Need.ok (fu : Nat) (w : World) (a0 : Int) (a1 : Int) (r : Int) (h : rickyardref12_Need.f fu a0 a1 = some r) :
  Calls Try.prog 136 (([.int .i64 a0, .int .i64 a1] : List Value).toArray) w (fun e w' => ∃ v, e = .returned v ∧ v = .int .i64 r ∧ Gr w w') := by
 unfold rickyardref12_Need.f at h
 have fB : Gr w w := Fr.refl _ _
 refine calls_cw Try.func136 rfl Try.ntmps136 rfl ?_
 refine cw_seq ?_
 refine cw_region ?_
 refine ol_val (v := .int .i64 0) (xr_assign rfl rfl) rfl rfl rfl ?_
 refine ol_nil ?_
 refine cw_seq ?_
 refine cw_region ?_
 refine ol_val (v := .int .i64 0) (xr_assign rfl rfl) rfl rfl rfl ?_
 refine ol_nil ?_
 refine cw_seq ?_
 obtain ⟨e2, l3, h4⟩ := bs h
 refine cw_mid (fun ρ' w' => ρ' 5 = .int .i64 e2 ∧ Gr w w') ?_ ?_
 ·refine cw_block ?_
  refine cw_round (fun (s1 : Int) ρ' w' => ρ' 0 = .int .i64 a0 ∧ ρ' 1 = .int .i64 a1 ∧ ρ' 5 = .int .i64 s1 ∧ Gr w w') l3 ?_ ?_
  ·skip
   exact ⟨rfl, rfl, rfl, fB⟩
  rintro s1 x7 ρ5 w6 ⟨e0, e1, e5, fB⟩ h
  unfold rickyardref12_Need.s0 at h
  refine cw_seq ?_
  refine cw_seq ?_
  refine cw_region ?_
  refine ol_val (v := .int .i64 s1) (xr_move rfl e5) rfl rfl rfl ?_
  refine ol_val (v := .int .i64 a1) (xr_move rfl e1) rfl rfl rfl ?_
  refine ol_val (v := .int .i64 (IntKind.i64.wrap (s1 * a1))) (xr_mul rfl rfl rfl) rfl rfl rfl ?_
  refine ol_val (v := .int .i64 a0) (xr_move rfl e0) rfl rfl rfl ?_
  refine ol_val (v := .bool (decide ((IntKind.i64.wrap (s1 * a1)) < a0))) (xr_lss rfl rfl rfl) rfl rfl rfl ?_
  refine ol_nil ?_
  rcases is h with ⟨c8, h⟩ | ⟨c8, h⟩
  ·refine cw_condT rfl c8 ?_
   refine cw_skip ?_
   refine cw_block ?_
   refine cw_region ?_
   refine ol_val (v := .int .i64 s1) (xr_move rfl e5) rfl rfl rfl ?_
   refine ol_val (v := .int .i64 (IntKind.i64.wrap (s1 + 1))) (xr_add rfl rfl rfl) rfl rfl rfl ?_
   refine ol_val (v := .int .i64 (IntKind.i64.wrap (s1 + 1))) (xr_assign rfl rfl) rfl rfl rfl ?_
   refine ol_nil ?_
   refine blk_i ?_
   obtain rfl := Option.some.inj h
   refine lp_in ?_
   exact ⟨e0, e1, rfl, fB⟩
  refine cw_condF rfl c8 ?_
  refine cw_exit ?_
  repeat (first | with_reducible refine thn_e ?_ | with_reducible refine blk_e rfl ?_)
  obtain rfl := Option.some.inj h
  refine lp_exit ?_
  rintro rfl
  refine thn_x ?_
  exact ⟨e5, fB⟩
 rintro ρ9 w10 ⟨e5, fB⟩
 have h := h4
 refine cw_seq ?_
 refine cw_region ?_
 refine ol_val (v := .int .i64 e2) (xr_move rfl e5) rfl rfl rfl ?_
 refine ol_val (v := .int .i64 e2) (xr_assign rfl rfl) rfl rfl rfl ?_
 refine ol_nil ?_
 refine cw_ret ?_
 repeat (first | with_reducible refine thn_r ?_ | with_reducible refine blk_r ?_)
 obtain rfl := Option.some.inj h
 refine fin_ret1 Try.results136 rfl ?_
 exact ⟨_, rfl, rfl, fB⟩
def rickyardref12_Charts.f (fu : Nat) (a0 : S_api_Geometry) : Option Int := ((rickyardref12_Need.f fu a0.Blocks 384).bind fun t7 => some (t7))
theorem rickyardref12_Charts.ok (fu : Nat) (w : World) (a0 : S_api_Geometry) (r : Int) (h : rickyardref12_Charts.f fu a0 = some r) :
  Calls Try.prog 116 (([aggV [(sI a0.Blocks), (sI a0.Slots), (sI a0.Gens)]] : List Value).toArray) w (fun e w' => ∃ v, e = .returned v ∧ v = .int .i64 r ∧ Gr w w') := by
 unfold rickyardref12_Charts.f at h
 have fB : Gr w w := Fr.refl _ _
 refine calls_cw Try.func116 rfl Try.ntmps116 rfl ?_
 refine cw_seq ?_
 refine cw_region ?_
 refine ol_op (opv_box (ss := [(sI a0.Blocks), (sI a0.Slots), (sI a0.Gens)]) rfl rfl rfl) rfl rfl rfl ?_
 rintro _ w6 ⟨G1, rfl, b2, q3, z4⟩
 have z4 := Nat.le_trans fB.size z4
 have fB := fB.gr q3
 refine ol_val (v := .int .i64 0) (xr_assign rfl rfl) rfl rfl rfl ?_
 refine ol_nil ?_
 refine cw_seq ?_
 refine cw_region ?_
 refine ol_val (v := (pt G1 0)) (xr_fieldAddr (p := 0) (q := 0) rfl fl106_0 rfl) rfl rfl rfl ?_
 refine ol_val (v := .int .i64 a0.Blocks) (xr_load1 (v := .int .i64 a0.Blocks) rfl ag3 rfl (b2.seg 0 rfl rfl)) rfl rfl rfl ?_
 obtain ⟨t7, k8, h⟩ := bs h
 refine ol_op (opv_call rfl cal136 (ac rfl (ac rfl an)) (rickyardref12_Need.ok fu _ a0.Blocks 384 _ k8)) rfl rfl rfl ?_
 rintro _ w10 ⟨rfl, q9⟩
 have fB := fB.gr q9
 refine ol_val (v := .int .i64 t7) (xr_assign rfl rfl) rfl rfl rfl ?_
 refine ol_nil ?_
 refine cw_ret ?_
 repeat (first | with_reducible refine thn_r ?_ | with_reducible refine blk_r ?_)
 obtain rfl := Option.some.inj h
 refine fin_ret1 Try.results116 rfl ?_
 exact ⟨_, rfl, rfl, fB⟩
def rickyardref13_Right.s2 (fu : Nat) (a0 : S_api_Super) (s118 : (List Int) × Int) : Int → Option (Sum (Sum (Sum (Sum Bool (List Int)) ((List Int) × Int)) Unit) Int) := fun s150 => (if (decide (s150 < s118.2)) = true then (if 0 ≤ s150 ∧ s150 < (List.length a0.Charts : Int) then (if 0 ≤ s118.2 ∧ s118.2 < (List.length a0.Charts : Int) then (if (decide ((ix a0.Charts s150) = (ix a0.Charts s118.2))) = true then some (Sum.inl (Sum.inl (Sum.inl (Sum.inl (false))))) else some (Sum.inr ((IntKind.i64.wrap (s150 + 1))))) else none) else none) else some (Sum.inl (Sum.inr ())))
def rickyardref13_Right.s1 (fu : Nat) (a0 : S_api_Super) : ((List Int) × Int) → Option (Sum (Sum Bool (List Int)) ((List Int) × Int)) := fun s118 => (if (decide (s118.2 < (List.length a0.Charts : Int))) = true then (if 0 ≤ s118.2 ∧ s118.2 < (List.length a0.Charts : Int) then (if List.length s118.1 + List.length [(ix a0.Charts s118.2)] ≤ LIM then ((loopM (rickyardref13_Right.s2 fu a0 s118) fu (0)).bind fun e151 => match e151 with | Sum.inl p => some p | Sum.inr x154 => some (Sum.inr ((s118.1 ++ [(ix a0.Charts s118.2)]), (IntKind.i64.wrap (s118.2 + 1))))) else none) else none) else some (Sum.inl (Sum.inr (s118.1))))
def rickyardref13_Right.s3 (fu : Nat) (a0 : S_api_Super) (x122 : (List Int)) : Int → Option (Sum (Sum Bool Unit) Int) := fun s169 => (if (decide (s169 < (List.length x122 : Int))) = true then (((if 0 ≤ s169 ∧ s169 < (List.length x122 : Int) then (if (decide ((ix x122 s169) < 2)) = true then some (true) else (if 0 ≤ s169 ∧ s169 < (List.length x122 : Int) then some ((decide ((ix x122 s169) ≥ a0.Tickets.Geometry.Blocks))) else none)) else none) : Option Bool).bind fun x178 => (if x178 = true then some (Sum.inl (Sum.inl (false))) else some (Sum.inr ((IntKind.i64.wrap (s169 + 1)))))) else some (Sum.inl (Sum.inr ())))
def rickyardref13_Right.f (fu : Nat) (a0 : S_api_Super) : Option Bool := (((if (decide (a0.Epoch < 1)) = true then some (true) else (if (decide (a0.Epoch > 4611686018427387904)) = true then some (true) else ((rickyardref12_Right.f fu a0.Tickets.Geometry).bind fun t11 => some ((!t11))))) : Option Bool).bind fun x7 => (if x7 = true then some (false) else (((if (decide (a0.Tickets.High < 0)) = true then some (true) else (if (decide (a0.Tickets.High > a0.Tickets.Geometry.Slots)) = true then some (true) else (if (decide (a0.Tickets.Free < 0)) = true then some (true) else (if (decide (a0.Tickets.Free > a0.Tickets.High)) = true then some (true) else ((rickyardref12_Charts.f fu a0.Tickets.Geometry).bind fun t57 => some ((!decide ((List.length a0.Charts : Int) = t57)))))))) : Option Bool).bind fun x19 => (if x19 = true then some (false) else (((if (decide (a0.Tickets.High = 0)) = true then (if (!decide (a0.Tickets.Top = 0)) = true then some (Sum.inl (false)) else some (Sum.inr ([]))) else (if List.length ([] : List Int) + List.length [a0.Tickets.Top] ≤ LIM then some (Sum.inr ((([] : List Int) ++ [a0.Tickets.Top]))) else none)) : Option (Sum Bool (List Int))).bind fun x67 => match x67 with | Sum.inl p => some p | Sum.inr x70 => (((if (!decide (a0.Dir = 0)) = true then (if List.length x70 + List.length [a0.Dir] ≤ LIM then some ((x70 ++ [a0.Dir])) else none) else some (x70)) : Option (List Int)).bind fun x93 => ((loopM (rickyardref13_Right.s1 fu a0) fu (x93, 0)).bind fun e119 => match e119 with | Sum.inl p => some p | Sum.inr x122 => ((loopM (rickyardref13_Right.s3 fu a0 x122) fu (0)).bind fun e170 => match e170 with | Sum.inl p => some p | Sum.inr x173 => some (true)))))))))
theorem rickyardref13_Right.ok (fu : Nat) (w : World) (a0 : S_api_Super) (V0_0 : Value) (R0_0 : Rd (kI .i64) w V0_0 a0.Charts) (r : Bool) (h : rickyardref13_Right.f fu a0 = some r) :
  Calls Try.prog 75 (([aggV [(sI a0.Epoch), (sI a0.Tickets.Geometry.Blocks), (sI a0.Tickets.Geometry.Slots), (sI a0.Tickets.Geometry.Gens), (sI a0.Tickets.Top), (sI a0.Tickets.High), (sI a0.Tickets.Free), (sI a0.Dir), Seg.cell V0_0 R0_0.one]] : List Value).toArray) w (fun e w' => ∃ v, e = .returned v ∧ v = .bool r ∧ Gr w w') := by
 unfold rickyardref13_Right.f at h
 have fB : Gr w w := Fr.refl _ _
 refine calls_cw Try.func75 rfl Try.ntmps75 rfl ?_
 refine cw_seq ?_
 refine cw_region ?_
 refine ol_op (opv_box (ss := [(sI a0.Epoch), (sI a0.Tickets.Geometry.Blocks), (sI a0.Tickets.Geometry.Slots), (sI a0.Tickets.Geometry.Gens), (sI a0.Tickets.Top), (sI a0.Tickets.High), (sI a0.Tickets.Free), (sI a0.Dir), Seg.cell V0_0 R0_0.one]) rfl rfl rfl) rfl rfl rfl ?_
 rintro _ w6 ⟨G1, rfl, b2, q3, z4⟩
 have z4 := Nat.le_trans fB.size z4
 have fB := fB.gr q3
 refine ol_val (v := .bool false) (xr_assign rfl rfl) rfl rfl rfl ?_
 refine ol_nil ?_
 refine cw_seq ?_
 refine cw_seq ?_
 obtain ⟨x7, j8, h⟩ := bs h
 refine cw_mid (fun ρ' w' => ρ' 1 = (pt G1 0) ∧ ρ' 21 = .bool x7 ∧ Gr w6 w') ?_ ?_
 ·skip
  refine cw_region ?_
  refine ol_val (v := (pt G1 0)) (xr_fieldAddr (p := 0) (q := 0) rfl fl110_0 rfl) rfl rfl rfl ?_
  refine ol_val (v := .int .i64 a0.Epoch) (xr_load1 (v := .int .i64 a0.Epoch) rfl ag3 rfl (b2.seg 0 rfl rfl)) rfl rfl rfl ?_
  refine ol_val (v := .bool (decide (a0.Epoch < 1))) (xr_lss rfl rfl rfl) rfl rfl rfl ?_
  refine ol_val (v := .bool (decide (a0.Epoch < 1))) (xr_move rfl rfl) rfl rfl rfl ?_
  rcases is j8 with ⟨c9, j8⟩ | ⟨c9, j8⟩
  ·skip
   refine ol_gskip rfl rfl rfl rfl rfl c9 ?_
   refine ol_gskip rfl rfl rfl rfl rfl c9 ?_
   refine ol_gskip rfl rfl rfl rfl rfl c9 ?_
   refine ol_val (v := .bool true) (xr_pickT rfl rfl c9 rfl) rfl rfl rfl ?_
   refine ol_val (v := .bool true) (xr_move rfl rfl) rfl rfl rfl ?_
   refine ol_gskip rfl rfl rfl rfl rfl rfl ?_
   refine ol_gskip rfl rfl rfl rfl rfl rfl ?_
   refine ol_gskip rfl rfl rfl rfl rfl rfl ?_
   refine ol_gskip rfl rfl rfl rfl rfl rfl ?_
   refine ol_gskip rfl rfl rfl rfl rfl rfl ?_
   refine ol_val (v := .bool true) (xr_pickT rfl rfl rfl rfl) rfl rfl rfl ?_
   refine ol_nil ?_
   obtain rfl := Option.some.inj j8
   refine thn_i ?_
   exact ⟨rfl, rfl, Fr.refl _ _⟩
  refine ol_gval (v := (pt G1 0)) (xr_fieldAddr (p := 0) (q := 0) rfl fl110_0 rfl) rfl rfl rfl rfl rfl c9 ?_
  refine ol_gval (v := .int .i64 a0.Epoch) (xr_load1 (v := .int .i64 a0.Epoch) rfl ag3 rfl (b2.seg 0 rfl rfl)) rfl rfl rfl rfl rfl c9 ?_
  refine ol_gval (v := .bool (decide (a0.Epoch > 4611686018427387904))) (xr_gtr rfl rfl rfl) rfl rfl rfl rfl rfl c9 ?_
  refine ol_val (v := .bool (decide (a0.Epoch > 4611686018427387904))) (xr_pickF rfl rfl c9 rfl) rfl rfl rfl ?_
  refine ol_val (v := .bool (decide (a0.Epoch > 4611686018427387904))) (xr_move rfl rfl) rfl rfl rfl ?_
  rcases is j8 with ⟨c10, j8⟩ | ⟨c10, j8⟩
  ·skip
   refine ol_gskip rfl rfl rfl rfl rfl c10 ?_
   refine ol_gskip rfl rfl rfl rfl rfl c10 ?_
   refine ol_gskip rfl rfl rfl rfl rfl c10 ?_
   refine ol_gskip rfl rfl rfl rfl rfl c10 ?_
   refine ol_gskip rfl rfl rfl rfl rfl c10 ?_
   refine ol_val (v := .bool true) (xr_pickT rfl rfl c10 rfl) rfl rfl rfl ?_
   refine ol_nil ?_
   obtain rfl := Option.some.inj j8
   refine thn_i ?_
   exact ⟨rfl, rfl, Fr.refl _ _⟩
  refine ol_gval (v := (pt G1 1)) (xr_fieldAddr (p := 0) (q := 1) rfl fl110_1 rfl) rfl rfl rfl rfl rfl c10 ?_
  refine ol_gval (v := (pt G1 1)) (xr_fieldAddr (p := 1) (q := 0) rfl fl108_0 rfl) rfl rfl rfl rfl rfl c10 ?_
  refine ol_gval (v := aggV [(sI a0.Tickets.Geometry.Blocks), (sI a0.Tickets.Geometry.Slots), (sI a0.Tickets.Geometry.Gens)]) (xr_loadS (ss := [(sI a0.Tickets.Geometry.Blocks), (sI a0.Tickets.Geometry.Slots), (sI a0.Tickets.Geometry.Gens)]) rfl ag106 sz106 rfl rfl (b2.segs 1 3 rfl)) rfl rfl rfl rfl rfl c10 ?_
  obtain ⟨t11, k12, j8⟩ := bs j8
  refine ol_gop (opv_call rfl cal115 (ac rfl an) (rickyardref12_Right.ok fu _ a0.Tickets.Geometry _ k12)) rfl rfl rfl rfl rfl c10 ?_
  rintro _ w14 ⟨rfl, q13⟩
  have b2 := b2.gr q13
  have fB := fB.gr q13
  refine ol_gval (v := .bool (!t11)) (xr_not rfl rfl) rfl rfl rfl rfl rfl c10 ?_
  refine ol_val (v := .bool (!t11)) (xr_pickF rfl rfl c10 rfl) rfl rfl rfl ?_
  refine ol_nil ?_
  obtain rfl := Option.some.inj j8
  refine thn_i ?_
  exact ⟨rfl, rfl, q13⟩
 rintro ρ15 w16 ⟨e1, e21, q17⟩
 have b2 := b2.gr q17
 have fB := fB.gr q17
 rcases is h with ⟨c18, h⟩ | ⟨c18, h⟩
 ·refine cw_condT e21 c18 ?_
  refine cw_seq ?_
  refine cw_region ?_
  refine ol_val (v := .bool false) (xr_assign rfl rfl) rfl rfl rfl ?_
  refine ol_nil ?_
  refine cw_ret ?_
  repeat (first | with_reducible refine thn_r ?_ | with_reducible refine blk_r ?_)
  obtain rfl := Option.some.inj h
  refine fin_ret1 Try.results75 rfl ?_
  exact ⟨_, rfl, rfl, fB⟩
 refine cw_condF e21 c18 ?_
 refine cw_skip ?_
 refine cw_seq ?_
 refine cw_seq ?_
 obtain ⟨x19, j20, h⟩ := bs h
 refine cw_mid (fun ρ' w' => ρ' 1 = (pt G1 0) ∧ ρ' 60 = .bool x19 ∧ Gr w16 w') ?_ ?_
 ·skip
  refine rd_region mo ?_
  intro w21 q22
  have b2 := b2.gr q22
  have fB := fB.gr q22
  refine rd_seq (m := 0) (n := 5) rfl ?_
  refine ol_val (v := (pt G1 1)) (xr_fieldAddr (p := 0) (q := 1) rfl fl110_1 e1) rfl rfl rfl ?_
  refine ol_val (v := (pt G1 5)) (xr_fieldAddr (p := 1) (q := 4) rfl fl108_2 rfl) rfl rfl rfl ?_
  refine ol_val (v := .int .i64 a0.Tickets.High) (xr_load1 (v := .int .i64 a0.Tickets.High) rfl ag3 rfl (b2.seg 5 rfl rfl)) rfl rfl rfl ?_
  refine ol_val (v := .bool (decide (a0.Tickets.High < 0))) (xr_lss rfl rfl rfl) rfl rfl rfl ?_
  refine ol_val (v := .bool (decide (a0.Tickets.High < 0))) (xr_move rfl rfl) rfl rfl rfl ?_
  refine ol_nilK ?_
  rcases is j20 with ⟨c23, j20⟩ | ⟨c23, j20⟩
  ·skip
   refine rd_drawL 5 12 [fun vz _ => vz = undef, fun vz _ => vz = undef, fun vz _ => vz = undef, fun vz _ => vz = undef, fun vz _ => vz = undef, fun vz _ => vz = undef, fun vz _ => vz = undef] rfl ⟨fun _ _ _ h _ => h, fun _ _ _ h _ => h, fun _ _ _ h _ => h, fun _ _ _ h _ => h, fun _ _ _ h _ => h, fun _ _ _ h _ => h, fun _ _ _ h _ => h, trivial⟩ ?_ ?_
   ·refine ⟨?_, ?_, ?_, ?_, ?_, ?_, ?_, trivial⟩
    ·intro ρz wz hz hk hd
     exact sk_skip rfl rfl ((hk 26 rfl).trans rfl) c23 rfl
    ·intro ρz wz hz hk hd
     exact sk_skip rfl rfl ((hk 26 rfl).trans rfl) c23 rfl
    ·intro ρz wz hz hk hd
     exact sk_skip rfl rfl ((hk 26 rfl).trans rfl) c23 rfl
    ·intro ρz wz hz hk hd
     exact sk_skip rfl rfl ((hk 26 rfl).trans rfl) c23 rfl
    ·intro ρz wz hz hk hd
     exact sk_skip rfl rfl ((hk 26 rfl).trans rfl) c23 rfl
    ·intro ρz wz hz hk hd
     exact sk_skip rfl rfl ((hk 26 rfl).trans rfl) c23 rfl
    intro ρz wz hz hk hd
    exact sk_skip rfl rfl ((hk 26 rfl).trans rfl) c23 rfl
   intro ρ24 w25 q26 hk hd
   have e1 := (hk 1 rfl).trans e1
   have e26 := (hk 26 rfl).trans rfl
   have e29 := hd 7 rfl rfl 29 rfl
   have e33 := hd 11 rfl rfl 33 rfl
   have b2 := b2.gr q26
   have fB := fB.gr q26
   refine rd_seq (m := 12) (n := 21) rfl ?_
   refine ol_gskip rfl rfl rfl rfl e26 c23 ?_
   refine ol_val (v := .bool true) (xr_pickT rfl e26 c23 rfl) rfl rfl rfl ?_
   refine ol_val (v := .bool true) (xr_move rfl rfl) rfl rfl rfl ?_
   refine ol_gskip rfl rfl rfl rfl rfl rfl ?_
   refine ol_gskip rfl rfl rfl rfl rfl rfl ?_
   refine ol_gskip rfl rfl rfl rfl rfl rfl ?_
   refine ol_gskip rfl rfl rfl rfl rfl rfl ?_
   refine ol_val (v := .bool true) (xr_pickT rfl rfl rfl rfl) rfl rfl rfl ?_
   refine ol_val (v := .bool true) (xr_move rfl rfl) rfl rfl rfl ?_
   refine ol_nilK ?_
   refine rd_drawL 21 27 [fun vz _ => vz = undef, fun vz _ => vz = undef, fun vz _ => vz = undef, fun vz _ => vz = undef, fun vz _ => vz = undef, fun vz _ => vz = undef] rfl ⟨fun _ _ _ h _ => h, fun _ _ _ h _ => h, fun _ _ _ h _ => h, fun _ _ _ h _ => h, fun _ _ _ h _ => h, fun _ _ _ h _ => h, trivial⟩ ?_ ?_
   ·refine ⟨?_, ?_, ?_, ?_, ?_, ?_, trivial⟩
    ·intro ρz wz hz hk hd
     exact sk_skip rfl rfl ((hk 42 rfl).trans rfl) rfl rfl
    ·intro ρz wz hz hk hd
     exact sk_skip rfl rfl ((hk 42 rfl).trans rfl) rfl rfl
    ·intro ρz wz hz hk hd
     exact sk_skip rfl rfl ((hk 42 rfl).trans rfl) rfl rfl
    ·intro ρz wz hz hk hd
     exact sk_skip rfl rfl ((hk 42 rfl).trans rfl) rfl rfl
    ·intro ρz wz hz hk hd
     exact sk_skip rfl rfl ((hk 42 rfl).trans rfl) rfl rfl
    intro ρz wz hz hk hd
    exact sk_skip rfl rfl ((hk 42 rfl).trans rfl) rfl rfl
   intro ρ27 w28 q29 hk hd
   have e1 := (hk 1 rfl).trans e1
   have e42 := (hk 42 rfl).trans rfl
   have e45 := hd 23 rfl rfl 45 rfl
   have e48 := hd 26 rfl rfl 48 rfl
   have b2 := b2.gr q29
   have fB := fB.gr q29
   refine rd_seq (m := 27) (n := 30) rfl ?_
   refine ol_gskip rfl rfl rfl rfl e42 rfl ?_
   refine ol_val (v := .bool true) (xr_pickT rfl e42 rfl rfl) rfl rfl rfl ?_
   refine ol_val (v := .bool true) (xr_move rfl rfl) rfl rfl rfl ?_
   refine ol_nilK ?_
   refine rd_drawL 30 37 [fun vz _ => vz = undef, fun vz _ => vz = undef, fun vz _ => vz = undef, fun vz _ => vz = undef, fun vz _ => vz = undef, fun vz _ => vz = undef, fun vz _ => vz = undef] rfl ⟨fun _ _ _ h _ => h, fun _ _ _ h _ => h, fun _ _ _ h _ => h, fun _ _ _ h _ => h, fun _ _ _ h _ => h, fun _ _ _ h _ => h, fun _ _ _ h _ => h, trivial⟩ ?_ ?_
   ·refine ⟨?_, ?_, ?_, ?_, ?_, ?_, ?_, trivial⟩
    ·intro ρz wz hz hk hd
     exact sk_skip rfl rfl ((hk 51 rfl).trans rfl) rfl rfl
    ·intro ρz wz hz hk hd
     exact sk_skip rfl rfl ((hk 51 rfl).trans rfl) rfl rfl
    ·intro ρz wz hz hk hd
     exact sk_skip rfl rfl ((hk 51 rfl).trans rfl) rfl rfl
    ·intro ρz wz hz hk hd
     exact sk_skip rfl rfl ((hk 51 rfl).trans rfl) rfl rfl
    ·intro ρz wz hz hk hd
     exact sk_skip rfl rfl ((hk 51 rfl).trans rfl) rfl rfl
    ·intro ρz wz hz hk hd
     exact sk_skip rfl rfl ((hk 51 rfl).trans rfl) rfl rfl
    intro ρz wz hz hk hd
    exact sk_skip rfl rfl ((hk 51 rfl).trans rfl) rfl rfl
   intro ρ30 w31 q32 hk hd
   have e1 := (hk 1 rfl).trans e1
   have e51 := (hk 51 rfl).trans rfl
   have e54 := hd 32 rfl rfl 54 rfl
   have e58 := hd 36 rfl rfl 58 rfl
   have b2 := b2.gr q32
   have fB := fB.gr q32
   refine rd_seq (m := 37) (n := 39) rfl ?_
   refine ol_gskip rfl rfl rfl rfl e51 rfl ?_
   refine ol_val (v := .bool true) (xr_pickT rfl e51 rfl rfl) rfl rfl rfl ?_
   refine ol_nilK ?_
   refine rd_end rfl ?_
   obtain rfl := Option.some.inj j20
   refine thn_i ?_
   exact ⟨e1, rfl, (((q22.gr q26).gr q29).gr q32)⟩
  refine rd_drawL 5 12 [fun vz wz => vz = ((pt G1 1) : Value), fun vz wz => vz = ((pt G1 5) : Value), fun vz wz => vz = (.int .i64 a0.Tickets.High : Value), fun vz wz => vz = ((pt G1 1) : Value), fun vz wz => vz = ((pt G1 1) : Value), fun vz wz => vz = ((pt G1 2) : Value), fun vz wz => vz = (.int .i64 a0.Tickets.Geometry.Slots : Value)] rfl ⟨fun _ _ _ h _ => h, fun _ _ _ h _ => h, fun _ _ _ h _ => h, fun _ _ _ h _ => h, fun _ _ _ h _ => h, fun _ _ _ h _ => h, fun _ _ _ h _ => h, trivial⟩ ?_ ?_
  ·refine ⟨?_, ?_, ?_, ?_, ?_, ?_, ?_, trivial⟩
   ·intro ρz wz hz hk hd
    exact sk_gval (v := (pt G1 1)) (xr_fieldAddr (p := 0) (q := 1) rfl fl110_1 ((hk 1 rfl).trans e1)) rfl rfl ((hk 26 rfl).trans rfl) c23 rfl
   ·intro ρz wz hz hk hd
    exact sk_gval (v := (pt G1 5)) (xr_fieldAddr (p := 1) (q := 4) rfl fl108_2 (hd 5 rfl rfl 27 rfl)) rfl rfl ((hk 26 rfl).trans rfl) c23 rfl
   ·intro ρz wz hz hk hd
    exact sk_gval (v := .int .i64 a0.Tickets.High) (xr_load1 (v := .int .i64 a0.Tickets.High) rfl ag3 (hd 6 rfl rfl 28 rfl) ((b2.gr hz).seg 5 rfl rfl)) rfl rfl ((hk 26 rfl).trans rfl) c23 rfl
   ·intro ρz wz hz hk hd
    exact sk_gval (v := (pt G1 1)) (xr_fieldAddr (p := 0) (q := 1) rfl fl110_1 ((hk 1 rfl).trans e1)) rfl rfl ((hk 26 rfl).trans rfl) c23 rfl
   ·intro ρz wz hz hk hd
    exact sk_gval (v := (pt G1 1)) (xr_fieldAddr (p := 1) (q := 0) rfl fl108_0 (hd 8 rfl rfl 30 rfl)) rfl rfl ((hk 26 rfl).trans rfl) c23 rfl
   ·intro ρz wz hz hk hd
    exact sk_gval (v := (pt G1 2)) (xr_fieldAddr (p := 1) (q := 1) rfl fl106_1 (hd 9 rfl rfl 31 rfl)) rfl rfl ((hk 26 rfl).trans rfl) c23 rfl
   intro ρz wz hz hk hd
   exact sk_gval (v := .int .i64 a0.Tickets.Geometry.Slots) (xr_load1 (v := .int .i64 a0.Tickets.Geometry.Slots) rfl ag3 (hd 10 rfl rfl 32 rfl) ((b2.gr hz).seg 2 rfl rfl)) rfl rfl ((hk 26 rfl).trans rfl) c23 rfl
  intro ρ33 w34 q35 hk hd
  have e1 := (hk 1 rfl).trans e1
  have e26 := (hk 26 rfl).trans rfl
  have e29 := hd 7 rfl rfl 29 rfl
  have e33 := hd 11 rfl rfl 33 rfl
  have b2 := b2.gr q35
  have fB := fB.gr q35
  refine rd_seq (m := 12) (n := 21) rfl ?_
  refine ol_gval (v := .bool (decide (a0.Tickets.High > a0.Tickets.Geometry.Slots))) (xr_gtr rfl e29 e33) rfl rfl rfl rfl e26 c23 ?_
  refine ol_val (v := .bool (decide (a0.Tickets.High > a0.Tickets.Geometry.Slots))) (xr_pickF rfl e26 c23 rfl) rfl rfl rfl ?_
  refine ol_val (v := .bool (decide (a0.Tickets.High > a0.Tickets.Geometry.Slots))) (xr_move rfl rfl) rfl rfl rfl ?_
  rcases is j20 with ⟨c36, j20⟩ | ⟨c36, j20⟩
  ·skip
   refine ol_gskip rfl rfl rfl rfl rfl c36 ?_
   refine ol_gskip rfl rfl rfl rfl rfl c36 ?_
   refine ol_gskip rfl rfl rfl rfl rfl c36 ?_
   refine ol_gskip rfl rfl rfl rfl rfl c36 ?_
   refine ol_val (v := .bool true) (xr_pickT rfl rfl c36 rfl) rfl rfl rfl ?_
   refine ol_val (v := .bool true) (xr_move rfl rfl) rfl rfl rfl ?_
   refine ol_nilK ?_
   refine rd_drawL 21 27 [fun vz _ => vz = undef, fun vz _ => vz = undef, fun vz _ => vz = undef, fun vz _ => vz = undef, fun vz _ => vz = undef, fun vz _ => vz = undef] rfl ⟨fun _ _ _ h _ => h, fun _ _ _ h _ => h, fun _ _ _ h _ => h, fun _ _ _ h _ => h, fun _ _ _ h _ => h, fun _ _ _ h _ => h, trivial⟩ ?_ ?_
   ·refine ⟨?_, ?_, ?_, ?_, ?_, ?_, trivial⟩
    ·intro ρz wz hz hk hd
     exact sk_skip rfl rfl ((hk 42 rfl).trans rfl) rfl rfl
    ·intro ρz wz hz hk hd
     exact sk_skip rfl rfl ((hk 42 rfl).trans rfl) rfl rfl
    ·intro ρz wz hz hk hd
     exact sk_skip rfl rfl ((hk 42 rfl).trans rfl) rfl rfl
    ·intro ρz wz hz hk hd
     exact sk_skip rfl rfl ((hk 42 rfl).trans rfl) rfl rfl
    ·intro ρz wz hz hk hd
     exact sk_skip rfl rfl ((hk 42 rfl).trans rfl) rfl rfl
    intro ρz wz hz hk hd
    exact sk_skip rfl rfl ((hk 42 rfl).trans rfl) rfl rfl
   intro ρ37 w38 q39 hk hd
   have e1 := (hk 1 rfl).trans e1
   have e42 := (hk 42 rfl).trans rfl
   have e45 := hd 23 rfl rfl 45 rfl
   have e48 := hd 26 rfl rfl 48 rfl
   have b2 := b2.gr q39
   have fB := fB.gr q39
   refine rd_seq (m := 27) (n := 30) rfl ?_
   refine ol_gskip rfl rfl rfl rfl e42 rfl ?_
   refine ol_val (v := .bool true) (xr_pickT rfl e42 rfl rfl) rfl rfl rfl ?_
   refine ol_val (v := .bool true) (xr_move rfl rfl) rfl rfl rfl ?_
   refine ol_nilK ?_
   refine rd_drawL 30 37 [fun vz _ => vz = undef, fun vz _ => vz = undef, fun vz _ => vz = undef, fun vz _ => vz = undef, fun vz _ => vz = undef, fun vz _ => vz = undef, fun vz _ => vz = undef] rfl ⟨fun _ _ _ h _ => h, fun _ _ _ h _ => h, fun _ _ _ h _ => h, fun _ _ _ h _ => h, fun _ _ _ h _ => h, fun _ _ _ h _ => h, fun _ _ _ h _ => h, trivial⟩ ?_ ?_
   ·refine ⟨?_, ?_, ?_, ?_, ?_, ?_, ?_, trivial⟩
    ·intro ρz wz hz hk hd
     exact sk_skip rfl rfl ((hk 51 rfl).trans rfl) rfl rfl
    ·intro ρz wz hz hk hd
     exact sk_skip rfl rfl ((hk 51 rfl).trans rfl) rfl rfl
    ·intro ρz wz hz hk hd
     exact sk_skip rfl rfl ((hk 51 rfl).trans rfl) rfl rfl
    ·intro ρz wz hz hk hd
     exact sk_skip rfl rfl ((hk 51 rfl).trans rfl) rfl rfl
    ·intro ρz wz hz hk hd
     exact sk_skip rfl rfl ((hk 51 rfl).trans rfl) rfl rfl
    ·intro ρz wz hz hk hd
     exact sk_skip rfl rfl ((hk 51 rfl).trans rfl) rfl rfl
    intro ρz wz hz hk hd
    exact sk_skip rfl rfl ((hk 51 rfl).trans rfl) rfl rfl
   intro ρ40 w41 q42 hk hd
   have e1 := (hk 1 rfl).trans e1
   have e51 := (hk 51 rfl).trans rfl
   have e54 := hd 32 rfl rfl 54 rfl
   have e58 := hd 36 rfl rfl 58 rfl
   have b2 := b2.gr q42
   have fB := fB.gr q42
   refine rd_seq (m := 37) (n := 39) rfl ?_
   refine ol_gskip rfl rfl rfl rfl e51 rfl ?_
   refine ol_val (v := .bool true) (xr_pickT rfl e51 rfl rfl) rfl rfl rfl ?_
   refine ol_nilK ?_
   refine rd_end rfl ?_
   obtain rfl := Option.some.inj j20
   refine thn_i ?_
   exact ⟨e1, rfl, (((q22.gr q35).gr q39).gr q42)⟩
  refine ol_gval (v := (pt G1 1)) (xr_fieldAddr (p := 0) (q := 1) rfl fl110_1 e1) rfl rfl rfl rfl rfl c36 ?_
  refine ol_gval (v := (pt G1 6)) (xr_fieldAddr (p := 1) (q := 5) rfl fl108_3 rfl) rfl rfl rfl rfl rfl c36 ?_
  refine ol_gval (v := .int .i64 a0.Tickets.Free) (xr_load1 (v := .int .i64 a0.Tickets.Free) rfl ag3 rfl (b2.seg 6 rfl rfl)) rfl rfl rfl rfl rfl c36 ?_
  refine ol_gval (v := .bool (decide (a0.Tickets.Free < 0))) (xr_lss rfl rfl rfl) rfl rfl rfl rfl rfl c36 ?_
  refine ol_val (v := .bool (decide (a0.Tickets.Free < 0))) (xr_pickF rfl rfl c36 rfl) rfl rfl rfl ?_
  refine ol_val (v := .bool (decide (a0.Tickets.Free < 0))) (xr_move rfl rfl) rfl rfl rfl ?_
  refine ol_nilK ?_
  rcases is j20 with ⟨c43, j20⟩ | ⟨c43, j20⟩
  ·skip
   refine rd_drawL 21 27 [fun vz _ => vz = undef, fun vz _ => vz = undef, fun vz _ => vz = undef, fun vz _ => vz = undef, fun vz _ => vz = undef, fun vz _ => vz = undef] rfl ⟨fun _ _ _ h _ => h, fun _ _ _ h _ => h, fun _ _ _ h _ => h, fun _ _ _ h _ => h, fun _ _ _ h _ => h, fun _ _ _ h _ => h, trivial⟩ ?_ ?_
   ·refine ⟨?_, ?_, ?_, ?_, ?_, ?_, trivial⟩
    ·intro ρz wz hz hk hd
     exact sk_skip rfl rfl ((hk 42 rfl).trans rfl) c43 rfl
    ·intro ρz wz hz hk hd
     exact sk_skip rfl rfl ((hk 42 rfl).trans rfl) c43 rfl
    ·intro ρz wz hz hk hd
     exact sk_skip rfl rfl ((hk 42 rfl).trans rfl) c43 rfl
    ·intro ρz wz hz hk hd
     exact sk_skip rfl rfl ((hk 42 rfl).trans rfl) c43 rfl
    ·intro ρz wz hz hk hd
     exact sk_skip rfl rfl ((hk 42 rfl).trans rfl) c43 rfl
    intro ρz wz hz hk hd
    exact sk_skip rfl rfl ((hk 42 rfl).trans rfl) c43 rfl
   intro ρ44 w45 q46 hk hd
   have e1 := (hk 1 rfl).trans e1
   have e42 := (hk 42 rfl).trans rfl
   have e45 := hd 23 rfl rfl 45 rfl
   have e48 := hd 26 rfl rfl 48 rfl
   have b2 := b2.gr q46
   have fB := fB.gr q46
   refine rd_seq (m := 27) (n := 30) rfl ?_
   refine ol_gskip rfl rfl rfl rfl e42 c43 ?_
   refine ol_val (v := .bool true) (xr_pickT rfl e42 c43 rfl) rfl rfl rfl ?_
   refine ol_val (v := .bool true) (xr_move rfl rfl) rfl rfl rfl ?_
   refine ol_nilK ?_
   refine rd_drawL 30 37 [fun vz _ => vz = undef, fun vz _ => vz = undef, fun vz _ => vz = undef, fun vz _ => vz = undef, fun vz _ => vz = undef, fun vz _ => vz = undef, fun vz _ => vz = undef] rfl ⟨fun _ _ _ h _ => h, fun _ _ _ h _ => h, fun _ _ _ h _ => h, fun _ _ _ h _ => h, fun _ _ _ h _ => h, fun _ _ _ h _ => h, fun _ _ _ h _ => h, trivial⟩ ?_ ?_
   ·refine ⟨?_, ?_, ?_, ?_, ?_, ?_, ?_, trivial⟩
    ·intro ρz wz hz hk hd
     exact sk_skip rfl rfl ((hk 51 rfl).trans rfl) rfl rfl
    ·intro ρz wz hz hk hd
     exact sk_skip rfl rfl ((hk 51 rfl).trans rfl) rfl rfl
    ·intro ρz wz hz hk hd
     exact sk_skip rfl rfl ((hk 51 rfl).trans rfl) rfl rfl
    ·intro ρz wz hz hk hd
     exact sk_skip rfl rfl ((hk 51 rfl).trans rfl) rfl rfl
    ·intro ρz wz hz hk hd
     exact sk_skip rfl rfl ((hk 51 rfl).trans rfl) rfl rfl
    ·intro ρz wz hz hk hd
     exact sk_skip rfl rfl ((hk 51 rfl).trans rfl) rfl rfl
    intro ρz wz hz hk hd
    exact sk_skip rfl rfl ((hk 51 rfl).trans rfl) rfl rfl
   intro ρ47 w48 q49 hk hd
   have e1 := (hk 1 rfl).trans e1
   have e51 := (hk 51 rfl).trans rfl
   have e54 := hd 32 rfl rfl 54 rfl
   have e58 := hd 36 rfl rfl 58 rfl
   have b2 := b2.gr q49
   have fB := fB.gr q49
   refine rd_seq (m := 37) (n := 39) rfl ?_
   refine ol_gskip rfl rfl rfl rfl e51 rfl ?_
   refine ol_val (v := .bool true) (xr_pickT rfl e51 rfl rfl) rfl rfl rfl ?_
   refine ol_nilK ?_
   refine rd_end rfl ?_
   obtain rfl := Option.some.inj j20
   refine thn_i ?_
   exact ⟨e1, rfl, (((q22.gr q35).gr q46).gr q49)⟩
  refine rd_drawL 21 27 [fun vz wz => vz = ((pt G1 1) : Value), fun vz wz => vz = ((pt G1 6) : Value), fun vz wz => vz = (.int .i64 a0.Tickets.Free : Value), fun vz wz => vz = ((pt G1 1) : Value), fun vz wz => vz = ((pt G1 5) : Value), fun vz wz => vz = (.int .i64 a0.Tickets.High : Value)] rfl ⟨fun _ _ _ h _ => h, fun _ _ _ h _ => h, fun _ _ _ h _ => h, fun _ _ _ h _ => h, fun _ _ _ h _ => h, fun _ _ _ h _ => h, trivial⟩ ?_ ?_
  ·refine ⟨?_, ?_, ?_, ?_, ?_, ?_, trivial⟩
   ·intro ρz wz hz hk hd
    exact sk_gval (v := (pt G1 1)) (xr_fieldAddr (p := 0) (q := 1) rfl fl110_1 ((hk 1 rfl).trans e1)) rfl rfl ((hk 42 rfl).trans rfl) c43 rfl
   ·intro ρz wz hz hk hd
    exact sk_gval (v := (pt G1 6)) (xr_fieldAddr (p := 1) (q := 5) rfl fl108_3 (hd 21 rfl rfl 43 rfl)) rfl rfl ((hk 42 rfl).trans rfl) c43 rfl
   ·intro ρz wz hz hk hd
    exact sk_gval (v := .int .i64 a0.Tickets.Free) (xr_load1 (v := .int .i64 a0.Tickets.Free) rfl ag3 (hd 22 rfl rfl 44 rfl) ((b2.gr hz).seg 6 rfl rfl)) rfl rfl ((hk 42 rfl).trans rfl) c43 rfl
   ·intro ρz wz hz hk hd
    exact sk_gval (v := (pt G1 1)) (xr_fieldAddr (p := 0) (q := 1) rfl fl110_1 ((hk 1 rfl).trans e1)) rfl rfl ((hk 42 rfl).trans rfl) c43 rfl
   ·intro ρz wz hz hk hd
    exact sk_gval (v := (pt G1 5)) (xr_fieldAddr (p := 1) (q := 4) rfl fl108_2 (hd 24 rfl rfl 46 rfl)) rfl rfl ((hk 42 rfl).trans rfl) c43 rfl
   intro ρz wz hz hk hd
   exact sk_gval (v := .int .i64 a0.Tickets.High) (xr_load1 (v := .int .i64 a0.Tickets.High) rfl ag3 (hd 25 rfl rfl 47 rfl) ((b2.gr hz).seg 5 rfl rfl)) rfl rfl ((hk 42 rfl).trans rfl) c43 rfl
  intro ρ50 w51 q52 hk hd
  have e1 := (hk 1 rfl).trans e1
  have e42 := (hk 42 rfl).trans rfl
  have e45 := hd 23 rfl rfl 45 rfl
  have e48 := hd 26 rfl rfl 48 rfl
  have b2 := b2.gr q52
  have fB := fB.gr q52
  refine rd_seq (m := 27) (n := 30) rfl ?_
  refine ol_gval (v := .bool (decide (a0.Tickets.Free > a0.Tickets.High))) (xr_gtr rfl e45 e48) rfl rfl rfl rfl e42 c43 ?_
  refine ol_val (v := .bool (decide (a0.Tickets.Free > a0.Tickets.High))) (xr_pickF rfl e42 c43 rfl) rfl rfl rfl ?_
  refine ol_val (v := .bool (decide (a0.Tickets.Free > a0.Tickets.High))) (xr_move rfl rfl) rfl rfl rfl ?_
  refine ol_nilK ?_
  rcases is j20 with ⟨c53, j20⟩ | ⟨c53, j20⟩
  ·skip
   refine rd_drawL 30 37 [fun vz _ => vz = undef, fun vz _ => vz = undef, fun vz _ => vz = undef, fun vz _ => vz = undef, fun vz _ => vz = undef, fun vz _ => vz = undef, fun vz _ => vz = undef] rfl ⟨fun _ _ _ h _ => h, fun _ _ _ h _ => h, fun _ _ _ h _ => h, fun _ _ _ h _ => h, fun _ _ _ h _ => h, fun _ _ _ h _ => h, fun _ _ _ h _ => h, trivial⟩ ?_ ?_
   ·refine ⟨?_, ?_, ?_, ?_, ?_, ?_, ?_, trivial⟩
    ·intro ρz wz hz hk hd
     exact sk_skip rfl rfl ((hk 51 rfl).trans rfl) c53 rfl
    ·intro ρz wz hz hk hd
     exact sk_skip rfl rfl ((hk 51 rfl).trans rfl) c53 rfl
    ·intro ρz wz hz hk hd
     exact sk_skip rfl rfl ((hk 51 rfl).trans rfl) c53 rfl
    ·intro ρz wz hz hk hd
     exact sk_skip rfl rfl ((hk 51 rfl).trans rfl) c53 rfl
    ·intro ρz wz hz hk hd
     exact sk_skip rfl rfl ((hk 51 rfl).trans rfl) c53 rfl
    ·intro ρz wz hz hk hd
     exact sk_skip rfl rfl ((hk 51 rfl).trans rfl) c53 rfl
    intro ρz wz hz hk hd
    exact sk_skip rfl rfl ((hk 51 rfl).trans rfl) c53 rfl
   intro ρ54 w55 q56 hk hd
   have e1 := (hk 1 rfl).trans e1
   have e51 := (hk 51 rfl).trans rfl
   have e54 := hd 32 rfl rfl 54 rfl
   have e58 := hd 36 rfl rfl 58 rfl
   have b2 := b2.gr q56
   have fB := fB.gr q56
   refine rd_seq (m := 37) (n := 39) rfl ?_
   refine ol_gskip rfl rfl rfl rfl e51 c53 ?_
   refine ol_val (v := .bool true) (xr_pickT rfl e51 c53 rfl) rfl rfl rfl ?_
   refine ol_nilK ?_
   refine rd_end rfl ?_
   obtain rfl := Option.some.inj j20
   refine thn_i ?_
   exact ⟨e1, rfl, (((q22.gr q35).gr q52).gr q56)⟩
  obtain ⟨t57, k58, j20⟩ := bs j20
  refine rd_drawL 30 37 [fun vz wz => vz = ((pt G1 8) : Value), fun vz wz => vz = (V0_0 : Value), fun vz wz => vz = (.int .i64 (List.length a0.Charts : Int) : Value), fun vz wz => vz = ((pt G1 1) : Value), fun vz wz => vz = ((pt G1 1) : Value), fun vz wz => vz = (aggV [(sI a0.Tickets.Geometry.Blocks), (sI a0.Tickets.Geometry.Slots), (sI a0.Tickets.Geometry.Gens)] : Value), fun vz wz => vz = (.int .i64 t57 : Value)] rfl ⟨fun _ _ _ h _ => h, fun _ _ _ h _ => h, fun _ _ _ h _ => h, fun _ _ _ h _ => h, fun _ _ _ h _ => h, fun _ _ _ h _ => h, fun _ _ _ h _ => h, trivial⟩ ?_ ?_
  ·refine ⟨?_, ?_, ?_, ?_, ?_, ?_, ?_, trivial⟩
   ·intro ρz wz hz hk hd
    exact sk_gval (v := (pt G1 8)) (xr_fieldAddr (p := 0) (q := 8) rfl fl110_3 ((hk 1 rfl).trans e1)) rfl rfl ((hk 51 rfl).trans rfl) c53 rfl
   ·intro ρz wz hz hk hd
    exact sk_gval (v := V0_0) (xr_load1 (v := V0_0) rfl ag25 (hd 30 rfl rfl 52 rfl) ((b2.gr hz).seg 8 rfl rfl)) rfl rfl ((hk 51 rfl).trans rfl) c53 rfl
   ·intro ρz wz hz hk hd
    exact sk_gval (v := .int .i64 (List.length a0.Charts : Int)) (xr_lenR rfl Try.underlying25 (hd 31 rfl rfl 53 rfl) (R0_0.gr (fB.gr hz))) rfl rfl ((hk 51 rfl).trans rfl) c53 rfl
   ·intro ρz wz hz hk hd
    exact sk_gval (v := (pt G1 1)) (xr_fieldAddr (p := 0) (q := 1) rfl fl110_1 ((hk 1 rfl).trans e1)) rfl rfl ((hk 51 rfl).trans rfl) c53 rfl
   ·intro ρz wz hz hk hd
    exact sk_gval (v := (pt G1 1)) (xr_fieldAddr (p := 1) (q := 0) rfl fl108_0 (hd 33 rfl rfl 55 rfl)) rfl rfl ((hk 51 rfl).trans rfl) c53 rfl
   ·intro ρz wz hz hk hd
    exact sk_gval (xr_loadS (ss := [(sI a0.Tickets.Geometry.Blocks), (sI a0.Tickets.Geometry.Slots), (sI a0.Tickets.Geometry.Gens)]) rfl ag106 sz106 rfl (hd 34 rfl rfl 56 rfl) ((b2.gr hz).segs 1 3 rfl)) rfl rfl ((hk 51 rfl).trans rfl) c53 rfl
   intro ρz wz hz hk hd
   refine sk_gop (opv_call rfl cal116 (ac (hd 35 rfl rfl 57 rfl) an) (rickyardref12_Charts.ok fu _ a0.Tickets.Geometry _ k58)) rfl rfl ((hk 51 rfl).trans rfl) c53 ?_
   rintro _ wy ⟨rfl, q59⟩
   exact ⟨rfl, q59⟩
  intro ρ60 w61 q62 hk hd
  have e1 := (hk 1 rfl).trans e1
  have e51 := (hk 51 rfl).trans rfl
  have e54 := hd 32 rfl rfl 54 rfl
  have e58 := hd 36 rfl rfl 58 rfl
  have b2 := b2.gr q62
  have fB := fB.gr q62
  refine rd_seq (m := 37) (n := 39) rfl ?_
  refine ol_gval (v := .bool (!decide ((List.length a0.Charts : Int) = t57))) (xr_neI rfl Try.underlying3 rfl e54 e58) rfl rfl rfl rfl e51 c53 ?_
  refine ol_val (v := .bool (!decide ((List.length a0.Charts : Int) = t57))) (xr_pickF rfl e51 c53 rfl) rfl rfl rfl ?_
  refine ol_nilK ?_
  refine rd_end rfl ?_
  obtain rfl := Option.some.inj j20
  refine thn_i ?_
  exact ⟨e1, rfl, (((q22.gr q35).gr q52).gr q62)⟩
 rintro ρ63 w64 ⟨e1, e60, q65⟩
 have b2 := b2.gr q65
 have fB := fB.gr q65
 rcases is h with ⟨c66, h⟩ | ⟨c66, h⟩
 ·refine cw_condT e60 c66 ?_
  refine cw_seq ?_
  refine cw_region ?_
  refine ol_val (v := .bool false) (xr_assign rfl rfl) rfl rfl rfl ?_
  refine ol_nil ?_
  refine cw_ret ?_
  repeat (first | with_reducible refine thn_r ?_ | with_reducible refine blk_r ?_)
  obtain rfl := Option.some.inj h
  refine fin_ret1 Try.results75 rfl ?_
  exact ⟨_, rfl, rfl, fB⟩
 refine cw_condF e60 c66 ?_
 refine cw_skip ?_
 refine cw_seq ?_
 refine cw_region ?_
 refine ol_val (v := .slice none 0 0) (xr_assign rfl rfl) rfl rfl rfl ?_
 refine ol_nil ?_
 refine cw_seq ?_
 refine cw_seq ?_
 refine cw_region ?_
 refine ol_val (v := (pt G1 1)) (xr_fieldAddr (p := 0) (q := 1) rfl fl110_1 e1) rfl rfl rfl ?_
 refine ol_val (v := (pt G1 5)) (xr_fieldAddr (p := 1) (q := 4) rfl fl108_2 rfl) rfl rfl rfl ?_
 refine ol_val (v := .int .i64 a0.Tickets.High) (xr_load1 (v := .int .i64 a0.Tickets.High) rfl ag3 rfl (b2.seg 5 rfl rfl)) rfl rfl rfl ?_
 refine ol_val (v := .bool (decide (a0.Tickets.High = 0))) (xr_eqI rfl Try.underlying3 rfl rfl rfl) rfl rfl rfl ?_
 refine ol_nil ?_
 obtain ⟨x67, j68, h69⟩ := bs h
 refine cw_mid (fun ρ' w' => ∃ x70, x67 = Sum.inr x70 ∧ ∃ v71 : Value, ∃ o72 : Own (kI .i64) 3 w' w.heap.size v71 x70, ρ' 1 = (pt G1 0) ∧ ρ' 3 = v71 ∧ Blk w' G1 110 [(sI a0.Epoch), (sI a0.Tickets.Geometry.Blocks), (sI a0.Tickets.Geometry.Slots), (sI a0.Tickets.Geometry.Gens), (sI a0.Tickets.Top), (sI a0.Tickets.High), (sI a0.Tickets.Free), (sI a0.Dir), Seg.cell V0_0 R0_0.one] ∧ Gr w w') ?_ ?_
 ·have h := j68
  rcases is h with ⟨c74, h⟩ | ⟨c74, h⟩
  ·refine cw_condT rfl c74 ?_
   refine cw_seq ?_
   refine cw_region ?_
   refine ol_val (v := (pt G1 1)) (xr_fieldAddr (p := 0) (q := 1) rfl fl110_1 e1) rfl rfl rfl ?_
   refine ol_val (v := (pt G1 4)) (xr_fieldAddr (p := 1) (q := 3) rfl fl108_1 rfl) rfl rfl rfl ?_
   refine ol_val (v := .int .i64 a0.Tickets.Top) (xr_load1 (v := .int .i64 a0.Tickets.Top) rfl ag3 rfl (b2.seg 4 rfl rfl)) rfl rfl rfl ?_
   refine ol_val (v := .bool (!decide (a0.Tickets.Top = 0))) (xr_neI rfl Try.underlying3 rfl rfl rfl) rfl rfl rfl ?_
   refine ol_nil ?_
   rcases is h with ⟨c75, h⟩ | ⟨c75, h⟩
   ·refine cw_condT rfl c75 ?_
    refine cw_seq ?_
    refine cw_region ?_
    refine ol_val (v := .bool false) (xr_assign rfl rfl) rfl rfl rfl ?_
    refine ol_nil ?_
    refine cw_ret ?_
    repeat (first | with_reducible refine thn_r ?_ | with_reducible refine blk_r ?_)
    obtain rfl := Option.some.inj h
    have h := h69
    obtain rfl := Option.some.inj h
    refine fin_ret1 Try.results75 rfl ?_
    exact ⟨_, rfl, rfl, fB⟩
   refine cw_condF rfl c75 ?_
   refine cw_skip ?_
   obtain rfl := Option.some.inj h
   refine thn_i ?_
   exact ⟨_, rfl, (.slice none 0 0), Own.nil _ _ _ _, e1, rfl, b2, fB⟩
  refine cw_condF rfl c74 ?_
  refine cw_region ?_
  refine ol_val (v := .slice none 0 0) (xr_move rfl rfl) rfl rfl rfl ?_
  refine ol_val (v := (pt G1 1)) (xr_fieldAddr (p := 0) (q := 1) rfl fl110_1 e1) rfl rfl rfl ?_
  refine ol_val (v := (pt G1 4)) (xr_fieldAddr (p := 1) (q := 3) rfl fl108_1 rfl) rfl rfl rfl ?_
  refine ol_val (v := .int .i64 a0.Tickets.Top) (xr_load1 (v := .int .i64 a0.Tickets.Top) rfl ag3 rfl (b2.seg 4 rfl rfl)) rfl rfl rfl ?_
  refine ol_op (opv_buildSlice (K := (kI .i64)) (xs := [a0.Tickets.Top]) (vals := [.int .i64 a0.Tickets.Top]) rfl Try.underlying25 el3 rfl rfl ⟨rfl, rfl, trivial⟩ rfl rfl rfl fB.size) rfl rfl rfl ?_
  rintro v76 w81 ⟨o78, q77, z79⟩
  have b2 := b2.gr q77
  have fB := fB.gr q77
  obtain ⟨g86, h⟩ := gs h
  have f88 := Off.nil G1
  have f89 := Own.geN w.heap.size
  refine ol_op (opv_append (K := (kI .i64)) rfl Try.underlying25 el3 rfl rfl rfl rfl rfl (Own.nil (kI .i64) 3 _ _) o78.rd g86 fB.size) rfl rfl rfl ?_
  rintro v82 w90 ⟨o83, q84, n85⟩
  have b2 := b2.wrO q84 f88
  have fB := fB.wrO q84 f89
  refine ol_val (v := v82) (xr_assign rfl rfl) rfl rfl rfl ?_
  refine ol_nil ?_
  obtain rfl := Option.some.inj h
  refine thn_i ?_
  exact ⟨_, rfl, v82, o83, e1, rfl, b2, fB⟩
 rintro ρ91 w92 ⟨x70, rfl, v71, o72, e1, e3, b2, fB⟩
 have h := h69
 refine cw_seq ?_
 refine cw_seq ?_
 refine cw_region ?_
 refine ol_val (v := (pt G1 7)) (xr_fieldAddr (p := 0) (q := 7) rfl fl110_2 e1) rfl rfl rfl ?_
 refine ol_val (v := .int .i64 a0.Dir) (xr_load1 (v := .int .i64 a0.Dir) rfl ag3 rfl (b2.seg 7 rfl rfl)) rfl rfl rfl ?_
 refine ol_val (v := .bool (!decide (a0.Dir = 0))) (xr_neI rfl Try.underlying3 rfl rfl rfl) rfl rfl rfl ?_
 refine ol_nil ?_
 obtain ⟨x93, j94, h95⟩ := bs h
 refine cw_mid (fun ρ' w' => ∃ v96 : Value, ∃ o97 : Own (kI .i64) 3 w' w.heap.size v96 x93, ρ' 1 = (pt G1 0) ∧ ρ' 3 = v96 ∧ Blk w' G1 110 [(sI a0.Epoch), (sI a0.Tickets.Geometry.Blocks), (sI a0.Tickets.Geometry.Slots), (sI a0.Tickets.Geometry.Gens), (sI a0.Tickets.Top), (sI a0.Tickets.High), (sI a0.Tickets.Free), (sI a0.Dir), Seg.cell V0_0 R0_0.one] ∧ Gr w w') ?_ ?_
 ·have h := j94
  rcases is h with ⟨c99, h⟩ | ⟨c99, h⟩
  ·refine cw_condT rfl c99 ?_
   refine cw_region ?_
   refine ol_val (v := v71) (xr_move rfl e3) rfl rfl rfl ?_
   refine ol_val (v := (pt G1 7)) (xr_fieldAddr (p := 0) (q := 7) rfl fl110_2 e1) rfl rfl rfl ?_
   refine ol_val (v := .int .i64 a0.Dir) (xr_load1 (v := .int .i64 a0.Dir) rfl ag3 rfl (b2.seg 7 rfl rfl)) rfl rfl rfl ?_
   refine ol_op (opv_buildSlice (K := (kI .i64)) (xs := [a0.Dir]) (vals := [.int .i64 a0.Dir]) rfl Try.underlying25 el3 rfl rfl ⟨rfl, rfl, trivial⟩ rfl rfl rfl fB.size) rfl rfl rfl ?_
   rintro v100 w105 ⟨o102, q101, z103⟩
   have a106 := OffV.new o72 z103
   have b2 := b2.gr q101
   have o72 := o72.gr q101
   have fB := fB.gr q101
   obtain ⟨g111, h⟩ := gs h
   have f113 := off_ty b2 o72 (by decide)
   have f114 := o72.geO
   refine ol_op (opv_append (K := (kI .i64)) rfl Try.underlying25 el3 rfl rfl rfl rfl rfl o72 o102.rd g111 fB.size) rfl rfl rfl ?_
   rintro v107 w115 ⟨o108, q109, n110⟩
   have b2 := b2.wrO q109 f113
   have fB := fB.wrO q109 f114
   refine ol_val (v := v107) (xr_assign rfl rfl) rfl rfl rfl ?_
   refine ol_nil ?_
   obtain rfl := Option.some.inj h
   refine thn_i ?_
   exact ⟨v107, o108, e1, rfl, b2, fB⟩
  refine cw_condF rfl c99 ?_
  refine cw_skip ?_
  obtain rfl := Option.some.inj h
  refine thn_i ?_
  exact ⟨v71, o72, e1, e3, b2, fB⟩
 rintro ρ116 w117 ⟨v96, o97, e1, e3, b2, fB⟩
 have h := h95
 refine cw_seq ?_
 refine cw_seq ?_
 refine cw_region ?_
 refine ol_val (v := .int .i64 0) (xr_assign rfl rfl) rfl rfl rfl ?_
 refine ol_nil ?_
 obtain ⟨e119, l120, h121⟩ := bs h
 refine cw_mid (fun ρ' w' => ∃ x122, e119 = Sum.inr x122 ∧ ∃ v123 : Value, ∃ o124 : Own (kI .i64) 3 w' w.heap.size v123 x122, ρ' 1 = (pt G1 0) ∧ ρ' 3 = v123 ∧ Blk w' G1 110 [(sI a0.Epoch), (sI a0.Tickets.Geometry.Blocks), (sI a0.Tickets.Geometry.Slots), (sI a0.Tickets.Geometry.Gens), (sI a0.Tickets.Top), (sI a0.Tickets.High), (sI a0.Tickets.Free), (sI a0.Dir), Seg.cell V0_0 R0_0.one] ∧ Gr w w') ?_ ?_
 ·refine cw_block ?_
  refine cw_round (fun (s118 : (List Int) × Int) ρ' w' => ∃ v126 : Value, ∃ o127 : Own (kI .i64) 3 w' w.heap.size v126 s118.1, ρ' 1 = (pt G1 0) ∧ ρ' 3 = v126 ∧ ρ' 4 = .int .i64 s118.2 ∧ Blk w' G1 110 [(sI a0.Epoch), (sI a0.Tickets.Geometry.Blocks), (sI a0.Tickets.Geometry.Slots), (sI a0.Tickets.Geometry.Gens), (sI a0.Tickets.Top), (sI a0.Tickets.High), (sI a0.Tickets.Free), (sI a0.Dir), Seg.cell V0_0 R0_0.one] ∧ Gr w w') l120 ?_ ?_
  ·skip
   exact ⟨v96, o97, e1, e3, rfl, b2, fB⟩
  rintro s118 x131 ρ129 w130 ⟨v126, o127, e1, e3, e4, b2, fB⟩ h
  unfold rickyardref13_Right.s1 at h
  refine cw_seq ?_
  refine cw_seq ?_
  refine cw_region ?_
  refine ol_val (v := .int .i64 s118.2) (xr_move rfl e4) rfl rfl rfl ?_
  refine ol_val (v := (pt G1 8)) (xr_fieldAddr (p := 0) (q := 8) rfl fl110_3 e1) rfl rfl rfl ?_
  refine ol_val (v := V0_0) (xr_load1 (v := V0_0) rfl ag25 rfl (b2.seg 8 rfl rfl)) rfl rfl rfl ?_
  refine ol_val (v := .int .i64 (List.length a0.Charts : Int)) (xr_lenR rfl Try.underlying25 rfl (R0_0.gr fB)) rfl rfl rfl ?_
  refine ol_val (v := .bool (decide (s118.2 < (List.length a0.Charts : Int)))) (xr_lss rfl rfl rfl) rfl rfl rfl ?_
  refine ol_nil ?_
  rcases is h with ⟨c132, h⟩ | ⟨c132, h⟩
  ·refine cw_condT rfl c132 ?_
   refine cw_skip ?_
   refine cw_seq ?_
   refine cw_block ?_
   refine cw_seq ?_
   refine cw_region ?_
   refine ol_val (v := v126) (xr_move rfl e3) rfl rfl rfl ?_
   refine ol_val (v := (pt G1 8)) (xr_fieldAddr (p := 0) (q := 8) rfl fl110_3 e1) rfl rfl rfl ?_
   refine ol_val (v := V0_0) (xr_load1 (v := V0_0) rfl ag25 rfl (b2.seg 8 rfl rfl)) rfl rfl rfl ?_
   refine ol_val (v := .int .i64 s118.2) (xr_move rfl e4) rfl rfl rfl ?_
   obtain ⟨g133, h⟩ := gs h
   refine ol_val (v := (pt ((sb V0_0)) (so V0_0 + Int.toNat s118.2 * 1))) (xr_indexR (K := (kI .i64)) (v := V0_0) rfl Try.underlying25 sz3 rfl (R0_0.gr fB) rfl g133.1 g133.2) rfl rfl rfl ?_
   refine ol_val (v := .int .i64 (ix a0.Charts s118.2)) (xr_load1 (v := .int .i64 (ix a0.Charts s118.2)) rfl ag3 rfl ((R0_0.gr fB).elem g133.1 g133.2)) rfl rfl rfl ?_
   refine ol_op (opv_buildSlice (K := (kI .i64)) (xs := [(ix a0.Charts s118.2)]) (vals := [.int .i64 (ix a0.Charts s118.2)]) rfl Try.underlying25 el3 rfl rfl ⟨rfl, rfl, trivial⟩ rfl rfl rfl fB.size) rfl rfl rfl ?_
   rintro v134 w139 ⟨o136, q135, z137⟩
   have a140 := OffV.new o127 z137
   have b2 := b2.gr q135
   have o127 := o127.gr q135
   have fB := fB.gr q135
   obtain ⟨g145, h⟩ := gs h
   have f147 := off_ty b2 o127 (by decide)
   have f148 := o127.geO
   refine ol_op (opv_append (K := (kI .i64)) rfl Try.underlying25 el3 rfl rfl rfl rfl rfl o127 o136.rd g145 fB.size) rfl rfl rfl ?_
   rintro v141 w149 ⟨o142, q143, n144⟩
   have b2 := b2.wrO q143 f147
   have fB := fB.wrO q143 f148
   refine ol_val (v := v141) (xr_assign rfl rfl) rfl rfl rfl ?_
   refine ol_nil ?_
   refine cw_seq ?_
   refine cw_region ?_
   refine ol_val (v := .int .i64 0) (xr_assign rfl rfl) rfl rfl rfl ?_
   refine ol_nil ?_
   obtain ⟨e151, l152, h153⟩ := bs h
   refine cw_mid (fun ρ' w' => ∃ x154, e151 = Sum.inr x154 ∧ ∃ o142 : Own (kI .i64) 3 w' w.heap.size v141 (s118.1 ++ [(ix a0.Charts s118.2)]), ρ' 1 = (pt G1 0) ∧ ρ' 3 = v141 ∧ ρ' 4 = .int .i64 s118.2 ∧ Blk w' G1 110 [(sI a0.Epoch), (sI a0.Tickets.Geometry.Blocks), (sI a0.Tickets.Geometry.Slots), (sI a0.Tickets.Geometry.Gens), (sI a0.Tickets.Top), (sI a0.Tickets.High), (sI a0.Tickets.Free), (sI a0.Dir), Seg.cell V0_0 R0_0.one] ∧ Gr w w') ?_ ?_
   ·refine cw_block ?_
    refine cw_round (fun (s150 : Int) ρ' w' => ∃ o142 : Own (kI .i64) 3 w' w.heap.size v141 (s118.1 ++ [(ix a0.Charts s118.2)]), ρ' 1 = (pt G1 0) ∧ ρ' 3 = v141 ∧ ρ' 4 = .int .i64 s118.2 ∧ ρ' 5 = .int .i64 s150 ∧ Blk w' G1 110 [(sI a0.Epoch), (sI a0.Tickets.Geometry.Blocks), (sI a0.Tickets.Geometry.Slots), (sI a0.Tickets.Geometry.Gens), (sI a0.Tickets.Top), (sI a0.Tickets.High), (sI a0.Tickets.Free), (sI a0.Dir), Seg.cell V0_0 R0_0.one] ∧ Gr w w') l152 ?_ ?_
    ·skip
     exact ⟨o142, e1, rfl, e4, rfl, b2, fB⟩
    rintro s150 x157 ρ155 w156 ⟨o142, e1, e3, e4, e5, b2, fB⟩ h
    unfold rickyardref13_Right.s2 at h
    refine cw_seq ?_
    refine cw_seq ?_
    refine cw_region ?_
    refine ol_val (v := .int .i64 s150) (xr_move rfl e5) rfl rfl rfl ?_
    refine ol_val (v := .int .i64 s118.2) (xr_move rfl e4) rfl rfl rfl ?_
    refine ol_val (v := .bool (decide (s150 < s118.2))) (xr_lss rfl rfl rfl) rfl rfl rfl ?_
    refine ol_nil ?_
    rcases is h with ⟨c158, h⟩ | ⟨c158, h⟩
    ·refine cw_condT rfl c158 ?_
     refine cw_skip ?_
     refine cw_seq ?_
     refine cw_block ?_
     refine cw_seq ?_
     obtain ⟨g159, h⟩ := gs h
     obtain ⟨g160, h⟩ := gs h
     refine cw_drawL 10 [fun vz wz => vz = ((pt G1 8) : Value), fun vz wz => vz = (V0_0 : Value), fun vz wz => vz = (.int .i64 s150 : Value), fun vz wz => vz = ((pt ((sb V0_0)) (so V0_0 + Int.toNat s150 * 1)) : Value), fun vz wz => vz = (.int .i64 (ix a0.Charts s150) : Value), fun vz wz => vz = ((pt G1 8) : Value), fun vz wz => vz = (V0_0 : Value), fun vz wz => vz = (.int .i64 s118.2 : Value), fun vz wz => vz = ((pt ((sb V0_0)) (so V0_0 + Int.toNat s118.2 * 1)) : Value), fun vz wz => vz = (.int .i64 (ix a0.Charts s118.2) : Value)] mo rfl ⟨fun _ _ _ h _ => h, fun _ _ _ h _ => h, fun _ _ _ h _ => h, fun _ _ _ h _ => h, fun _ _ _ h _ => h, fun _ _ _ h _ => h, fun _ _ _ h _ => h, fun _ _ _ h _ => h, fun _ _ _ h _ => h, fun _ _ _ h _ => h, trivial⟩ ?_ ?_
     ·refine ⟨?_, ?_, ?_, ?_, ?_, ?_, ?_, ?_, ?_, ?_, trivial⟩
      ·intro ρz wz hz hk hd
       exact sk_val (v := (pt G1 8)) (xr_fieldAddr (p := 0) (q := 8) rfl fl110_3 ((hk 1 rfl).trans e1)) rfl rfl
      ·intro ρz wz hz hk hd
       exact sk_val (v := V0_0) (xr_load1 (v := V0_0) rfl ag25 (hd 0 rfl 103 rfl) ((b2.gr hz).seg 8 rfl rfl)) rfl rfl
      ·intro ρz wz hz hk hd
       exact sk_val (v := .int .i64 s150) (xr_move rfl ((hk 5 rfl).trans e5)) rfl rfl
      ·intro ρz wz hz hk hd
       exact sk_val (xr_indexR (K := (kI .i64)) (v := V0_0) rfl Try.underlying25 sz3 (hd 1 rfl 104 rfl) (R0_0.gr (fB.gr hz)) (hd 2 rfl 105 rfl) g159.1 g159.2) rfl rfl
      ·intro ρz wz hz hk hd
       exact sk_val (v := .int .i64 (ix a0.Charts s150)) (xr_load1 (v := .int .i64 (ix a0.Charts s150)) rfl ag3 (hd 3 rfl 106 rfl) ((R0_0.gr (fB.gr hz)).elem g159.1 g159.2)) rfl rfl
      ·intro ρz wz hz hk hd
       exact sk_val (v := (pt G1 8)) (xr_fieldAddr (p := 0) (q := 8) rfl fl110_3 ((hk 1 rfl).trans e1)) rfl rfl
      ·intro ρz wz hz hk hd
       exact sk_val (v := V0_0) (xr_load1 (v := V0_0) rfl ag25 (hd 5 rfl 108 rfl) ((b2.gr hz).seg 8 rfl rfl)) rfl rfl
      ·intro ρz wz hz hk hd
       exact sk_val (v := .int .i64 s118.2) (xr_move rfl ((hk 4 rfl).trans e4)) rfl rfl
      ·intro ρz wz hz hk hd
       exact sk_val (xr_indexR (K := (kI .i64)) (v := V0_0) rfl Try.underlying25 sz3 (hd 6 rfl 109 rfl) (R0_0.gr (fB.gr hz)) (hd 7 rfl 110 rfl) g160.1 g160.2) rfl rfl
      intro ρz wz hz hk hd
      exact sk_val (v := .int .i64 (ix a0.Charts s118.2)) (xr_load1 (v := .int .i64 (ix a0.Charts s118.2)) rfl ag3 (hd 8 rfl 111 rfl) ((R0_0.gr (fB.gr hz)).elem g160.1 g160.2)) rfl rfl
     intro ρ161 w162 q163 hk hd
     have e1 := (hk 1 rfl).trans e1
     have e3 := (hk 3 rfl).trans e3
     have e4 := (hk 4 rfl).trans e4
     have e5 := (hk 5 rfl).trans e5
     have e107 := hd 4 rfl 107 rfl
     have e112 := hd 9 rfl 112 rfl
     have b2 := b2.gr q163
     have o142 := o142.gr q163
     have fB := fB.gr q163
     refine ol_val (v := .bool (decide ((ix a0.Charts s150) = (ix a0.Charts s118.2)))) (xr_eqI rfl Try.underlying3 rfl e107 e112) rfl rfl rfl ?_
     refine ol_nil ?_
     rcases is h with ⟨c164, h⟩ | ⟨c164, h⟩
     ·refine cw_condT rfl c164 ?_
      refine cw_seq ?_
      refine cw_region ?_
      refine ol_val (v := .bool false) (xr_assign rfl rfl) rfl rfl rfl ?_
      refine ol_nil ?_
      refine cw_ret ?_
      repeat (first | with_reducible refine thn_r ?_ | with_reducible refine blk_r ?_)
      obtain rfl := Option.some.inj h
      refine lp_ret ?_
      rintro rfl
      repeat (first | with_reducible refine thn_r ?_ | with_reducible refine blk_r ?_)
      have h := h153
      obtain rfl := Option.some.inj h
      refine lp_ret ?_
      rintro rfl
      repeat (first | with_reducible refine thn_r ?_ | with_reducible refine blk_r ?_)
      have h := h121
      obtain rfl := Option.some.inj h
      refine fin_ret1 Try.results75 rfl ?_
      exact ⟨_, rfl, rfl, fB⟩
     refine cw_condF rfl c164 ?_
     refine cw_skip ?_
     refine blk_i ?_
     refine cw_region ?_
     refine ol_val (v := .int .i64 s150) (xr_move rfl e5) rfl rfl rfl ?_
     refine ol_val (v := .int .i64 (IntKind.i64.wrap (s150 + 1))) (xr_add rfl rfl rfl) rfl rfl rfl ?_
     refine ol_val (v := .int .i64 (IntKind.i64.wrap (s150 + 1))) (xr_assign rfl rfl) rfl rfl rfl ?_
     refine ol_nil ?_
     obtain rfl := Option.some.inj h
     refine lp_in ?_
     exact ⟨o142, e1, e3, e4, rfl, b2, fB⟩
    refine cw_condF rfl c158 ?_
    refine cw_exit ?_
    repeat (first | with_reducible refine thn_e ?_ | with_reducible refine blk_e rfl ?_)
    obtain rfl := Option.some.inj h
    refine lp_exit ?_
    rintro rfl
    refine thn_x ?_
    exact ⟨_, rfl, o142, e1, e3, e4, b2, fB⟩
   rintro ρ165 w166 ⟨x154, rfl, o142, e1, e3, e4, b2, fB⟩
   have h := h153
   refine blk_i ?_
   refine cw_region ?_
   refine ol_val (v := .int .i64 s118.2) (xr_move rfl e4) rfl rfl rfl ?_
   refine ol_val (v := .int .i64 (IntKind.i64.wrap (s118.2 + 1))) (xr_add rfl rfl rfl) rfl rfl rfl ?_
   refine ol_val (v := .int .i64 (IntKind.i64.wrap (s118.2 + 1))) (xr_assign rfl rfl) rfl rfl rfl ?_
   refine ol_nil ?_
   obtain rfl := Option.some.inj h
   refine lp_in ?_
   exact ⟨v141, o142, e1, e3, rfl, b2, fB⟩
  refine cw_condF rfl c132 ?_
  refine cw_exit ?_
  repeat (first | with_reducible refine thn_e ?_ | with_reducible refine blk_e rfl ?_)
  obtain rfl := Option.some.inj h
  refine lp_exit ?_
  rintro rfl
  refine thn_x ?_
  exact ⟨_, rfl, v126, o127, e1, e3, b2, fB⟩
 rintro ρ167 w168 ⟨x122, rfl, v123, o124, e1, e3, b2, fB⟩
 have h := h121
 refine cw_seq ?_
 refine cw_seq ?_
 refine cw_region ?_
 refine ol_val (v := .int .i64 0) (xr_assign rfl rfl) rfl rfl rfl ?_
 refine ol_nil ?_
 obtain ⟨e170, l171, h172⟩ := bs h
 refine cw_mid (fun ρ' w' => ∃ x173, e170 = Sum.inr x173 ∧ Gr w w') ?_ ?_
 ·refine cw_block ?_
  refine cw_round (fun (s169 : Int) ρ' w' => ∃ o124 : Own (kI .i64) 3 w' w.heap.size v123 x122, ρ' 1 = (pt G1 0) ∧ ρ' 3 = v123 ∧ ρ' 6 = .int .i64 s169 ∧ Blk w' G1 110 [(sI a0.Epoch), (sI a0.Tickets.Geometry.Blocks), (sI a0.Tickets.Geometry.Slots), (sI a0.Tickets.Geometry.Gens), (sI a0.Tickets.Top), (sI a0.Tickets.High), (sI a0.Tickets.Free), (sI a0.Dir), Seg.cell V0_0 R0_0.one] ∧ Gr w w') l171 ?_ ?_
  ·skip
   exact ⟨o124, e1, e3, rfl, b2, fB⟩
  rintro s169 x176 ρ174 w175 ⟨o124, e1, e3, e6, b2, fB⟩ h
  unfold rickyardref13_Right.s3 at h
  refine cw_seq ?_
  refine cw_seq ?_
  refine cw_region ?_
  refine ol_val (v := .int .i64 s169) (xr_move rfl e6) rfl rfl rfl ?_
  refine ol_val (v := v123) (xr_move rfl e3) rfl rfl rfl ?_
  refine ol_val (v := .int .i64 (List.length x122 : Int)) (xr_lenR rfl Try.underlying25 rfl o124.rd) rfl rfl rfl ?_
  refine ol_val (v := .bool (decide (s169 < (List.length x122 : Int)))) (xr_lss rfl rfl rfl) rfl rfl rfl ?_
  refine ol_nil ?_
  rcases is h with ⟨c177, h⟩ | ⟨c177, h⟩
  ·refine cw_condT rfl c177 ?_
   refine cw_skip ?_
   refine cw_seq ?_
   refine cw_block ?_
   refine cw_seq ?_
   obtain ⟨x178, j179, h⟩ := bs h
   refine cw_mid (fun ρ' w' => ρ' 1 = (pt G1 0) ∧ ρ' 3 = v123 ∧ ρ' 6 = .int .i64 s169 ∧ ρ' 135 = .bool x178 ∧ Gr w175 w') ?_ ?_
   ·skip
    refine rd_region mo ?_
    intro w180 q181
    have b2 := b2.gr q181
    have o124 := o124.gr q181
    have fB := fB.gr q181
    refine rd_drawL 0 2 [fun vz wz => vz = (v123 : Value), fun vz wz => vz = (.int .i64 s169 : Value)] rfl ⟨fun _ _ _ h _ => h, fun _ _ _ h _ => h, trivial⟩ ?_ ?_
    ·refine ⟨?_, ?_, trivial⟩
     ·intro ρz wz hz hk hd
      exact sk_val (v := v123) (xr_move rfl ((hk 3 rfl).trans e3)) rfl rfl
     intro ρz wz hz hk hd
     exact sk_val (v := .int .i64 s169) (xr_move rfl ((hk 6 rfl).trans e6)) rfl rfl
    intro ρ182 w183 q184 hk hd
    have e1 := (hk 1 rfl).trans e1
    have e3 := (hk 3 rfl).trans e3
    have e6 := (hk 6 rfl).trans e6
    have e120 := hd 0 rfl rfl 120 rfl
    have e121 := hd 1 rfl rfl 121 rfl
    have b2 := b2.gr q184
    have o124 := o124.gr q184
    have fB := fB.gr q184
    refine rd_seq (m := 2) (n := 6) rfl ?_
    obtain ⟨g185, j179⟩ := gs j179
    refine ol_val (v := (pt ((sb v123)) (so v123 + Int.toNat s169 * 1))) (xr_indexR (K := (kI .i64)) (v := v123) rfl Try.underlying25 sz3 e120 o124.rd e121 g185.1 g185.2) rfl rfl rfl ?_
    refine ol_val (v := .int .i64 (ix x122 s169)) (xr_load1 (v := .int .i64 (ix x122 s169)) rfl ag3 rfl (o124.rd.elem g185.1 g185.2)) rfl rfl rfl ?_
    refine ol_val (v := .bool (decide ((ix x122 s169) < 2))) (xr_lss rfl rfl rfl) rfl rfl rfl ?_
    refine ol_val (v := .bool (decide ((ix x122 s169) < 2))) (xr_move rfl rfl) rfl rfl rfl ?_
    refine ol_nilK ?_
    rcases is j179 with ⟨c186, j179⟩ | ⟨c186, j179⟩
    ·skip
     refine rd_drawL 6 14 [fun vz _ => vz = undef, fun vz _ => vz = undef, fun vz _ => vz = undef, fun vz _ => vz = undef, fun vz _ => vz = undef, fun vz _ => vz = undef, fun vz _ => vz = undef, fun vz _ => vz = undef] rfl ⟨fun _ _ _ h _ => h, fun _ _ _ h _ => h, fun _ _ _ h _ => h, fun _ _ _ h _ => h, fun _ _ _ h _ => h, fun _ _ _ h _ => h, fun _ _ _ h _ => h, fun _ _ _ h _ => h, trivial⟩ ?_ ?_
     ·refine ⟨?_, ?_, ?_, ?_, ?_, ?_, ?_, ?_, trivial⟩
      ·intro ρz wz hz hk hd
       exact sk_skip rfl rfl ((hk 125 rfl).trans rfl) c186 rfl
      ·intro ρz wz hz hk hd
       exact sk_skip rfl rfl ((hk 125 rfl).trans rfl) c186 rfl
      ·intro ρz wz hz hk hd
       exact sk_skip rfl rfl ((hk 125 rfl).trans rfl) c186 rfl
      ·intro ρz wz hz hk hd
       exact sk_skip rfl rfl ((hk 125 rfl).trans rfl) c186 rfl
      ·intro ρz wz hz hk hd
       exact sk_skip rfl rfl ((hk 125 rfl).trans rfl) c186 rfl
      ·intro ρz wz hz hk hd
       exact sk_skip rfl rfl ((hk 125 rfl).trans rfl) c186 rfl
      ·intro ρz wz hz hk hd
       exact sk_skip rfl rfl ((hk 125 rfl).trans rfl) c186 rfl
      intro ρz wz hz hk hd
      exact sk_skip rfl rfl ((hk 125 rfl).trans rfl) c186 rfl
     intro ρ187 w188 q189 hk hd
     have e1 := (hk 1 rfl).trans e1
     have e3 := (hk 3 rfl).trans e3
     have e6 := (hk 6 rfl).trans e6
     have e125 := (hk 125 rfl).trans rfl
     have e126 := hd 6 rfl rfl 126 rfl
     have e127 := hd 7 rfl rfl 127 rfl
     have e128 := hd 8 rfl rfl 128 rfl
     have e129 := hd 9 rfl rfl 129 rfl
     have e130 := hd 10 rfl rfl 130 rfl
     have e131 := hd 11 rfl rfl 131 rfl
     have e132 := hd 12 rfl rfl 132 rfl
     have e133 := hd 13 rfl rfl 133 rfl
     have b2 := b2.gr q189
     have o124 := o124.gr q189
     have fB := fB.gr q189
     refine rd_seq (m := 14) (n := 16) rfl ?_
     refine ol_gskip rfl rfl rfl rfl e125 c186 ?_
     refine ol_val (v := .bool true) (xr_pickT rfl e125 c186 rfl) rfl rfl rfl ?_
     refine ol_nilK ?_
     refine rd_end rfl ?_
     obtain rfl := Option.some.inj j179
     refine thn_i ?_
     exact ⟨e1, e3, e6, rfl, ((q181.gr q184).gr q189)⟩
    obtain ⟨g190, j179⟩ := gs j179
    refine rd_drawL 6 14 [fun vz wz => vz = (v123 : Value), fun vz wz => vz = (.int .i64 s169 : Value), fun vz wz => vz = ((pt ((sb v123)) (so v123 + Int.toNat s169 * 1)) : Value), fun vz wz => vz = (.int .i64 (ix x122 s169) : Value), fun vz wz => vz = ((pt G1 1) : Value), fun vz wz => vz = ((pt G1 1) : Value), fun vz wz => vz = ((pt G1 1) : Value), fun vz wz => vz = (.int .i64 a0.Tickets.Geometry.Blocks : Value)] rfl ⟨fun _ _ _ h _ => h, fun _ _ _ h _ => h, fun _ _ _ h _ => h, fun _ _ _ h _ => h, fun _ _ _ h _ => h, fun _ _ _ h _ => h, fun _ _ _ h _ => h, fun _ _ _ h _ => h, trivial⟩ ?_ ?_
    ·refine ⟨?_, ?_, ?_, ?_, ?_, ?_, ?_, ?_, trivial⟩
     ·intro ρz wz hz hk hd
      exact sk_gval (v := v123) (xr_move rfl ((hk 3 rfl).trans e3)) rfl rfl ((hk 125 rfl).trans rfl) c186 rfl
     ·intro ρz wz hz hk hd
      exact sk_gval (v := .int .i64 s169) (xr_move rfl ((hk 6 rfl).trans e6)) rfl rfl ((hk 125 rfl).trans rfl) c186 rfl
     ·intro ρz wz hz hk hd
      exact sk_gval (xr_indexR (K := (kI .i64)) (v := v123) rfl Try.underlying25 sz3 (hd 6 rfl rfl 126 rfl) (o124.gr hz).rd (hd 7 rfl rfl 127 rfl) g190.1 g190.2) rfl rfl ((hk 125 rfl).trans rfl) c186 rfl
     ·intro ρz wz hz hk hd
      exact sk_gval (v := .int .i64 (ix x122 s169)) (xr_load1 (v := .int .i64 (ix x122 s169)) rfl ag3 (hd 8 rfl rfl 128 rfl) ((o124.gr hz).rd.elem g190.1 g190.2)) rfl rfl ((hk 125 rfl).trans rfl) c186 rfl
     ·intro ρz wz hz hk hd
      exact sk_gval (v := (pt G1 1)) (xr_fieldAddr (p := 0) (q := 1) rfl fl110_1 ((hk 1 rfl).trans e1)) rfl rfl ((hk 125 rfl).trans rfl) c186 rfl
     ·intro ρz wz hz hk hd
      exact sk_gval (v := (pt G1 1)) (xr_fieldAddr (p := 1) (q := 0) rfl fl108_0 (hd 10 rfl rfl 130 rfl)) rfl rfl ((hk 125 rfl).trans rfl) c186 rfl
     ·intro ρz wz hz hk hd
      exact sk_gval (v := (pt G1 1)) (xr_fieldAddr (p := 1) (q := 0) rfl fl106_0 (hd 11 rfl rfl 131 rfl)) rfl rfl ((hk 125 rfl).trans rfl) c186 rfl
     intro ρz wz hz hk hd
     exact sk_gval (v := .int .i64 a0.Tickets.Geometry.Blocks) (xr_load1 (v := .int .i64 a0.Tickets.Geometry.Blocks) rfl ag3 (hd 12 rfl rfl 132 rfl) ((b2.gr hz).seg 1 rfl rfl)) rfl rfl ((hk 125 rfl).trans rfl) c186 rfl
    intro ρ191 w192 q193 hk hd
    have e1 := (hk 1 rfl).trans e1
    have e3 := (hk 3 rfl).trans e3
    have e6 := (hk 6 rfl).trans e6
    have e125 := (hk 125 rfl).trans rfl
    have e126 := hd 6 rfl rfl 126 rfl
    have e127 := hd 7 rfl rfl 127 rfl
    have e128 := hd 8 rfl rfl 128 rfl
    have e129 := hd 9 rfl rfl 129 rfl
    have e130 := hd 10 rfl rfl 130 rfl
    have e131 := hd 11 rfl rfl 131 rfl
    have e132 := hd 12 rfl rfl 132 rfl
    have e133 := hd 13 rfl rfl 133 rfl
    have b2 := b2.gr q193
    have o124 := o124.gr q193
    have fB := fB.gr q193
    refine rd_seq (m := 14) (n := 16) rfl ?_
    refine ol_gval (v := .bool (decide ((ix x122 s169) ≥ a0.Tickets.Geometry.Blocks))) (xr_geq rfl e129 e133) rfl rfl rfl rfl e125 c186 ?_
    refine ol_val (v := .bool (decide ((ix x122 s169) ≥ a0.Tickets.Geometry.Blocks))) (xr_pickF rfl e125 c186 rfl) rfl rfl rfl ?_
    refine ol_nilK ?_
    refine rd_end rfl ?_
    obtain rfl := Option.some.inj j179
    refine thn_i ?_
    exact ⟨e1, e3, e6, rfl, ((q181.gr q184).gr q193)⟩
   rintro ρ194 w195 ⟨e1, e3, e6, e135, q196⟩
   have b2 := b2.gr q196
   have o124 := o124.gr q196
   have fB := fB.gr q196
   rcases is h with ⟨c197, h⟩ | ⟨c197, h⟩
   ·refine cw_condT e135 c197 ?_
    refine cw_seq ?_
    refine cw_region ?_
    refine ol_val (v := .bool false) (xr_assign rfl rfl) rfl rfl rfl ?_
    refine ol_nil ?_
    refine cw_ret ?_
    repeat (first | with_reducible refine thn_r ?_ | with_reducible refine blk_r ?_)
    obtain rfl := Option.some.inj h
    refine lp_ret ?_
    rintro rfl
    repeat (first | with_reducible refine thn_r ?_ | with_reducible refine blk_r ?_)
    have h := h172
    obtain rfl := Option.some.inj h
    refine fin_ret1 Try.results75 rfl ?_
    exact ⟨_, rfl, rfl, fB⟩
   refine cw_condF e135 c197 ?_
   refine cw_skip ?_
   refine blk_i ?_
   refine cw_region ?_
   refine ol_val (v := .int .i64 s169) (xr_move rfl e6) rfl rfl rfl ?_
   refine ol_val (v := .int .i64 (IntKind.i64.wrap (s169 + 1))) (xr_add rfl rfl rfl) rfl rfl rfl ?_
   refine ol_val (v := .int .i64 (IntKind.i64.wrap (s169 + 1))) (xr_assign rfl rfl) rfl rfl rfl ?_
   refine ol_nil ?_
   obtain rfl := Option.some.inj h
   refine lp_in ?_
   exact ⟨o124, e1, e3, rfl, b2, fB⟩
  refine cw_condF rfl c177 ?_
  refine cw_exit ?_
  repeat (first | with_reducible refine thn_e ?_ | with_reducible refine blk_e rfl ?_)
  obtain rfl := Option.some.inj h
  refine lp_exit ?_
  rintro rfl
  refine thn_x ?_
  exact ⟨_, rfl, fB⟩
 rintro ρ198 w199 ⟨x173, rfl, fB⟩
 have h := h172
 refine cw_seq ?_
 refine cw_region ?_
 refine ol_val (v := .bool true) (xr_assign rfl rfl) rfl rfl rfl ?_
 refine ol_nil ?_
 refine cw_ret ?_
 repeat (first | with_reducible refine thn_r ?_ | with_reducible refine blk_r ?_)
 obtain rfl := Option.some.inj h
 refine fin_ret1 Try.results75 rfl ?_
 exact ⟨_, rfl, rfl, fB⟩
def rickyardref01_Octet.s0 (fu : Nat) (a1 : Int) : (Int × Int) → Option (Sum Int (Int × Int)) := fun s1 => (if (decide (s1.2 < a1)) = true then some (Sum.inr ((IntKind.u64.wrap (Int.tdiv s1.1 256)), (IntKind.i64.wrap (s1.2 + 1)))) else some (Sum.inl (s1.1)))
def rickyardref01_Octet.f (fu : Nat) (a0 : Int) (a1 : Int) : Option Int := ((loopM (rickyardref01_Octet.s0 fu a1) fu (a0, 0)).bind fun e2 => some ((IntKind.u8.wrap (Int.tmod e2 256))))
theorem rickyardref01_Octet.ok (fu : Nat) (w : World) (a0 : Int) (a1 : Int) (r : Int) (h : rickyardref01_Octet.f fu a0 a1 = some r) :
  Calls Try.prog 137 (([.int .u64 a0, .int .i64 a1] : List Value).toArray) w (fun e w' => ∃ v, e = .returned v ∧ v = .int .u8 r ∧ Gr w w') := by
 unfold rickyardref01_Octet.f at h
 have fB : Gr w w := Fr.refl _ _
 refine calls_cw Try.func137 rfl Try.ntmps137 rfl ?_
 refine cw_seq ?_
 refine cw_region ?_
 refine ol_val (v := .int .u8 0) (xr_assign rfl rfl) rfl rfl rfl ?_
 refine ol_nil ?_
 refine cw_seq ?_
 refine cw_seq ?_
 refine cw_region ?_
 refine ol_val (v := .int .i64 0) (xr_assign rfl rfl) rfl rfl rfl ?_
 refine ol_nil ?_
 obtain ⟨e2, l3, h4⟩ := bs h
 refine cw_mid (fun ρ' w' => ρ' 0 = .int .u64 e2 ∧ Gr w w') ?_ ?_
 ·refine cw_block ?_
  refine cw_round (fun (s1 : Int × Int) ρ' w' => ρ' 0 = .int .u64 s1.1 ∧ ρ' 1 = .int .i64 a1 ∧ ρ' 5 = .int .i64 s1.2 ∧ Gr w w') l3 ?_ ?_
  ·skip
   exact ⟨rfl, rfl, rfl, fB⟩
  rintro s1 x7 ρ5 w6 ⟨e0, e1, e5, fB⟩ h
  unfold rickyardref01_Octet.s0 at h
  refine cw_seq ?_
  refine cw_seq ?_
  refine cw_region ?_
  refine ol_val (v := .int .i64 s1.2) (xr_move rfl e5) rfl rfl rfl ?_
  refine ol_val (v := .int .i64 a1) (xr_move rfl e1) rfl rfl rfl ?_
  refine ol_val (v := .bool (decide (s1.2 < a1))) (xr_lss rfl rfl rfl) rfl rfl rfl ?_
  refine ol_nil ?_
  rcases is h with ⟨c8, h⟩ | ⟨c8, h⟩
  ·refine cw_condT rfl c8 ?_
   refine cw_skip ?_
   refine cw_seq ?_
   refine cw_block ?_
   refine cw_region ?_
   refine ol_val (v := .int .u64 s1.1) (xr_move rfl e0) rfl rfl rfl ?_
   refine ol_val (v := .int .u64 (IntKind.u64.wrap (Int.tdiv s1.1 256))) (xr_quo rfl rfl rfl (by decide)) rfl rfl rfl ?_
   refine ol_val (v := .int .u64 (IntKind.u64.wrap (Int.tdiv s1.1 256))) (xr_assign rfl rfl) rfl rfl rfl ?_
   refine ol_nil ?_
   refine blk_i ?_
   refine cw_region ?_
   refine ol_val (v := .int .i64 s1.2) (xr_move rfl e5) rfl rfl rfl ?_
   refine ol_val (v := .int .i64 (IntKind.i64.wrap (s1.2 + 1))) (xr_add rfl rfl rfl) rfl rfl rfl ?_
   refine ol_val (v := .int .i64 (IntKind.i64.wrap (s1.2 + 1))) (xr_assign rfl rfl) rfl rfl rfl ?_
   refine ol_nil ?_
   obtain rfl := Option.some.inj h
   refine lp_in ?_
   exact ⟨rfl, e1, rfl, fB⟩
  refine cw_condF rfl c8 ?_
  refine cw_exit ?_
  repeat (first | with_reducible refine thn_e ?_ | with_reducible refine blk_e rfl ?_)
  obtain rfl := Option.some.inj h
  refine lp_exit ?_
  rintro rfl
  refine thn_x ?_
  exact ⟨e0, fB⟩
 rintro ρ9 w10 ⟨e0, fB⟩
 have h := h4
 refine cw_seq ?_
 refine cw_region ?_
 refine ol_val (v := .int .u64 e2) (xr_move rfl e0) rfl rfl rfl ?_
 refine ol_val (v := .int .u64 (Int.tmod e2 256)) (xr_rem rfl rfl rfl (by decide)) rfl rfl rfl ?_
 refine ol_val (v := .int .u8 (IntKind.u8.wrap (Int.tmod e2 256))) (xr_conv rfl Try.underlying22 Try.underlying5 rfl) rfl rfl rfl ?_
 refine ol_val (v := .int .u8 (IntKind.u8.wrap (Int.tmod e2 256))) (xr_assign rfl rfl) rfl rfl rfl ?_
 refine ol_nil ?_
 refine cw_ret ?_
 repeat (first | with_reducible refine thn_r ?_ | with_reducible refine blk_r ?_)
 obtain rfl := Option.some.inj h
 refine fin_ret1 Try.results137 rfl ?_
 exact ⟨_, rfl, rfl, fB⟩
def rickyardref01_Lay.s0 (fu : Nat) (a0 : Int) (a1 : Int) : ((List UInt8) × Int) → Option (Sum (List UInt8) ((List UInt8) × Int)) := fun s1 => (if (decide (s1.2 < a1)) = true then ((rickyardref01_Octet.f fu a0 s1.2).bind fun t9 => (if List.length s1.1 + List.length (List.map toB [t9]) ≤ LIM then some (Sum.inr ((s1.1 ++ (List.map toB [t9])), (IntKind.i64.wrap (s1.2 + 1)))) else none)) else some (Sum.inl (s1.1)))
def rickyardref01_Lay.f (fu : Nat) (a0 : Int) (a1 : Int) : Option (List UInt8) := ((loopM (rickyardref01_Lay.s0 fu a0 a1) fu ([], 0)).bind fun e2 => some (e2))
theorem rickyardref01_Lay.ok (fu : Nat) (w : World) (a0 : Int) (a1 : Int) (r : (List UInt8)) (h : rickyardref01_Lay.f fu a0 a1 = some r) :
  Calls Try.prog 117 (([.int .u64 a0, .int .i64 a1] : List Value).toArray) w (fun e w' => ∃ v, e = .returned v ∧ v = sv r ∧ Gr w w') := by
 unfold rickyardref01_Lay.f at h
 have fB : Gr w w := Fr.refl _ _
 refine calls_cw Try.func117 rfl Try.ntmps117 rfl ?_
 refine cw_seq ?_
 refine cw_region ?_
 refine ol_val (v := sv []) (xr_assign rfl rfl) rfl rfl rfl ?_
 refine ol_nil ?_
 refine cw_seq ?_
 refine cw_region ?_
 refine ol_val (v := sv []) (xr_assign rfl rfl) rfl rfl rfl ?_
 refine ol_nil ?_
 refine cw_seq ?_
 refine cw_seq ?_
 refine cw_region ?_
 refine ol_val (v := .int .i64 0) (xr_assign rfl rfl) rfl rfl rfl ?_
 refine ol_nil ?_
 obtain ⟨e2, l3, h4⟩ := bs h
 refine cw_mid (fun ρ' w' => ρ' 5 = sv e2 ∧ Gr w w') ?_ ?_
 ·refine cw_block ?_
  refine cw_round (fun (s1 : (List UInt8) × Int) ρ' w' => ρ' 0 = .int .u64 a0 ∧ ρ' 1 = .int .i64 a1 ∧ ρ' 5 = sv s1.1 ∧ ρ' 6 = .int .i64 s1.2 ∧ Gr w w') l3 ?_ ?_
  ·skip
   exact ⟨rfl, rfl, rfl, rfl, fB⟩
  rintro s1 x7 ρ5 w6 ⟨e0, e1, e5, e6, fB⟩ h
  unfold rickyardref01_Lay.s0 at h
  refine cw_seq ?_
  refine cw_seq ?_
  refine cw_region ?_
  refine ol_val (v := .int .i64 s1.2) (xr_move rfl e6) rfl rfl rfl ?_
  refine ol_val (v := .int .i64 a1) (xr_move rfl e1) rfl rfl rfl ?_
  refine ol_val (v := .bool (decide (s1.2 < a1))) (xr_lss rfl rfl rfl) rfl rfl rfl ?_
  refine ol_nil ?_
  rcases is h with ⟨c8, h⟩ | ⟨c8, h⟩
  ·refine cw_condT rfl c8 ?_
   refine cw_skip ?_
   refine cw_seq ?_
   refine cw_block ?_
   refine cw_region ?_
   refine ol_val (v := sv s1.1) (xr_move rfl e5) rfl rfl rfl ?_
   refine ol_val (v := .int .u64 a0) (xr_move rfl e0) rfl rfl rfl ?_
   refine ol_val (v := .int .i64 s1.2) (xr_move rfl e6) rfl rfl rfl ?_
   obtain ⟨t9, k10, h⟩ := bs h
   refine ol_op (opv_call rfl cal137 (ac rfl (ac rfl an)) (rickyardref01_Octet.ok fu _ a0 s1.2 _ k10)) rfl rfl rfl ?_
   rintro _ w12 ⟨rfl, q11⟩
   have fB := fB.gr q11
   refine ol_op (opv_buildSlice (K := (kI .u8)) (xs := [t9]) (vals := [.int .u8 t9]) rfl Try.underlying43 el5 rfl rfl ⟨rfl, rfl, trivial⟩ rfl rfl rfl fB.size) rfl rfl rfl ?_
   rintro v13 w18 ⟨o15, q14, z16⟩
   have fB := fB.gr q14
   refine ol_val (v := sv (List.map toB [t9])) (xr_toStr rfl Try.underlying43 Try.underlying5 Try.underlying9 rfl o15.rd) rfl rfl rfl ?_
   obtain ⟨g19, h⟩ := gs h
   refine ol_val (v := sv (s1.1 ++ (List.map toB [t9]))) (xr_addStr rfl rfl rfl g19) rfl rfl rfl ?_
   refine ol_val (v := sv (s1.1 ++ (List.map toB [t9]))) (xr_assign rfl rfl) rfl rfl rfl ?_
   refine ol_nil ?_
   refine blk_i ?_
   refine cw_region ?_
   refine ol_val (v := .int .i64 s1.2) (xr_move rfl e6) rfl rfl rfl ?_
   refine ol_val (v := .int .i64 (IntKind.i64.wrap (s1.2 + 1))) (xr_add rfl rfl rfl) rfl rfl rfl ?_
   refine ol_val (v := .int .i64 (IntKind.i64.wrap (s1.2 + 1))) (xr_assign rfl rfl) rfl rfl rfl ?_
   refine ol_nil ?_
   obtain rfl := Option.some.inj h
   refine lp_in ?_
   exact ⟨e0, e1, rfl, rfl, fB⟩
  refine cw_condF rfl c8 ?_
  refine cw_exit ?_
  repeat (first | with_reducible refine thn_e ?_ | with_reducible refine blk_e rfl ?_)
  obtain rfl := Option.some.inj h
  refine lp_exit ?_
  rintro rfl
  refine thn_x ?_
  exact ⟨e5, fB⟩
 rintro ρ20 w21 ⟨e5, fB⟩
 have h := h4
 refine cw_seq ?_
 refine cw_region ?_
 refine ol_val (v := sv e2) (xr_move rfl e5) rfl rfl rfl ?_
 refine ol_val (v := sv e2) (xr_assign rfl rfl) rfl rfl rfl ?_
 refine ol_nil ?_
 refine cw_ret ?_
 repeat (first | with_reducible refine thn_r ?_ | with_reducible refine blk_r ?_)
 obtain rfl := Option.some.inj h
 refine fin_ret1 Try.results117 rfl ?_
 exact ⟨_, rfl, rfl, fB⟩
def rickyardref07_Fill.f (fu : Nat) (a0 : List UInt8) (a1 : Int) : Option (List UInt8) := (if 0 ≤ (mxI (IntKind.i64.wrap (a1 - (List.length a0 : Int))) 0) ∧ Int.toNat (mxI (IntKind.i64.wrap (a1 - (List.length a0 : Int))) 0) ≤ LIM then (if List.length a0 + List.length (List.map toB (List.replicate (Int.toNat (mxI (IntKind.i64.wrap (a1 - (List.length a0 : Int))) 0)) (0 : Int))) ≤ LIM then some ((a0 ++ (List.map toB (List.replicate (Int.toNat (mxI (IntKind.i64.wrap (a1 - (List.length a0 : Int))) 0)) (0 : Int))))) else none) else none)
theorem rickyardref07_Fill.ok (fu : Nat) (w : World) (a0 : List UInt8) (a1 : Int) (r : (List UInt8)) (h : rickyardref07_Fill.f fu a0 a1 = some r) :
  Calls Try.prog 138 (([sv a0, .int .i64 a1] : List Value).toArray) w (fun e w' => ∃ v, e = .returned v ∧ v = sv r ∧ Gr w w') := by
 unfold rickyardref07_Fill.f at h
 have fB : Gr w w := Fr.refl _ _
 refine calls_cw Try.func138 rfl Try.ntmps138 rfl ?_
 refine cw_seq ?_
 refine cw_region ?_
 refine ol_val (v := sv []) (xr_assign rfl rfl) rfl rfl rfl ?_
 refine ol_nil ?_
 refine cw_seq ?_
 refine cw_region ?_
 refine ol_val (v := sv a0) (xr_move rfl rfl) rfl rfl rfl ?_
 refine ol_val (v := .int .i64 a1) (xr_move rfl rfl) rfl rfl rfl ?_
 refine ol_val (v := sv a0) (xr_move rfl rfl) rfl rfl rfl ?_
 refine ol_val (v := .int .i64 (List.length a0 : Int)) (xr_lenStr rfl Try.underlying9 rfl) rfl rfl rfl ?_
 refine ol_val (v := .int .i64 (IntKind.i64.wrap (a1 - (List.length a0 : Int)))) (xr_sub rfl rfl rfl) rfl rfl rfl ?_
 refine ol_val (v := .int .i64 (mxI (IntKind.i64.wrap (a1 - (List.length a0 : Int))) 0)) (xr_max2 rfl rfl rfl) rfl rfl rfl ?_
 obtain ⟨g1, h⟩ := gs h
 refine ol_op (opv_make (K := (kI .u8)) (z := (0 : Int)) rfl Try.underlying43 el5 rfl rfl rfl g1.1 g1.2 rfl fB.size) rfl rfl rfl ?_
 rintro v2 w7 ⟨o4, q3, z5⟩
 have fB := fB.gr q3
 refine ol_val (v := sv (List.map toB (List.replicate (Int.toNat (mxI (IntKind.i64.wrap (a1 - (List.length a0 : Int))) 0)) (0 : Int)))) (xr_toStr rfl Try.underlying43 Try.underlying5 Try.underlying9 rfl o4.rd) rfl rfl rfl ?_
 obtain ⟨g8, h⟩ := gs h
 refine ol_val (v := sv (a0 ++ (List.map toB (List.replicate (Int.toNat (mxI (IntKind.i64.wrap (a1 - (List.length a0 : Int))) 0)) (0 : Int))))) (xr_addStr rfl rfl rfl g8) rfl rfl rfl ?_
 refine ol_val (v := sv (a0 ++ (List.map toB (List.replicate (Int.toNat (mxI (IntKind.i64.wrap (a1 - (List.length a0 : Int))) 0)) (0 : Int))))) (xr_assign rfl rfl) rfl rfl rfl ?_
 refine ol_nil ?_
 refine cw_ret ?_
 repeat (first | with_reducible refine thn_r ?_ | with_reducible refine blk_r ?_)
 obtain rfl := Option.some.inj h
 refine fin_ret1 Try.results138 rfl ?_
 exact ⟨_, rfl, rfl, fB⟩
def rickyardref02_Step.f (fu : Nat) (a0 : Int) : Option Int := (if (decide ((Int.tmod a0 2) = 1)) = true then some ((bXor .u32 (IntKind.u32.wrap (Int.tdiv a0 2)) 2197175160)) else some ((IntKind.u32.wrap (Int.tdiv a0 2))))
theorem rickyardref02_Step.ok (fu : Nat) (w : World) (a0 : Int) (r : Int) (h : rickyardref02_Step.f fu a0 = some r) :
  Calls Try.prog 153 (([.int .u32 a0] : List Value).toArray) w (fun e w' => ∃ v, e = .returned v ∧ v = .int .u32 r ∧ Gr w w') := by
 unfold rickyardref02_Step.f at h
 have fB : Gr w w := Fr.refl _ _
 refine calls_cw Try.func153 rfl Try.ntmps153 rfl ?_
 refine cw_seq ?_
 refine cw_region ?_
 refine ol_val (v := .int .u32 0) (xr_assign rfl rfl) rfl rfl rfl ?_
 refine ol_nil ?_
 refine cw_seq ?_
 refine cw_seq ?_
 refine cw_region ?_
 refine ol_val (v := .int .u32 a0) (xr_move rfl rfl) rfl rfl rfl ?_
 refine ol_val (v := .int .u32 (Int.tmod a0 2)) (xr_rem rfl rfl rfl (by decide)) rfl rfl rfl ?_
 refine ol_val (v := .bool (decide ((Int.tmod a0 2) = 1))) (xr_eqI rfl Try.underlying191 rfl rfl rfl) rfl rfl rfl ?_
 refine ol_nil ?_
 rcases is h with ⟨c1, h⟩ | ⟨c1, h⟩
 ·refine cw_condT rfl c1 ?_
  refine cw_seq ?_
  refine cw_region ?_
  refine ol_val (v := .int .u32 a0) (xr_move rfl rfl) rfl rfl rfl ?_
  refine ol_val (v := .int .u32 (IntKind.u32.wrap (Int.tdiv a0 2))) (xr_quo rfl rfl rfl (by decide)) rfl rfl rfl ?_
  refine ol_val (v := .int .u32 (bXor .u32 (IntKind.u32.wrap (Int.tdiv a0 2)) 2197175160)) (xr_xor rfl rfl rfl) rfl rfl rfl ?_
  refine ol_val (v := .int .u32 (bXor .u32 (IntKind.u32.wrap (Int.tdiv a0 2)) 2197175160)) (xr_assign rfl rfl) rfl rfl rfl ?_
  refine ol_nil ?_
  refine cw_ret ?_
  repeat (first | with_reducible refine thn_r ?_ | with_reducible refine blk_r ?_)
  obtain rfl := Option.some.inj h
  refine fin_ret1 Try.results153 rfl ?_
  exact ⟨_, rfl, rfl, fB⟩
 refine cw_condF rfl c1 ?_
 refine cw_skip ?_
 refine cw_seq ?_
 refine cw_region ?_
 refine ol_val (v := .int .u32 a0) (xr_move rfl rfl) rfl rfl rfl ?_
 refine ol_val (v := .int .u32 (IntKind.u32.wrap (Int.tdiv a0 2))) (xr_quo rfl rfl rfl (by decide)) rfl rfl rfl ?_
 refine ol_val (v := .int .u32 (IntKind.u32.wrap (Int.tdiv a0 2))) (xr_assign rfl rfl) rfl rfl rfl ?_
 refine ol_nil ?_
 refine cw_ret ?_
 repeat (first | with_reducible refine thn_r ?_ | with_reducible refine blk_r ?_)
 obtain rfl := Option.some.inj h
 refine fin_ret1 Try.results153 rfl ?_
 exact ⟨_, rfl, rfl, fB⟩
def rickyardref02_Steps.s0 (fu : Nat) (a1 : Int) : (Int × Int) → Option (Sum Int (Int × Int)) := fun s1 => (if (decide (s1.2 < a1)) = true then ((rickyardref02_Step.f fu s1.1).bind fun t9 => some (Sum.inr (t9, (IntKind.i64.wrap (s1.2 + 1))))) else some (Sum.inl (s1.1)))
def rickyardref02_Steps.f (fu : Nat) (a0 : Int) (a1 : Int) : Option Int := ((loopM (rickyardref02_Steps.s0 fu a1) fu (a0, 0)).bind fun e2 => some (e2))
theorem rickyardref02_Steps.ok (fu : Nat) (w : World) (a0 : Int) (a1 : Int) (r : Int) (h : rickyardref02_Steps.f fu a0 a1 = some r) :
  Calls Try.prog 148 (([.int .u32 a0, .int .i64 a1] : List Value).toArray) w (fun e w' => ∃ v, e = .returned v ∧ v = .int .u32 r ∧ Gr w w') := by
 unfold rickyardref02_Steps.f at h
 have fB : Gr w w := Fr.refl _ _
 refine calls_cw Try.func148 rfl Try.ntmps148 rfl ?_
 refine cw_seq ?_
 refine cw_region ?_
 refine ol_val (v := .int .u32 0) (xr_assign rfl rfl) rfl rfl rfl ?_
 refine ol_nil ?_
 refine cw_seq ?_
 refine cw_seq ?_
 refine cw_region ?_
 refine ol_val (v := .int .i64 0) (xr_assign rfl rfl) rfl rfl rfl ?_
 refine ol_nil ?_
 obtain ⟨e2, l3, h4⟩ := bs h
 refine cw_mid (fun ρ' w' => ρ' 0 = .int .u32 e2 ∧ Gr w w') ?_ ?_
 ·refine cw_block ?_
  refine cw_round (fun (s1 : Int × Int) ρ' w' => ρ' 0 = .int .u32 s1.1 ∧ ρ' 1 = .int .i64 a1 ∧ ρ' 5 = .int .i64 s1.2 ∧ Gr w w') l3 ?_ ?_
  ·skip
   exact ⟨rfl, rfl, rfl, fB⟩
  rintro s1 x7 ρ5 w6 ⟨e0, e1, e5, fB⟩ h
  unfold rickyardref02_Steps.s0 at h
  refine cw_seq ?_
  refine cw_seq ?_
  refine cw_region ?_
  refine ol_val (v := .int .i64 s1.2) (xr_move rfl e5) rfl rfl rfl ?_
  refine ol_val (v := .int .i64 a1) (xr_move rfl e1) rfl rfl rfl ?_
  refine ol_val (v := .bool (decide (s1.2 < a1))) (xr_lss rfl rfl rfl) rfl rfl rfl ?_
  refine ol_nil ?_
  rcases is h with ⟨c8, h⟩ | ⟨c8, h⟩
  ·refine cw_condT rfl c8 ?_
   refine cw_skip ?_
   refine cw_seq ?_
   refine cw_block ?_
   refine cw_region ?_
   refine ol_val (v := .int .u32 s1.1) (xr_move rfl e0) rfl rfl rfl ?_
   obtain ⟨t9, k10, h⟩ := bs h
   refine ol_op (opv_call rfl cal153 (ac rfl an) (rickyardref02_Step.ok fu _ s1.1 _ k10)) rfl rfl rfl ?_
   rintro _ w12 ⟨rfl, q11⟩
   have fB := fB.gr q11
   refine ol_val (v := .int .u32 t9) (xr_assign rfl rfl) rfl rfl rfl ?_
   refine ol_nil ?_
   refine blk_i ?_
   refine cw_region ?_
   refine ol_val (v := .int .i64 s1.2) (xr_move rfl e5) rfl rfl rfl ?_
   refine ol_val (v := .int .i64 (IntKind.i64.wrap (s1.2 + 1))) (xr_add rfl rfl rfl) rfl rfl rfl ?_
   refine ol_val (v := .int .i64 (IntKind.i64.wrap (s1.2 + 1))) (xr_assign rfl rfl) rfl rfl rfl ?_
   refine ol_nil ?_
   obtain rfl := Option.some.inj h
   refine lp_in ?_
   exact ⟨rfl, e1, rfl, fB⟩
  refine cw_condF rfl c8 ?_
  refine cw_exit ?_
  repeat (first | with_reducible refine thn_e ?_ | with_reducible refine blk_e rfl ?_)
  obtain rfl := Option.some.inj h
  refine lp_exit ?_
  rintro rfl
  refine thn_x ?_
  exact ⟨e0, fB⟩
 rintro ρ13 w14 ⟨e0, fB⟩
 have h := h4
 refine cw_seq ?_
 refine cw_region ?_
 refine ol_val (v := .int .u32 e2) (xr_move rfl e0) rfl rfl rfl ?_
 refine ol_val (v := .int .u32 e2) (xr_assign rfl rfl) rfl rfl rfl ?_
 refine ol_nil ?_
 refine cw_ret ?_
 repeat (first | with_reducible refine thn_r ?_ | with_reducible refine blk_r ?_)
 obtain rfl := Option.some.inj h
 refine fin_ret1 Try.results148 rfl ?_
 exact ⟨_, rfl, rfl, fB⟩
def rickyardref02_Sum.s0 (fu : Nat) (a0 : List Int) : (Int × Int) → Option (Sum Int (Int × Int)) := fun s1 => (if (decide (s1.2 < (List.length a0 : Int))) = true then (if 0 ≤ s1.2 ∧ s1.2 < (List.length a0 : Int) then ((rickyardref02_Steps.f fu (bXor .u32 s1.1 (IntKind.u32.wrap (ix a0 s1.2))) 8).bind fun t10 => some (Sum.inr (t10, (IntKind.i64.wrap (s1.2 + 1))))) else none) else some (Sum.inl (s1.1)))
def rickyardref02_Sum.f (fu : Nat) (a0 : List Int) : Option Int := ((loopM (rickyardref02_Sum.s0 fu a0) fu (4294967295, 0)).bind fun e2 => some ((IntKind.u32.wrap (4294967295 - e2))))
theorem rickyardref02_Sum.ok (fu : Nat) (w : World) (a0 : List Int) (V0_0 : Value) (R0_0 : Rd (kI .u8) w V0_0 a0) (r : Int) (h : rickyardref02_Sum.f fu a0 = some r) :
  Calls Try.prog 139 (([V0_0] : List Value).toArray) w (fun e w' => ∃ v, e = .returned v ∧ v = .int .u32 r ∧ Gr w w') := by
 unfold rickyardref02_Sum.f at h
 have fB : Gr w w := Fr.refl _ _
 refine calls_cw Try.func139 rfl Try.ntmps139 rfl ?_
 refine cw_seq ?_
 refine cw_region ?_
 refine ol_val (v := .int .u32 0) (xr_assign rfl rfl) rfl rfl rfl ?_
 refine ol_nil ?_
 refine cw_seq ?_
 refine cw_region ?_
 refine ol_val (v := .int .u32 4294967295) (xr_assign rfl rfl) rfl rfl rfl ?_
 refine ol_nil ?_
 refine cw_seq ?_
 refine cw_seq ?_
 refine cw_region ?_
 refine ol_val (v := .int .i64 0) (xr_assign rfl rfl) rfl rfl rfl ?_
 refine ol_nil ?_
 obtain ⟨e2, l3, h4⟩ := bs h
 refine cw_mid (fun ρ' w' => ρ' 3 = .int .u32 e2 ∧ Gr w w') ?_ ?_
 ·refine cw_block ?_
  refine cw_round (fun (s1 : Int × Int) ρ' w' => ρ' 0 = V0_0 ∧ ρ' 3 = .int .u32 s1.1 ∧ ρ' 4 = .int .i64 s1.2 ∧ Gr w w') l3 ?_ ?_
  ·skip
   exact ⟨rfl, rfl, rfl, fB⟩
  rintro s1 x7 ρ5 w6 ⟨e0, e3, e4, fB⟩ h
  unfold rickyardref02_Sum.s0 at h
  refine cw_seq ?_
  refine cw_seq ?_
  refine cw_region ?_
  refine ol_val (v := .int .i64 s1.2) (xr_move rfl e4) rfl rfl rfl ?_
  refine ol_val (v := V0_0) (xr_move rfl e0) rfl rfl rfl ?_
  refine ol_val (v := .int .i64 (List.length a0 : Int)) (xr_lenR rfl Try.underlying43 rfl (R0_0.gr fB)) rfl rfl rfl ?_
  refine ol_val (v := .bool (decide (s1.2 < (List.length a0 : Int)))) (xr_lss rfl rfl rfl) rfl rfl rfl ?_
  refine ol_nil ?_
  rcases is h with ⟨c8, h⟩ | ⟨c8, h⟩
  ·refine cw_condT rfl c8 ?_
   refine cw_skip ?_
   refine cw_seq ?_
   refine cw_block ?_
   refine cw_region ?_
   refine ol_val (v := .int .u32 s1.1) (xr_move rfl e3) rfl rfl rfl ?_
   refine ol_val (v := V0_0) (xr_move rfl e0) rfl rfl rfl ?_
   refine ol_val (v := .int .i64 s1.2) (xr_move rfl e4) rfl rfl rfl ?_
   obtain ⟨g9, h⟩ := gs h
   refine ol_val (v := (pt ((sb V0_0)) (so V0_0 + Int.toNat s1.2 * 1))) (xr_indexR (K := (kI .u8)) (v := V0_0) rfl Try.underlying43 sz5 rfl (R0_0.gr fB) rfl g9.1 g9.2) rfl rfl rfl ?_
   refine ol_val (v := .int .u8 (ix a0 s1.2)) (xr_load1 (v := .int .u8 (ix a0 s1.2)) rfl ag5 rfl ((R0_0.gr fB).elem g9.1 g9.2)) rfl rfl rfl ?_
   refine ol_val (v := .int .u32 (IntKind.u32.wrap (ix a0 s1.2))) (xr_conv rfl Try.underlying5 Try.underlying191 rfl) rfl rfl rfl ?_
   refine ol_val (v := .int .u32 (bXor .u32 s1.1 (IntKind.u32.wrap (ix a0 s1.2)))) (xr_xor rfl rfl rfl) rfl rfl rfl ?_
   obtain ⟨t10, k11, h⟩ := bs h
   refine ol_op (opv_call rfl cal148 (ac rfl (ac rfl an)) (rickyardref02_Steps.ok fu _ (bXor .u32 s1.1 (IntKind.u32.wrap (ix a0 s1.2))) 8 _ k11)) rfl rfl rfl ?_
   rintro _ w13 ⟨rfl, q12⟩
   have fB := fB.gr q12
   refine ol_val (v := .int .u32 t10) (xr_assign rfl rfl) rfl rfl rfl ?_
   refine ol_nil ?_
   refine blk_i ?_
   refine cw_region ?_
   refine ol_val (v := .int .i64 s1.2) (xr_move rfl e4) rfl rfl rfl ?_
   refine ol_val (v := .int .i64 (IntKind.i64.wrap (s1.2 + 1))) (xr_add rfl rfl rfl) rfl rfl rfl ?_
   refine ol_val (v := .int .i64 (IntKind.i64.wrap (s1.2 + 1))) (xr_assign rfl rfl) rfl rfl rfl ?_
   refine ol_nil ?_
   obtain rfl := Option.some.inj h
   refine lp_in ?_
   exact ⟨e0, rfl, rfl, fB⟩
  refine cw_condF rfl c8 ?_
  refine cw_exit ?_
  repeat (first | with_reducible refine thn_e ?_ | with_reducible refine blk_e rfl ?_)
  obtain rfl := Option.some.inj h
  refine lp_exit ?_
  rintro rfl
  refine thn_x ?_
  exact ⟨e3, fB⟩
 rintro ρ14 w15 ⟨e3, fB⟩
 have h := h4
 refine cw_seq ?_
 refine cw_region ?_
 refine ol_val (v := .int .u32 e2) (xr_move rfl e3) rfl rfl rfl ?_
 refine ol_val (v := .int .u32 (IntKind.u32.wrap (4294967295 - e2))) (xr_sub rfl rfl rfl) rfl rfl rfl ?_
 refine ol_val (v := .int .u32 (IntKind.u32.wrap (4294967295 - e2))) (xr_assign rfl rfl) rfl rfl rfl ?_
 refine ol_nil ?_
 refine cw_ret ?_
 repeat (first | with_reducible refine thn_r ?_ | with_reducible refine blk_r ?_)
 obtain rfl := Option.some.inj h
 refine fin_ret1 Try.results139 rfl ?_
 exact ⟨_, rfl, rfl, fB⟩
def rickyardref07_Seal.f (fu : Nat) (a0 : Int) (a1 : Int) (a2 : List UInt8) : Option (List UInt8) := ((rickyardref07_Fill.f fu a2 56).bind fun t6 => (if List.length (List.map toB [(IntKind.u8.wrap a0), (IntKind.u8.wrap a1), 0, 0]) + List.length t6 ≤ LIM then ((rickyardref02_Sum.f fu (List.map ofB ((List.map toB [(IntKind.u8.wrap a0), (IntKind.u8.wrap a1), 0, 0]) ++ t6))).bind fun t17 => ((rickyardref01_Lay.f fu (IntKind.u64.wrap t17) 4).bind fun t21 => (if List.length t21 + List.length ((List.map toB [(IntKind.u8.wrap a0), (IntKind.u8.wrap a1), 0, 0]) ++ t6) ≤ LIM then some ((t21 ++ ((List.map toB [(IntKind.u8.wrap a0), (IntKind.u8.wrap a1), 0, 0]) ++ t6))) else none))) else none))
theorem rickyardref07_Seal.ok (fu : Nat) (w : World) (a0 : Int) (a1 : Int) (a2 : List UInt8) (r : (List UInt8)) (h : rickyardref07_Seal.f fu a0 a1 a2 = some r) :
  Calls Try.prog 118 (([.int .i64 a0, .int .i64 a1, sv a2] : List Value).toArray) w (fun e w' => ∃ v, e = .returned v ∧ v = sv r ∧ Gr w w') := by
 unfold rickyardref07_Seal.f at h
 have fB : Gr w w := Fr.refl _ _
 refine calls_cw Try.func118 rfl Try.ntmps118 rfl ?_
 refine cw_seq ?_
 refine cw_region ?_
 refine ol_val (v := sv []) (xr_assign rfl rfl) rfl rfl rfl ?_
 refine ol_nil ?_
 refine cw_seq ?_
 obtain ⟨t6, k7, h⟩ := bs h
 refine cw_drawL 8 [fun vz wz => vz = (.int .i64 a0 : Value), fun vz wz => vz = (.int .u8 (IntKind.u8.wrap a0) : Value), fun vz wz => vz = (.int .i64 a1 : Value), fun vz wz => vz = (.int .u8 (IntKind.u8.wrap a1) : Value), fun vz wz => ∃ v1 : Value, ∃ o3 : Own (kI .u8) 5 wz w.heap.size v1 [(IntKind.u8.wrap a0), (IntKind.u8.wrap a1), 0, 0], vz = (v1 : Value), fun vz wz => vz = (sv (List.map toB [(IntKind.u8.wrap a0), (IntKind.u8.wrap a1), 0, 0]) : Value), fun vz wz => vz = (sv a2 : Value), fun vz wz => vz = (sv t6 : Value)] mo rfl ⟨fun _ _ _ h _ => h, fun _ _ _ h _ => h, fun _ _ _ h _ => h, fun _ _ _ h _ => h, fun _ _ _ ⟨v1, o3, h⟩ q => ⟨v1, o3.gr q, h⟩, fun _ _ _ h _ => h, fun _ _ _ h _ => h, fun _ _ _ h _ => h, trivial⟩ ?_ ?_
 ·refine ⟨?_, ?_, ?_, ?_, ?_, ?_, ?_, ?_, trivial⟩
  ·intro ρz wz hz hk hd
   exact sk_val (v := .int .i64 a0) (xr_move rfl ((hk 0 rfl).trans rfl)) rfl rfl
  ·intro ρz wz hz hk hd
   exact sk_val (v := .int .u8 (IntKind.u8.wrap a0)) (xr_conv rfl Try.underlying3 Try.underlying5 (hd 0 rfl 8 rfl)) rfl rfl
  ·intro ρz wz hz hk hd
   exact sk_val (v := .int .i64 a1) (xr_move rfl ((hk 1 rfl).trans rfl)) rfl rfl
  ·intro ρz wz hz hk hd
   exact sk_val (v := .int .u8 (IntKind.u8.wrap a1)) (xr_conv rfl Try.underlying3 Try.underlying5 (hd 2 rfl 10 rfl)) rfl rfl
  ·intro ρz wz hz hk hd
   refine sk_op (opv_buildSlice (K := (kI .u8)) (xs := [(IntKind.u8.wrap a0), (IntKind.u8.wrap a1), 0, 0]) (vals := [.int .u8 (IntKind.u8.wrap a0), .int .u8 (IntKind.u8.wrap a1), .int .u8 0, .int .u8 0]) rfl Try.underlying43 el5 rfl rfl ⟨rfl, (hd 1 rfl 9 rfl), ⟨rfl, (hd 3 rfl 11 rfl), ⟨rfl, rfl, ⟨rfl, rfl, trivial⟩⟩⟩⟩ rfl rfl rfl (Nat.le_trans fB.size hz.size)) rfl ?_
   rintro v1 wy ⟨o3, q2, z4⟩
   exact ⟨⟨v1, o3, rfl⟩, q2⟩
  ·intro ρz wz hz hk hd
   obtain ⟨v1, o3, d12⟩ := hd 4 rfl 12 rfl
   exact sk_val (xr_toStr rfl Try.underlying43 Try.underlying5 Try.underlying9 d12 o3.rd) rfl rfl
  ·intro ρz wz hz hk hd
   exact sk_val (v := sv a2) (xr_move rfl ((hk 2 rfl).trans rfl)) rfl rfl
  intro ρz wz hz hk hd
  refine sk_op (opv_call rfl cal138 (ac (hd 6 rfl 14 rfl) (ac rfl an)) (rickyardref07_Fill.ok fu _ a2 56 _ k7)) rfl ?_
  rintro _ wy ⟨rfl, q8⟩
  exact ⟨rfl, q8⟩
 intro ρ9 w10 q11 hk hd
 have e13 := hd 5 rfl 13 rfl
 have e15 := hd 7 rfl 15 rfl
 have fB := fB.gr q11
 obtain ⟨g12, h⟩ := gs h
 refine ol_val (v := sv ((List.map toB [(IntKind.u8.wrap a0), (IntKind.u8.wrap a1), 0, 0]) ++ t6)) (xr_addStr rfl e13 e15 g12) rfl rfl rfl ?_
 refine ol_val (v := sv ((List.map toB [(IntKind.u8.wrap a0), (IntKind.u8.wrap a1), 0, 0]) ++ t6)) (xr_assign rfl rfl) rfl rfl rfl ?_
 refine ol_nil ?_
 refine cw_seq ?_
 refine cw_region ?_
 refine ol_val (v := sv ((List.map toB [(IntKind.u8.wrap a0), (IntKind.u8.wrap a1), 0, 0]) ++ t6)) (xr_move rfl rfl) rfl rfl rfl ?_
 refine ol_op (opv_toBytes rfl Try.underlying9 Try.underlying43 Try.underlying5 rfl) rfl rfl rfl ?_
 rintro v13 w16 ⟨r15, q14⟩
 have fB := fB.gr q14
 obtain ⟨t17, k18, h⟩ := bs h
 refine ol_op (opv_call rfl cal139 (ac rfl an) (rickyardref02_Sum.ok fu _ (List.map ofB ((List.map toB [(IntKind.u8.wrap a0), (IntKind.u8.wrap a1), 0, 0]) ++ t6)) v13 (r15) _ k18)) rfl rfl rfl ?_
 rintro _ w20 ⟨rfl, q19⟩
 have fB := fB.gr q19
 refine ol_val (v := .int .u64 (IntKind.u64.wrap t17)) (xr_conv rfl Try.underlying191 Try.underlying22 rfl) rfl rfl rfl ?_
 obtain ⟨t21, k22, h⟩ := bs h
 refine ol_op (opv_call rfl cal117 (ac rfl (ac rfl an)) (rickyardref01_Lay.ok fu _ (IntKind.u64.wrap t17) 4 _ k22)) rfl rfl rfl ?_
 rintro _ w24 ⟨rfl, q23⟩
 have fB := fB.gr q23
 refine ol_val (v := sv ((List.map toB [(IntKind.u8.wrap a0), (IntKind.u8.wrap a1), 0, 0]) ++ t6)) (xr_move rfl rfl) rfl rfl rfl ?_
 obtain ⟨g25, h⟩ := gs h
 refine ol_val (v := sv (t21 ++ ((List.map toB [(IntKind.u8.wrap a0), (IntKind.u8.wrap a1), 0, 0]) ++ t6))) (xr_addStr rfl rfl rfl g25) rfl rfl rfl ?_
 refine ol_val (v := sv (t21 ++ ((List.map toB [(IntKind.u8.wrap a0), (IntKind.u8.wrap a1), 0, 0]) ++ t6))) (xr_assign rfl rfl) rfl rfl rfl ?_
 refine ol_nil ?_
 refine cw_ret ?_
 repeat (first | with_reducible refine thn_r ?_ | with_reducible refine blk_r ?_)
 obtain rfl := Option.some.inj h
 refine fin_ret1 Try.results118 rfl ?_
 exact ⟨_, rfl, rfl, fB⟩
def rickyardref13_Put.s0 (fu : Nat) (a0 : S_api_Super) : ((List UInt8) × Int) → Option (Sum (List UInt8) ((List UInt8) × Int)) := fun s44 => (if (decide (s44.2 < (List.length a0.Charts : Int))) = true then (if 0 ≤ s44.2 ∧ s44.2 < (List.length a0.Charts : Int) then ((rickyardref01_Lay.f fu (IntKind.u64.wrap (ix a0.Charts s44.2)) 2).bind fun t53 => (if List.length s44.1 + List.length t53 ≤ LIM then some (Sum.inr ((s44.1 ++ t53), (IntKind.i64.wrap (s44.2 + 1)))) else none)) else none) else some (Sum.inl (s44.1)))
def rickyardref13_Put.f (fu : Nat) (a0 : S_api_Super) : Option (List UInt8) := ((rickyardref01_Lay.f fu (IntKind.u64.wrap a0.Epoch) 8).bind fun t7 => ((rickyardref01_Lay.f fu (IntKind.u64.wrap a0.Tickets.Geometry.Blocks) 4).bind fun t10 => (if List.length t7 + List.length t10 ≤ LIM then ((rickyardref01_Lay.f fu (IntKind.u64.wrap a0.Tickets.Geometry.Slots) 4).bind fun t14 => (if List.length (t7 ++ t10) + List.length t14 ≤ LIM then ((rickyardref01_Lay.f fu (IntKind.u64.wrap a0.Tickets.Geometry.Gens) 4).bind fun t18 => (if List.length ((t7 ++ t10) ++ t14) + List.length t18 ≤ LIM then ((rickyardref01_Lay.f fu (IntKind.u64.wrap a0.Tickets.High) 4).bind fun t22 => (if List.length (((t7 ++ t10) ++ t14) ++ t18) + List.length t22 ≤ LIM then ((rickyardref01_Lay.f fu (IntKind.u64.wrap a0.Tickets.Free) 4).bind fun t26 => (if List.length ((((t7 ++ t10) ++ t14) ++ t18) ++ t22) + List.length t26 ≤ LIM then ((rickyardref01_Lay.f fu (IntKind.u64.wrap a0.Tickets.Top) 2).bind fun t33 => (if List.length (((((t7 ++ t10) ++ t14) ++ t18) ++ t22) ++ t26) + List.length t33 ≤ LIM then ((rickyardref01_Lay.f fu (IntKind.u64.wrap a0.Dir) 2).bind fun t37 => (if List.length ((((((t7 ++ t10) ++ t14) ++ t18) ++ t22) ++ t26) ++ t33) + List.length t37 ≤ LIM then ((loopM (rickyardref13_Put.s0 fu a0) fu ((((((((t7 ++ t10) ++ t14) ++ t18) ++ t22) ++ t26) ++ t33) ++ t37), 0)).bind fun e45 => ((rickyardref07_Seal.f fu 7 (List.length a0.Charts : Int) e45).bind fun t60 => some (t60))) else none)) else none)) else none)) else none)) else none)) else none)) else none)))
theorem rickyardref13_Put.ok (fu : Nat) (w : World) (a0 : S_api_Super) (V0_0 : Value) (R0_0 : Rd (kI .i64) w V0_0 a0.Charts) (r : (List UInt8)) (h : rickyardref13_Put.f fu a0 = some r) :
  Calls Try.prog 76 (([aggV [(sI a0.Epoch), (sI a0.Tickets.Geometry.Blocks), (sI a0.Tickets.Geometry.Slots), (sI a0.Tickets.Geometry.Gens), (sI a0.Tickets.Top), (sI a0.Tickets.High), (sI a0.Tickets.Free), (sI a0.Dir), Seg.cell V0_0 R0_0.one]] : List Value).toArray) w (fun e w' => ∃ v, e = .returned v ∧ v = sv r ∧ Gr w w') := by
 unfold rickyardref13_Put.f at h
 have fB : Gr w w := Fr.refl _ _
 refine calls_cw Try.func76 rfl Try.ntmps76 rfl ?_
 refine cw_seq ?_
 refine cw_region ?_
 refine ol_op (opv_box (ss := [(sI a0.Epoch), (sI a0.Tickets.Geometry.Blocks), (sI a0.Tickets.Geometry.Slots), (sI a0.Tickets.Geometry.Gens), (sI a0.Tickets.Top), (sI a0.Tickets.High), (sI a0.Tickets.Free), (sI a0.Dir), Seg.cell V0_0 R0_0.one]) rfl rfl rfl) rfl rfl rfl ?_
 rintro _ w6 ⟨G1, rfl, b2, q3, z4⟩
 have z4 := Nat.le_trans fB.size z4
 have fB := fB.gr q3
 refine ol_val (v := sv []) (xr_assign rfl rfl) rfl rfl rfl ?_
 refine ol_nil ?_
 refine cw_seq ?_
 obtain ⟨t7, k8, h⟩ := bs h
 obtain ⟨t10, k11, h⟩ := bs h
 obtain ⟨g13, h⟩ := gs h
 obtain ⟨t14, k15, h⟩ := bs h
 obtain ⟨g17, h⟩ := gs h
 obtain ⟨t18, k19, h⟩ := bs h
 obtain ⟨g21, h⟩ := gs h
 obtain ⟨t22, k23, h⟩ := bs h
 obtain ⟨g25, h⟩ := gs h
 obtain ⟨t26, k27, h⟩ := bs h
 refine cw_drawL 36 [fun vz wz => vz = ((pt G1 0) : Value), fun vz wz => vz = (.int .i64 a0.Epoch : Value), fun vz wz => vz = (.int .u64 (IntKind.u64.wrap a0.Epoch) : Value), fun vz wz => vz = (sv t7 : Value), fun vz wz => vz = ((pt G1 1) : Value), fun vz wz => vz = ((pt G1 1) : Value), fun vz wz => vz = ((pt G1 1) : Value), fun vz wz => vz = (.int .i64 a0.Tickets.Geometry.Blocks : Value), fun vz wz => vz = (.int .u64 (IntKind.u64.wrap a0.Tickets.Geometry.Blocks) : Value), fun vz wz => vz = (sv t10 : Value), fun vz wz => vz = (sv (t7 ++ t10) : Value), fun vz wz => vz = ((pt G1 1) : Value), fun vz wz => vz = ((pt G1 1) : Value), fun vz wz => vz = ((pt G1 2) : Value), fun vz wz => vz = (.int .i64 a0.Tickets.Geometry.Slots : Value), fun vz wz => vz = (.int .u64 (IntKind.u64.wrap a0.Tickets.Geometry.Slots) : Value), fun vz wz => vz = (sv t14 : Value), fun vz wz => vz = (sv ((t7 ++ t10) ++ t14) : Value), fun vz wz => vz = ((pt G1 1) : Value), fun vz wz => vz = ((pt G1 1) : Value), fun vz wz => vz = ((pt G1 3) : Value), fun vz wz => vz = (.int .i64 a0.Tickets.Geometry.Gens : Value), fun vz wz => vz = (.int .u64 (IntKind.u64.wrap a0.Tickets.Geometry.Gens) : Value), fun vz wz => vz = (sv t18 : Value), fun vz wz => vz = (sv (((t7 ++ t10) ++ t14) ++ t18) : Value), fun vz wz => vz = ((pt G1 1) : Value), fun vz wz => vz = ((pt G1 5) : Value), fun vz wz => vz = (.int .i64 a0.Tickets.High : Value), fun vz wz => vz = (.int .u64 (IntKind.u64.wrap a0.Tickets.High) : Value), fun vz wz => vz = (sv t22 : Value), fun vz wz => vz = (sv ((((t7 ++ t10) ++ t14) ++ t18) ++ t22) : Value), fun vz wz => vz = ((pt G1 1) : Value), fun vz wz => vz = ((pt G1 6) : Value), fun vz wz => vz = (.int .i64 a0.Tickets.Free : Value), fun vz wz => vz = (.int .u64 (IntKind.u64.wrap a0.Tickets.Free) : Value), fun vz wz => vz = (sv t26 : Value)] mo rfl ⟨fun _ _ _ h _ => h, fun _ _ _ h _ => h, fun _ _ _ h _ => h, fun _ _ _ h _ => h, fun _ _ _ h _ => h, fun _ _ _ h _ => h, fun _ _ _ h _ => h, fun _ _ _ h _ => h, fun _ _ _ h _ => h, fun _ _ _ h _ => h, fun _ _ _ h _ => h, fun _ _ _ h _ => h, fun _ _ _ h _ => h, fun _ _ _ h _ => h, fun _ _ _ h _ => h, fun _ _ _ h _ => h, fun _ _ _ h _ => h, fun _ _ _ h _ => h, fun _ _ _ h _ => h, fun _ _ _ h _ => h, fun _ _ _ h _ => h, fun _ _ _ h _ => h, fun _ _ _ h _ => h, fun _ _ _ h _ => h, fun _ _ _ h _ => h, fun _ _ _ h _ => h, fun _ _ _ h _ => h, fun _ _ _ h _ => h, fun _ _ _ h _ => h, fun _ _ _ h _ => h, fun _ _ _ h _ => h, fun _ _ _ h _ => h, fun _ _ _ h _ => h, fun _ _ _ h _ => h, fun _ _ _ h _ => h, fun _ _ _ h _ => h, trivial⟩ ?_ ?_
 ·refine ⟨?_, ?_, ?_, ?_, ?_, ?_, ?_, ?_, ?_, ?_, ?_, ?_, ?_, ?_, ?_, ?_, ?_, ?_, ?_, ?_, ?_, ?_, ?_, ?_, ?_, ?_, ?_, ?_, ?_, ?_, ?_, ?_, ?_, ?_, ?_, ?_, trivial⟩
  ·intro ρz wz hz hk hd
   exact sk_val (v := (pt G1 0)) (xr_fieldAddr (p := 0) (q := 0) rfl fl110_0 ((hk 1 rfl).trans rfl)) rfl rfl
  ·intro ρz wz hz hk hd
   exact sk_val (v := .int .i64 a0.Epoch) (xr_load1 (v := .int .i64 a0.Epoch) rfl ag3 (hd 0 rfl 5 rfl) ((b2.gr hz).seg 0 rfl rfl)) rfl rfl
  ·intro ρz wz hz hk hd
   exact sk_val (v := .int .u64 (IntKind.u64.wrap a0.Epoch)) (xr_conv rfl Try.underlying3 Try.underlying22 (hd 1 rfl 6 rfl)) rfl rfl
  ·intro ρz wz hz hk hd
   refine sk_op (opv_call rfl cal117 (ac (hd 2 rfl 7 rfl) (ac rfl an)) (rickyardref01_Lay.ok fu _ (IntKind.u64.wrap a0.Epoch) 8 _ k8)) rfl ?_
   rintro _ wy ⟨rfl, q9⟩
   exact ⟨rfl, q9⟩
  ·intro ρz wz hz hk hd
   exact sk_val (v := (pt G1 1)) (xr_fieldAddr (p := 0) (q := 1) rfl fl110_1 ((hk 1 rfl).trans rfl)) rfl rfl
  ·intro ρz wz hz hk hd
   exact sk_val (v := (pt G1 1)) (xr_fieldAddr (p := 1) (q := 0) rfl fl108_0 (hd 4 rfl 9 rfl)) rfl rfl
  ·intro ρz wz hz hk hd
   exact sk_val (v := (pt G1 1)) (xr_fieldAddr (p := 1) (q := 0) rfl fl106_0 (hd 5 rfl 10 rfl)) rfl rfl
  ·intro ρz wz hz hk hd
   exact sk_val (v := .int .i64 a0.Tickets.Geometry.Blocks) (xr_load1 (v := .int .i64 a0.Tickets.Geometry.Blocks) rfl ag3 (hd 6 rfl 11 rfl) ((b2.gr hz).seg 1 rfl rfl)) rfl rfl
  ·intro ρz wz hz hk hd
   exact sk_val (v := .int .u64 (IntKind.u64.wrap a0.Tickets.Geometry.Blocks)) (xr_conv rfl Try.underlying3 Try.underlying22 (hd 7 rfl 12 rfl)) rfl rfl
  ·intro ρz wz hz hk hd
   refine sk_op (opv_call rfl cal117 (ac (hd 8 rfl 13 rfl) (ac rfl an)) (rickyardref01_Lay.ok fu _ (IntKind.u64.wrap a0.Tickets.Geometry.Blocks) 4 _ k11)) rfl ?_
   rintro _ wy ⟨rfl, q12⟩
   exact ⟨rfl, q12⟩
  ·intro ρz wz hz hk hd
   exact sk_val (v := sv (t7 ++ t10)) (xr_addStr rfl (hd 3 rfl 8 rfl) (hd 9 rfl 14 rfl) g13) rfl rfl
  ·intro ρz wz hz hk hd
   exact sk_val (v := (pt G1 1)) (xr_fieldAddr (p := 0) (q := 1) rfl fl110_1 ((hk 1 rfl).trans rfl)) rfl rfl
  ·intro ρz wz hz hk hd
   exact sk_val (v := (pt G1 1)) (xr_fieldAddr (p := 1) (q := 0) rfl fl108_0 (hd 11 rfl 16 rfl)) rfl rfl
  ·intro ρz wz hz hk hd
   exact sk_val (v := (pt G1 2)) (xr_fieldAddr (p := 1) (q := 1) rfl fl106_1 (hd 12 rfl 17 rfl)) rfl rfl
  ·intro ρz wz hz hk hd
   exact sk_val (v := .int .i64 a0.Tickets.Geometry.Slots) (xr_load1 (v := .int .i64 a0.Tickets.Geometry.Slots) rfl ag3 (hd 13 rfl 18 rfl) ((b2.gr hz).seg 2 rfl rfl)) rfl rfl
  ·intro ρz wz hz hk hd
   exact sk_val (v := .int .u64 (IntKind.u64.wrap a0.Tickets.Geometry.Slots)) (xr_conv rfl Try.underlying3 Try.underlying22 (hd 14 rfl 19 rfl)) rfl rfl
  ·intro ρz wz hz hk hd
   refine sk_op (opv_call rfl cal117 (ac (hd 15 rfl 20 rfl) (ac rfl an)) (rickyardref01_Lay.ok fu _ (IntKind.u64.wrap a0.Tickets.Geometry.Slots) 4 _ k15)) rfl ?_
   rintro _ wy ⟨rfl, q16⟩
   exact ⟨rfl, q16⟩
  ·intro ρz wz hz hk hd
   exact sk_val (v := sv ((t7 ++ t10) ++ t14)) (xr_addStr rfl (hd 10 rfl 15 rfl) (hd 16 rfl 21 rfl) g17) rfl rfl
  ·intro ρz wz hz hk hd
   exact sk_val (v := (pt G1 1)) (xr_fieldAddr (p := 0) (q := 1) rfl fl110_1 ((hk 1 rfl).trans rfl)) rfl rfl
  ·intro ρz wz hz hk hd
   exact sk_val (v := (pt G1 1)) (xr_fieldAddr (p := 1) (q := 0) rfl fl108_0 (hd 18 rfl 23 rfl)) rfl rfl
  ·intro ρz wz hz hk hd
   exact sk_val (v := (pt G1 3)) (xr_fieldAddr (p := 1) (q := 2) rfl fl106_2 (hd 19 rfl 24 rfl)) rfl rfl
  ·intro ρz wz hz hk hd
   exact sk_val (v := .int .i64 a0.Tickets.Geometry.Gens) (xr_load1 (v := .int .i64 a0.Tickets.Geometry.Gens) rfl ag3 (hd 20 rfl 25 rfl) ((b2.gr hz).seg 3 rfl rfl)) rfl rfl
  ·intro ρz wz hz hk hd
   exact sk_val (v := .int .u64 (IntKind.u64.wrap a0.Tickets.Geometry.Gens)) (xr_conv rfl Try.underlying3 Try.underlying22 (hd 21 rfl 26 rfl)) rfl rfl
  ·intro ρz wz hz hk hd
   refine sk_op (opv_call rfl cal117 (ac (hd 22 rfl 27 rfl) (ac rfl an)) (rickyardref01_Lay.ok fu _ (IntKind.u64.wrap a0.Tickets.Geometry.Gens) 4 _ k19)) rfl ?_
   rintro _ wy ⟨rfl, q20⟩
   exact ⟨rfl, q20⟩
  ·intro ρz wz hz hk hd
   exact sk_val (v := sv (((t7 ++ t10) ++ t14) ++ t18)) (xr_addStr rfl (hd 17 rfl 22 rfl) (hd 23 rfl 28 rfl) g21) rfl rfl
  ·intro ρz wz hz hk hd
   exact sk_val (v := (pt G1 1)) (xr_fieldAddr (p := 0) (q := 1) rfl fl110_1 ((hk 1 rfl).trans rfl)) rfl rfl
  ·intro ρz wz hz hk hd
   exact sk_val (v := (pt G1 5)) (xr_fieldAddr (p := 1) (q := 4) rfl fl108_2 (hd 25 rfl 30 rfl)) rfl rfl
  ·intro ρz wz hz hk hd
   exact sk_val (v := .int .i64 a0.Tickets.High) (xr_load1 (v := .int .i64 a0.Tickets.High) rfl ag3 (hd 26 rfl 31 rfl) ((b2.gr hz).seg 5 rfl rfl)) rfl rfl
  ·intro ρz wz hz hk hd
   exact sk_val (v := .int .u64 (IntKind.u64.wrap a0.Tickets.High)) (xr_conv rfl Try.underlying3 Try.underlying22 (hd 27 rfl 32 rfl)) rfl rfl
  ·intro ρz wz hz hk hd
   refine sk_op (opv_call rfl cal117 (ac (hd 28 rfl 33 rfl) (ac rfl an)) (rickyardref01_Lay.ok fu _ (IntKind.u64.wrap a0.Tickets.High) 4 _ k23)) rfl ?_
   rintro _ wy ⟨rfl, q24⟩
   exact ⟨rfl, q24⟩
  ·intro ρz wz hz hk hd
   exact sk_val (v := sv ((((t7 ++ t10) ++ t14) ++ t18) ++ t22)) (xr_addStr rfl (hd 24 rfl 29 rfl) (hd 29 rfl 34 rfl) g25) rfl rfl
  ·intro ρz wz hz hk hd
   exact sk_val (v := (pt G1 1)) (xr_fieldAddr (p := 0) (q := 1) rfl fl110_1 ((hk 1 rfl).trans rfl)) rfl rfl
  ·intro ρz wz hz hk hd
   exact sk_val (v := (pt G1 6)) (xr_fieldAddr (p := 1) (q := 5) rfl fl108_3 (hd 31 rfl 36 rfl)) rfl rfl
  ·intro ρz wz hz hk hd
   exact sk_val (v := .int .i64 a0.Tickets.Free) (xr_load1 (v := .int .i64 a0.Tickets.Free) rfl ag3 (hd 32 rfl 37 rfl) ((b2.gr hz).seg 6 rfl rfl)) rfl rfl
  ·intro ρz wz hz hk hd
   exact sk_val (v := .int .u64 (IntKind.u64.wrap a0.Tickets.Free)) (xr_conv rfl Try.underlying3 Try.underlying22 (hd 33 rfl 38 rfl)) rfl rfl
  intro ρz wz hz hk hd
  refine sk_op (opv_call rfl cal117 (ac (hd 34 rfl 39 rfl) (ac rfl an)) (rickyardref01_Lay.ok fu _ (IntKind.u64.wrap a0.Tickets.Free) 4 _ k27)) rfl ?_
  rintro _ wy ⟨rfl, q28⟩
  exact ⟨rfl, q28⟩
 intro ρ29 w30 q31 hk hd
 have e1 := (hk 1 rfl).trans rfl
 have e35 := hd 30 rfl 35 rfl
 have e40 := hd 35 rfl 40 rfl
 have b2 := b2.gr q31
 have fB := fB.gr q31
 obtain ⟨g32, h⟩ := gs h
 refine ol_val (v := sv (((((t7 ++ t10) ++ t14) ++ t18) ++ t22) ++ t26)) (xr_addStr rfl e35 e40 g32) rfl rfl rfl ?_
 refine ol_val (v := sv (((((t7 ++ t10) ++ t14) ++ t18) ++ t22) ++ t26)) (xr_assign rfl rfl) rfl rfl rfl ?_
 refine ol_nil ?_
 refine cw_seq ?_
 obtain ⟨t33, k34, h⟩ := bs h
 obtain ⟨g36, h⟩ := gs h
 obtain ⟨t37, k38, h⟩ := bs h
 refine cw_drawL 11 [fun vz wz => vz = (sv (((((t7 ++ t10) ++ t14) ++ t18) ++ t22) ++ t26) : Value), fun vz wz => vz = ((pt G1 1) : Value), fun vz wz => vz = ((pt G1 4) : Value), fun vz wz => vz = (.int .i64 a0.Tickets.Top : Value), fun vz wz => vz = (.int .u64 (IntKind.u64.wrap a0.Tickets.Top) : Value), fun vz wz => vz = (sv t33 : Value), fun vz wz => vz = (sv ((((((t7 ++ t10) ++ t14) ++ t18) ++ t22) ++ t26) ++ t33) : Value), fun vz wz => vz = ((pt G1 7) : Value), fun vz wz => vz = (.int .i64 a0.Dir : Value), fun vz wz => vz = (.int .u64 (IntKind.u64.wrap a0.Dir) : Value), fun vz wz => vz = (sv t37 : Value)] mo rfl ⟨fun _ _ _ h _ => h, fun _ _ _ h _ => h, fun _ _ _ h _ => h, fun _ _ _ h _ => h, fun _ _ _ h _ => h, fun _ _ _ h _ => h, fun _ _ _ h _ => h, fun _ _ _ h _ => h, fun _ _ _ h _ => h, fun _ _ _ h _ => h, fun _ _ _ h _ => h, trivial⟩ ?_ ?_
 ·refine ⟨?_, ?_, ?_, ?_, ?_, ?_, ?_, ?_, ?_, ?_, ?_, trivial⟩
  ·intro ρz wz hz hk hd
   exact sk_val (v := sv (((((t7 ++ t10) ++ t14) ++ t18) ++ t22) ++ t26)) (xr_move rfl ((hk 3 rfl).trans rfl)) rfl rfl
  ·intro ρz wz hz hk hd
   exact sk_val (v := (pt G1 1)) (xr_fieldAddr (p := 0) (q := 1) rfl fl110_1 ((hk 1 rfl).trans e1)) rfl rfl
  ·intro ρz wz hz hk hd
   exact sk_val (v := (pt G1 4)) (xr_fieldAddr (p := 1) (q := 3) rfl fl108_1 (hd 1 rfl 43 rfl)) rfl rfl
  ·intro ρz wz hz hk hd
   exact sk_val (v := .int .i64 a0.Tickets.Top) (xr_load1 (v := .int .i64 a0.Tickets.Top) rfl ag3 (hd 2 rfl 44 rfl) ((b2.gr hz).seg 4 rfl rfl)) rfl rfl
  ·intro ρz wz hz hk hd
   exact sk_val (v := .int .u64 (IntKind.u64.wrap a0.Tickets.Top)) (xr_conv rfl Try.underlying3 Try.underlying22 (hd 3 rfl 45 rfl)) rfl rfl
  ·intro ρz wz hz hk hd
   refine sk_op (opv_call rfl cal117 (ac (hd 4 rfl 46 rfl) (ac rfl an)) (rickyardref01_Lay.ok fu _ (IntKind.u64.wrap a0.Tickets.Top) 2 _ k34)) rfl ?_
   rintro _ wy ⟨rfl, q35⟩
   exact ⟨rfl, q35⟩
  ·intro ρz wz hz hk hd
   exact sk_val (v := sv ((((((t7 ++ t10) ++ t14) ++ t18) ++ t22) ++ t26) ++ t33)) (xr_addStr rfl (hd 0 rfl 42 rfl) (hd 5 rfl 47 rfl) g36) rfl rfl
  ·intro ρz wz hz hk hd
   exact sk_val (v := (pt G1 7)) (xr_fieldAddr (p := 0) (q := 7) rfl fl110_2 ((hk 1 rfl).trans e1)) rfl rfl
  ·intro ρz wz hz hk hd
   exact sk_val (v := .int .i64 a0.Dir) (xr_load1 (v := .int .i64 a0.Dir) rfl ag3 (hd 7 rfl 49 rfl) ((b2.gr hz).seg 7 rfl rfl)) rfl rfl
  ·intro ρz wz hz hk hd
   exact sk_val (v := .int .u64 (IntKind.u64.wrap a0.Dir)) (xr_conv rfl Try.underlying3 Try.underlying22 (hd 8 rfl 50 rfl)) rfl rfl
  intro ρz wz hz hk hd
  refine sk_op (opv_call rfl cal117 (ac (hd 9 rfl 51 rfl) (ac rfl an)) (rickyardref01_Lay.ok fu _ (IntKind.u64.wrap a0.Dir) 2 _ k38)) rfl ?_
  rintro _ wy ⟨rfl, q39⟩
  exact ⟨rfl, q39⟩
 intro ρ40 w41 q42 hk hd
 have e1 := (hk 1 rfl).trans e1
 have e48 := hd 6 rfl 48 rfl
 have e52 := hd 10 rfl 52 rfl
 have b2 := b2.gr q42
 have fB := fB.gr q42
 obtain ⟨g43, h⟩ := gs h
 refine ol_val (v := sv (((((((t7 ++ t10) ++ t14) ++ t18) ++ t22) ++ t26) ++ t33) ++ t37)) (xr_addStr rfl e48 e52 g43) rfl rfl rfl ?_
 refine ol_val (v := sv (((((((t7 ++ t10) ++ t14) ++ t18) ++ t22) ++ t26) ++ t33) ++ t37)) (xr_assign rfl rfl) rfl rfl rfl ?_
 refine ol_nil ?_
 refine cw_seq ?_
 refine cw_seq ?_
 refine cw_region ?_
 refine ol_val (v := .int .i64 0) (xr_assign rfl rfl) rfl rfl rfl ?_
 refine ol_nil ?_
 obtain ⟨e45, l46, h47⟩ := bs h
 refine cw_mid (fun ρ' w' => ρ' 1 = (pt G1 0) ∧ ρ' 3 = sv e45 ∧ Blk w' G1 110 [(sI a0.Epoch), (sI a0.Tickets.Geometry.Blocks), (sI a0.Tickets.Geometry.Slots), (sI a0.Tickets.Geometry.Gens), (sI a0.Tickets.Top), (sI a0.Tickets.High), (sI a0.Tickets.Free), (sI a0.Dir), Seg.cell V0_0 R0_0.one] ∧ Gr w w') ?_ ?_
 ·refine cw_block ?_
  refine cw_round (fun (s44 : (List UInt8) × Int) ρ' w' => ρ' 1 = (pt G1 0) ∧ ρ' 3 = sv s44.1 ∧ ρ' 4 = .int .i64 s44.2 ∧ Blk w' G1 110 [(sI a0.Epoch), (sI a0.Tickets.Geometry.Blocks), (sI a0.Tickets.Geometry.Slots), (sI a0.Tickets.Geometry.Gens), (sI a0.Tickets.Top), (sI a0.Tickets.High), (sI a0.Tickets.Free), (sI a0.Dir), Seg.cell V0_0 R0_0.one] ∧ Gr w w') l46 ?_ ?_
  ·skip
   exact ⟨e1, rfl, rfl, b2, fB⟩
  rintro s44 x50 ρ48 w49 ⟨e1, e3, e4, b2, fB⟩ h
  unfold rickyardref13_Put.s0 at h
  refine cw_seq ?_
  refine cw_seq ?_
  refine cw_region ?_
  refine ol_val (v := .int .i64 s44.2) (xr_move rfl e4) rfl rfl rfl ?_
  refine ol_val (v := (pt G1 8)) (xr_fieldAddr (p := 0) (q := 8) rfl fl110_3 e1) rfl rfl rfl ?_
  refine ol_val (v := V0_0) (xr_load1 (v := V0_0) rfl ag25 rfl (b2.seg 8 rfl rfl)) rfl rfl rfl ?_
  refine ol_val (v := .int .i64 (List.length a0.Charts : Int)) (xr_lenR rfl Try.underlying25 rfl (R0_0.gr fB)) rfl rfl rfl ?_
  refine ol_val (v := .bool (decide (s44.2 < (List.length a0.Charts : Int)))) (xr_lss rfl rfl rfl) rfl rfl rfl ?_
  refine ol_nil ?_
  rcases is h with ⟨c51, h⟩ | ⟨c51, h⟩
  ·refine cw_condT rfl c51 ?_
   refine cw_skip ?_
   refine cw_seq ?_
   refine cw_block ?_
   refine cw_region ?_
   refine ol_val (v := sv s44.1) (xr_move rfl e3) rfl rfl rfl ?_
   refine ol_val (v := (pt G1 8)) (xr_fieldAddr (p := 0) (q := 8) rfl fl110_3 e1) rfl rfl rfl ?_
   refine ol_val (v := V0_0) (xr_load1 (v := V0_0) rfl ag25 rfl (b2.seg 8 rfl rfl)) rfl rfl rfl ?_
   refine ol_val (v := .int .i64 s44.2) (xr_move rfl e4) rfl rfl rfl ?_
   obtain ⟨g52, h⟩ := gs h
   refine ol_val (v := (pt ((sb V0_0)) (so V0_0 + Int.toNat s44.2 * 1))) (xr_indexR (K := (kI .i64)) (v := V0_0) rfl Try.underlying25 sz3 rfl (R0_0.gr fB) rfl g52.1 g52.2) rfl rfl rfl ?_
   refine ol_val (v := .int .i64 (ix a0.Charts s44.2)) (xr_load1 (v := .int .i64 (ix a0.Charts s44.2)) rfl ag3 rfl ((R0_0.gr fB).elem g52.1 g52.2)) rfl rfl rfl ?_
   refine ol_val (v := .int .u64 (IntKind.u64.wrap (ix a0.Charts s44.2))) (xr_conv rfl Try.underlying3 Try.underlying22 rfl) rfl rfl rfl ?_
   obtain ⟨t53, k54, h⟩ := bs h
   refine ol_op (opv_call rfl cal117 (ac rfl (ac rfl an)) (rickyardref01_Lay.ok fu _ (IntKind.u64.wrap (ix a0.Charts s44.2)) 2 _ k54)) rfl rfl rfl ?_
   rintro _ w56 ⟨rfl, q55⟩
   have b2 := b2.gr q55
   have fB := fB.gr q55
   obtain ⟨g57, h⟩ := gs h
   refine ol_val (v := sv (s44.1 ++ t53)) (xr_addStr rfl rfl rfl g57) rfl rfl rfl ?_
   refine ol_val (v := sv (s44.1 ++ t53)) (xr_assign rfl rfl) rfl rfl rfl ?_
   refine ol_nil ?_
   refine blk_i ?_
   refine cw_region ?_
   refine ol_val (v := .int .i64 s44.2) (xr_move rfl e4) rfl rfl rfl ?_
   refine ol_val (v := .int .i64 (IntKind.i64.wrap (s44.2 + 1))) (xr_add rfl rfl rfl) rfl rfl rfl ?_
   refine ol_val (v := .int .i64 (IntKind.i64.wrap (s44.2 + 1))) (xr_assign rfl rfl) rfl rfl rfl ?_
   refine ol_nil ?_
   obtain rfl := Option.some.inj h
   refine lp_in ?_
   exact ⟨e1, rfl, rfl, b2, fB⟩
  refine cw_condF rfl c51 ?_
  refine cw_exit ?_
  repeat (first | with_reducible refine thn_e ?_ | with_reducible refine blk_e rfl ?_)
  obtain rfl := Option.some.inj h
  refine lp_exit ?_
  rintro rfl
  refine thn_x ?_
  exact ⟨e1, e3, b2, fB⟩
 rintro ρ58 w59 ⟨e1, e3, b2, fB⟩
 have h := h47
 refine cw_seq ?_
 refine cw_region ?_
 refine ol_val (v := (pt G1 8)) (xr_fieldAddr (p := 0) (q := 8) rfl fl110_3 e1) rfl rfl rfl ?_
 refine ol_val (v := V0_0) (xr_load1 (v := V0_0) rfl ag25 rfl (b2.seg 8 rfl rfl)) rfl rfl rfl ?_
 refine ol_val (v := .int .i64 (List.length a0.Charts : Int)) (xr_lenR rfl Try.underlying25 rfl (R0_0.gr fB)) rfl rfl rfl ?_
 refine ol_val (v := sv e45) (xr_move rfl e3) rfl rfl rfl ?_
 obtain ⟨t60, k61, h⟩ := bs h
 refine ol_op (opv_call rfl cal118 (ac rfl (ac rfl (ac rfl an))) (rickyardref07_Seal.ok fu _ 7 (List.length a0.Charts : Int) e45 _ k61)) rfl rfl rfl ?_
 rintro _ w63 ⟨rfl, q62⟩
 have fB := fB.gr q62
 refine ol_val (v := sv t60) (xr_assign rfl rfl) rfl rfl rfl ?_
 refine ol_nil ?_
 refine cw_ret ?_
 repeat (first | with_reducible refine thn_r ?_ | with_reducible refine blk_r ?_)
 obtain rfl := Option.some.inj h
 refine fin_ret1 Try.results76 rfl ?_
 exact ⟨_, rfl, rfl, fB⟩
end Go.Proofs.Ytklhbaghbmndeaa
namespace Go.Xw
open Go
def OwnC (E : TypeId) (w : World) (B : Nat) (v : Value) (L : List Int) : Prop :=
  ∃ g cap cur fz, v = .slice (some ⟨g, 0, none⟩) L.length cap ∧ B ≤ g ∧ w.heap[g]? = some (.cells cur E fz) ∧ L.length ≤ cap ∧ L.length ≤ cur.size ∧ cur.size ≤ fz.1 ∧ cur.toList.take L.length = L.map (fun n => Value.int .u8 n)
section
variable {P : Program} {ρ : Env} {w : World} {o : Oper} {x y : Operand} {T T' E : TypeId} {B : Nat} {v : Value} {L : List Int}
theorem OwnC.fr {S : Nat → Prop} {w' : World} (h : OwnC E w B v L) (hf : Fr S w w') (hs : ∀ k, v.ownBlock = some k → ¬ S k) : OwnC E w' B v L := by
  obtain ⟨g, cap, cur, fz, rfl, hb, hg, r⟩ := h
  have hlt : g < w.heap.size := (Array.getElem?_eq_some_iff.1 hg).1
  exact ⟨g, cap, cur, fz, rfl, hb, by rw [hf.blk g hlt (hs g rfl)]; exact hg, r⟩
theorem OwnC.gr {w' : World} (h : OwnC E w B v L) (hf : Gr w w') : OwnC E w' B v L := h.fr hf (fun _ _ x => x)
theorem OwnC.geO (h : OwnC E w B v L) : ∀ k, v.ownBlock = some k → B ≤ k := by
  obtain ⟨g, cap, cur, fz, rfl, hb, r⟩ := h
  intro k hk
  obtain rfl : g = k := by simpa [Value.ownBlock] using hk
  exact hb
theorem OwnC.rd (h : OwnC E w B v L) : Rd (kI .u8) w v L := by
  obtain ⟨g, cap, cur, fz, rfl, hb, hg, hc, hs, hz, ht⟩ := h
  refine ⟨_, cap, rfl, hc, fun _ => ⟨g, 0, rfl, fun j u hu => ?_⟩⟩
  rw [flat_kI] at hu
  have hj : j < L.length := by
    have := (List.getElem?_eq_some_iff.1 hu).1
    simpa using this
  rw [Nat.zero_add, cell_of_row w g j cur E _ hg]
  have : (cur.toList.take L.length)[j]? = some u := by
    rw [ht]
    exact hu
  rw [List.getElem?_take, if_pos hj] at this
  simpa using this
theorem OwnC.one (h : OwnC E w B v L) : v.oneCell' = true := h.rd.one
theorem OwnC.lt (h : OwnC E w B v L) : ∀ k, v.ownBlock = some k → k < w.heap.size := by
  obtain ⟨g, cap, cur, fz, rfl, hb, hg, r⟩ := h
  intro k hk
  obtain rfl : g = k := by simpa [Value.ownBlock] using hk
  exact (Array.getElem?_eq_some_iff.1 hg).1
theorem off_tyC {g : Nat} {T : TypeId} {ss : List Seg} (hb : Blk w g T ss) (h : OwnC E w B v L) (hne : T ≠ E) : Off v g := by
  intro e
  obtain ⟨g', cap, cur, fz, rfl, _, hg, _⟩ := h
  obtain rfl : g' = g := by simpa [Value.ownBlock] using e
  unfold Blk at hb
  rw [hb] at hg
  injection hg with hg
  injection hg with _ ht
  exact hne ht
theorem opv_toBytesO {s : List UInt8} {B : Nat} (ho : o.op = .convert T T' x) (hs : P.underlying T = some .string) (hd : P.underlying T' = some (.slice E)) (he : P.underlying E = some (.int .u8)) (hx : evO ρ x = sv s) (hB : B ≤ w.heap.size) :
    OpV P o ρ w (fun v w' => OwnC E w' B v (s.map ofB) ∧ Gr w w' ∧ ∀ k, v.ownBlock = some k → w.heap.size ≤ k) := by
  have hrun := run_bytes_of_string (P := P) w T T' E ⟨s.toArray⟩ hs hd he
  rw [size_mk] at hrun
  refine opv_val (w' := _) (by simp only [execOp, ho, hx, sv]; rw [Sem.run_bind, hrun]; rfl) ⟨⟨w.heap.size, grownCap w s.length 0 E, _, _, by rw [List.length_map], hB, heap_alloc_new w.drew _, ?_, ?_, Nat.le_refl _, ?_⟩, ?_, ?_⟩
  · rw [List.length_map]
    exact grownCap_ge w s.length 0 E
  · simp only [bytesRow]
    simp
  · simp only [bytesRow]
    simp only [Array.toList_append, List.length_map]
    rw [List.take_left' (by simp)]
    simp [ofB, List.map_map, Function.comp_def]
  · exact ⟨rfl, rfl, rfl, by simp, fun k hk _ => heap_alloc_old w.drew _ hk⟩
  · intro k hk
    have : w.heap.size = k := by simpa [Value.ownBlock] using hk
    omega
theorem opv_storeC {q : Nat} {z i : Int} (ho : o.op = .store T' x y) (hsz : szB P T' = some 1) (hx : evO ρ x = .pointer (some ⟨sb v, q, none⟩)) (hy : evO ρ y = .int .u8 z)
    (h : OwnC E w B v L) (h0 : 0 ≤ i) (h1 : i < (L.length : Int)) (hq : q = so v + (i.toNat * 1 + 0)) :
    OpV P o ρ w (fun _ w' => OwnC E w' B v (L.set i.toNat z) ∧ Fr (fun j => some j = v.ownBlock) w w') := by
  unfold szB at hsz
  obtain ⟨inf, hinf, he⟩ := Option.map_eq_some_iff.1 hsz
  obtain ⟨g, cap, cur, fz, rfl, hb, hg, hc, hs, hz, ht⟩ := h
  have hi : i.toNat < cur.size := by omega
  have hq' : q = i.toNat := by
    rw [hq]
    show 0 + (i.toNat * 1 + 0) = i.toNat
    omega
  subst hq'
  have hcell : w.cell? ⟨g, i.toNat, none⟩ = some cur[i.toNat] := by simp [World.cell?, hg, hi]
  have hfro : w.frozen? ⟨g, i.toNat, none⟩ = false := by
    obtain ⟨lo, hi'⟩ := fz
    simp only [World.frozen?, hg, Bool.and_eq_false_iff, decide_eq_false_iff_not]
    left
    simp only at hz
    omega
  have hst : (store (⟨g, i.toNat, none⟩ : Addr) (.int .u8 z)).run P w = .ok () (w.setRow g (cur.setIfInBounds i.toNat (.int .u8 z))) := by
    rw [run_store P w _ _ _ rfl, hcell]
    simp [hfro, setCell_eq_setRow w g i.toNat cur E fz _ hg]
  have hadd : ((⟨g, i.toNat, none⟩ : Addr).add 0) = ⟨g, i.toNat, none⟩ := by unfold Addr.add; simp
  refine opv_skip (w' := w.setRow g (cur.setIfInBounds i.toNat (.int .u8 z))) ?_ ⟨⟨g, cap, cur.setIfInBounds i.toNat (.int .u8 z), fz, by rw [List.length_set], hb, setRow_heap w g cur _ E _ hg, by simpa using hc, by simpa using hs, by simpa using hz, ?_⟩, (Fr.setRow g _).mono fun j hj => by rw [hj]; rfl⟩
  · have hx' : evO ρ x = .pointer (some ⟨g, i.toNat, none⟩) := hx
    simp [execOp, ho, hx', hy, Instr.storeAt, Instr.sureAddr, storeVar, sizeOf, typeInfo, hinf, he, Value.cells, storeCells, hadd, hst]
  · rw [Array.toList_setIfInBounds, List.length_set, List.take_set, ht, List.map_set]
end
end Go.Xw
namespace Go.Proofs.Ytklhbaghbmndeaa
open Go Go.Xw
def rickyardlaw16_RootOctet.s0 (fu : Nat) (a0 : Arr 2 S_api_Super) : Int → Option (Sum (Sum Bool Unit) Int) := fun s22 => (if (decide (s22 < 2)) = true then (((if 0 ≤ s22 ∧ s22 < 2 then (if (decide ((List.length ((Arr.get a0 s22).Charts) : Int) > 60)) = true then some (true) else (if 0 ≤ s22 ∧ s22 < 2 then ((rickyardref13_Right.f fu (⟨(Arr.get a0 s22).Epoch, (⟨(((Arr.get a0 s22).Tickets).Geometry), ((Arr.get a0 s22).Tickets).Top, ((Arr.get a0 s22).Tickets).High, ((Arr.get a0 s22).Tickets).Free⟩ : S_api_Tickets), (Arr.get a0 s22).Dir, (Arr.get a0 s22).Charts⟩ : S_api_Super)).bind fun t36 => some ((!t36))) else none)) else none) : Option Bool).bind fun x31 => (if x31 = true then some (Sum.inl (Sum.inl (true))) else some (Sum.inr ((IntKind.i64.wrap (s22 + 1)))))) else some (Sum.inl (Sum.inr ())))
def rickyardlaw16_RootOctet.f (fu : Nat) (a0 : Arr 2 S_api_Super) (a1 : Int) (a2 : Int) : Option Bool := ((((rickyardlaw16_awake.f fu).bind fun t9 => (if (!t9) = true then some (true) else some ((decide (a2 = 0))))) : Option Bool).bind fun x7 => (if x7 = true then ((rickyardlaw16_awake.f fu).bind fun t18 => some (t18)) else ((loopM (rickyardlaw16_RootOctet.s0 fu a0) fu (0)).bind fun e23 => match e23 with | Sum.inl p => some p | Sum.inr x26 => ((rickyardref13_Put.f fu (⟨(Arr.get a0 0).Epoch, (⟨(((Arr.get a0 0).Tickets).Geometry), ((Arr.get a0 0).Tickets).Top, ((Arr.get a0 0).Tickets).High, ((Arr.get a0 0).Tickets).Free⟩ : S_api_Tickets), (Arr.get a0 0).Dir, (Arr.get a0 0).Charts⟩ : S_api_Super)).bind fun t46 => ((rickyardref13_Put.f fu (⟨(Arr.get a0 1).Epoch, (⟨(((Arr.get a0 1).Tickets).Geometry), ((Arr.get a0 1).Tickets).Top, ((Arr.get a0 1).Tickets).High, ((Arr.get a0 1).Tickets).Free⟩ : S_api_Tickets), (Arr.get a0 1).Dir, (Arr.get a0 1).Charts⟩ : S_api_Super)).bind fun t52 => (if List.length t46 + List.length t52 ≤ LIM then (if 0 ≤ (Int.tmod (IntKind.i64.wrap a1) 128) ∧ (Int.tmod (IntKind.i64.wrap a1) 128) < (List.length (List.map ofB (t46 ++ t52)) : Int) then (if 0 ≤ (Int.tmod (IntKind.i64.wrap a1) 128) ∧ (Int.tmod (IntKind.i64.wrap a1) 128) < (List.length (List.map ofB (t46 ++ t52)) : Int) then ((pmem_From.f fu (List.set (List.map ofB (t46 ++ t52)) (Int.toNat (Int.tmod (IntKind.i64.wrap a1) 128)) (bXor .u8 (ix (List.map ofB (t46 ++ t52)) (Int.tmod (IntKind.i64.wrap a1) 128)) a2))).bind fun t69 => ((root_Pick.f fu t69).bind fun t86 => (((if t86.2.2 = true then (if (decide (t86.2.1 = (IntKind.i64.wrap (1 - (IntKind.i64.wrap (Int.tdiv (Int.tmod (IntKind.i64.wrap a1) 128) 64)))))) = true then (if 0 ≤ t86.2.1 ∧ t86.2.1 < 2 then ((rickyardref13_Same.f fu t86.1 (⟨(Arr.get a0 t86.2.1).Epoch, (⟨(((Arr.get a0 t86.2.1).Tickets).Geometry), ((Arr.get a0 t86.2.1).Tickets).Top, ((Arr.get a0 t86.2.1).Tickets).High, ((Arr.get a0 t86.2.1).Tickets).Free⟩ : S_api_Tickets), (Arr.get a0 t86.2.1).Dir, (Arr.get a0 t86.2.1).Charts⟩ : S_api_Super)).bind fun t116 => some (t116)) else none) else some (false)) else some (false)) : Option Bool).bind fun x103 => some (x103)))) else none) else none) else none))))))
theorem rickyardlaw16_RootOctet.ok (fu : Nat) (w : World) (a0 : Arr 2 S_api_Super) (C_0 : List Value) (E_0 : AtN 2 9 D_api_Super w C_0 a0) (a1 : Int) (a2 : Int) (r : Bool) (h : rickyardlaw16_RootOctet.f fu a0 a1 a2 = some r) :
  Calls Try.prog 19 (([aggV [AtN.seg E_0], .int .u8 a1, .int .u8 a2] : List Value).toArray) w (fun e w' => ∃ v, e = .returned v ∧ v = .bool r ∧ Gr w w') := by
 unfold rickyardlaw16_RootOctet.f at h
 have fB : Gr w w := Fr.refl _ _
 refine calls_cw Try.func19 rfl Try.ntmps19 rfl ?_
 refine cw_seq ?_
 refine cw_region ?_
 refine ol_op (opv_box (ss := [AtN.seg E_0]) rfl rfl rfl) rfl rfl rfl ?_
 rintro _ w6 ⟨G1, rfl, b2, q3, z4⟩
 have z4 := Nat.le_trans fB.size z4
 have fB := fB.gr q3
 refine ol_val (v := .bool false) (xr_assign rfl rfl) rfl rfl rfl ?_
 refine ol_nil ?_
 refine cw_seq ?_
 refine cw_seq ?_
 obtain ⟨x7, j8, h⟩ := bs h
 refine cw_mid (fun ρ' w' => ρ' 1 = .int .u8 a1 ∧ ρ' 2 = .int .u8 a2 ∧ ρ' 3 = (pt G1 0) ∧ ρ' 19 = .bool x7 ∧ Gr w6 w') ?_ ?_
 ·skip
  refine cw_region ?_
  obtain ⟨t9, k10, j8⟩ := bs j8
  refine ol_op (opv_call rfl cal69 an (rickyardlaw16_awake.ok fu _ _ k10)) rfl rfl rfl ?_
  rintro _ w12 ⟨rfl, q11⟩
  have b2 := b2.gr q11
  have fB := fB.gr q11
  refine ol_val (v := .bool (!t9)) (xr_not rfl rfl) rfl rfl rfl ?_
  refine ol_val (v := .bool (!t9)) (xr_move rfl rfl) rfl rfl rfl ?_
  rcases is j8 with ⟨c13, j8⟩ | ⟨c13, j8⟩
  ·skip
   refine ol_gskip rfl rfl rfl rfl rfl c13 ?_
   refine ol_gskip rfl rfl rfl rfl rfl c13 ?_
   refine ol_val (v := .bool true) (xr_pickT rfl rfl c13 rfl) rfl rfl rfl ?_
   refine ol_nil ?_
   obtain rfl := Option.some.inj j8
   refine thn_i ?_
   exact ⟨rfl, rfl, rfl, rfl, q11⟩
  refine ol_gval (v := .int .u8 a2) (xr_move rfl rfl) rfl rfl rfl rfl rfl c13 ?_
  refine ol_gval (v := .bool (decide (a2 = 0))) (xr_eqI rfl Try.underlying5 rfl rfl rfl) rfl rfl rfl rfl rfl c13 ?_
  refine ol_val (v := .bool (decide (a2 = 0))) (xr_pickF rfl rfl c13 rfl) rfl rfl rfl ?_
  refine ol_nil ?_
  obtain rfl := Option.some.inj j8
  refine thn_i ?_
  exact ⟨rfl, rfl, rfl, rfl, q11⟩
 rintro ρ14 w15 ⟨e1, e2, e3, e19, q16⟩
 have b2 := b2.gr q16
 have fB := fB.gr q16
 rcases is h with ⟨c17, h⟩ | ⟨c17, h⟩
 ·refine cw_condT e19 c17 ?_
  refine cw_seq ?_
  refine cw_region ?_
  obtain ⟨t18, k19, h⟩ := bs h
  refine ol_op (opv_call rfl cal69 an (rickyardlaw16_awake.ok fu _ _ k19)) rfl rfl rfl ?_
  rintro _ w21 ⟨rfl, q20⟩
  have fB := fB.gr q20
  refine ol_val (v := .bool t18) (xr_assign rfl rfl) rfl rfl rfl ?_
  refine ol_nil ?_
  refine cw_ret ?_
  repeat (first | with_reducible refine thn_r ?_ | with_reducible refine blk_r ?_)
  obtain rfl := Option.some.inj h
  refine fin_ret1 Try.results19 rfl ?_
  exact ⟨_, rfl, rfl, fB⟩
 refine cw_condF e19 c17 ?_
 refine cw_skip ?_
 refine cw_seq ?_
 refine cw_seq ?_
 refine cw_region ?_
 refine ol_val (v := .int .i64 0) (xr_assign rfl rfl) rfl rfl rfl ?_
 refine ol_nil ?_
 obtain ⟨e23, l24, h25⟩ := bs h
 refine cw_mid (fun ρ' w' => ∃ x26, e23 = Sum.inr x26 ∧ ρ' 1 = .int .u8 a1 ∧ ρ' 2 = .int .u8 a2 ∧ ρ' 3 = (pt G1 0) ∧ Blk w' G1 119 [AtN.seg E_0] ∧ Gr w w') ?_ ?_
 ·refine cw_block ?_
  refine cw_round (fun (s22 : Int) ρ' w' => ρ' 1 = .int .u8 a1 ∧ ρ' 2 = .int .u8 a2 ∧ ρ' 3 = (pt G1 0) ∧ ρ' 7 = .int .i64 s22 ∧ Blk w' G1 119 [AtN.seg E_0] ∧ Gr w w') l24 ?_ ?_
  ·skip
   exact ⟨e1, e2, e3, rfl, b2, fB⟩
  rintro s22 x29 ρ27 w28 ⟨e1, e2, e3, e7, b2, fB⟩ h
  unfold rickyardlaw16_RootOctet.s0 at h
  refine cw_seq ?_
  refine cw_seq ?_
  refine cw_region ?_
  refine ol_val (v := .int .i64 s22) (xr_move rfl e7) rfl rfl rfl ?_
  refine ol_val (v := .bool (decide (s22 < 2))) (xr_lss rfl rfl rfl) rfl rfl rfl ?_
  refine ol_nil ?_
  rcases is h with ⟨c30, h⟩ | ⟨c30, h⟩
  ·refine cw_condT rfl c30 ?_
   refine cw_skip ?_
   refine cw_seq ?_
   refine cw_block ?_
   refine cw_seq ?_
   obtain ⟨x31, j32, h⟩ := bs h
   refine cw_mid (fun ρ' w' => ρ' 1 = .int .u8 a1 ∧ ρ' 2 = .int .u8 a2 ∧ ρ' 3 = (pt G1 0) ∧ ρ' 7 = .int .i64 s22 ∧ ρ' 37 = .bool x31 ∧ Gr w28 w') ?_ ?_
   ·skip
    refine cw_region ?_
    refine ol_val (v := .int .i64 s22) (xr_move rfl e7) rfl rfl rfl ?_
    obtain ⟨g33, j32⟩ := gs j32
    refine ol_val (v := (pt G1 (0 + Int.toNat s22 * 9))) (xr_indexA (p := 0) (s := 9) rfl Try.underlying119 sz110 e3 rfl g33.1 g33.2) rfl rfl rfl ?_
    refine ol_val (v := (pt G1 (0 + Int.toNat s22 * 9 + 8))) (xr_fieldAddr (p := 0 + Int.toNat s22 * 9) (q := 8) rfl fl110_3 rfl) rfl rfl rfl ?_
    refine ol_val (v := nthV C_0 (Int.toNat s22 * 9 + 8)) (xr_load1 (v := nthV C_0 (Int.toNat s22 * 9 + 8)) rfl ag25 rfl (At.segs (ss := [(sI ((Arr.get a0 s22).Epoch)), (sI ((((Arr.get a0 s22).Tickets).Geometry).Blocks)), (sI ((((Arr.get a0 s22).Tickets).Geometry).Slots)), (sI ((((Arr.get a0 s22).Tickets).Geometry).Gens)), (sI (((Arr.get a0 s22).Tickets).Top)), (sI (((Arr.get a0 s22).Tickets).High)), (sI (((Arr.get a0 s22).Tickets).Free)), (sI ((Arr.get a0 s22).Dir)), Seg.cell (nthV C_0 (Int.toNat s22 * 9 + 8)) (M_api_Super (i := s22) E_0 g33.1 g33.2).2.one]) (At.chunk (b2.seg 0 rfl rfl) (M_api_Super (i := s22) E_0 g33.1 g33.2).1) 8 1 rfl)) rfl rfl rfl ?_
    refine ol_val (v := .int .i64 (List.length ((Arr.get a0 s22).Charts) : Int)) (xr_lenR rfl Try.underlying25 rfl ((M_api_Super (i := s22) E_0 g33.1 g33.2).2.gr fB)) rfl rfl rfl ?_
    refine ol_val (v := .bool (decide ((List.length ((Arr.get a0 s22).Charts) : Int) > 60))) (xr_gtr rfl rfl rfl) rfl rfl rfl ?_
    refine ol_val (v := .bool (decide ((List.length ((Arr.get a0 s22).Charts) : Int) > 60))) (xr_move rfl rfl) rfl rfl rfl ?_
    rcases is j32 with ⟨c34, j32⟩ | ⟨c34, j32⟩
    ·skip
     refine ol_gskip rfl rfl rfl rfl rfl c34 ?_
     refine ol_gskip rfl rfl rfl rfl rfl c34 ?_
     refine ol_gskip rfl rfl rfl rfl rfl c34 ?_
     refine ol_gskip rfl rfl rfl rfl rfl c34 ?_
     refine ol_gskip rfl rfl rfl rfl rfl c34 ?_
     refine ol_val (v := .bool true) (xr_pickT rfl rfl c34 rfl) rfl rfl rfl ?_
     refine ol_nil ?_
     obtain rfl := Option.some.inj j32
     refine thn_i ?_
     exact ⟨e1, e2, e3, e7, rfl, Fr.refl _ _⟩
    refine ol_gval (v := .int .i64 s22) (xr_move rfl e7) rfl rfl rfl rfl rfl c34 ?_
    obtain ⟨g35, j32⟩ := gs j32
    refine ol_gval (v := (pt G1 (0 + Int.toNat s22 * 9))) (xr_indexA (p := 0) (s := 9) rfl Try.underlying119 sz110 e3 rfl g35.1 g35.2) rfl rfl rfl rfl rfl c34 ?_
    refine ol_gval (v := aggV [(sI ((Arr.get a0 s22).Epoch)), (sI ((((Arr.get a0 s22).Tickets).Geometry).Blocks)), (sI ((((Arr.get a0 s22).Tickets).Geometry).Slots)), (sI ((((Arr.get a0 s22).Tickets).Geometry).Gens)), (sI (((Arr.get a0 s22).Tickets).Top)), (sI (((Arr.get a0 s22).Tickets).High)), (sI (((Arr.get a0 s22).Tickets).Free)), (sI ((Arr.get a0 s22).Dir)), Seg.cell (nthV C_0 (Int.toNat s22 * 9 + 8)) (M_api_Super (i := s22) E_0 g35.1 g35.2).2.one]) (xr_loadS (ss := [(sI ((Arr.get a0 s22).Epoch)), (sI ((((Arr.get a0 s22).Tickets).Geometry).Blocks)), (sI ((((Arr.get a0 s22).Tickets).Geometry).Slots)), (sI ((((Arr.get a0 s22).Tickets).Geometry).Gens)), (sI (((Arr.get a0 s22).Tickets).Top)), (sI (((Arr.get a0 s22).Tickets).High)), (sI (((Arr.get a0 s22).Tickets).Free)), (sI ((Arr.get a0 s22).Dir)), Seg.cell (nthV C_0 (Int.toNat s22 * 9 + 8)) (M_api_Super (i := s22) E_0 g35.1 g35.2).2.one]) rfl ag110 sz110 rfl rfl (At.chunk (b2.seg 0 rfl rfl) (M_api_Super (i := s22) E_0 g35.1 g35.2).1)) rfl rfl rfl rfl rfl c34 ?_
    obtain ⟨t36, k37, j32⟩ := bs j32
    refine ol_gop (opv_call rfl cal75 (ac rfl an) (rickyardref13_Right.ok fu _ (⟨(Arr.get a0 s22).Epoch, (⟨(((Arr.get a0 s22).Tickets).Geometry), ((Arr.get a0 s22).Tickets).Top, ((Arr.get a0 s22).Tickets).High, ((Arr.get a0 s22).Tickets).Free⟩ : S_api_Tickets), (Arr.get a0 s22).Dir, (Arr.get a0 s22).Charts⟩ : S_api_Super) (nthV C_0 (Int.toNat s22 * 9 + 8)) ((M_api_Super (i := s22) E_0 g35.1 g35.2).2.gr fB) _ k37)) rfl rfl rfl rfl rfl c34 ?_
    rintro _ w39 ⟨rfl, q38⟩
    have b2 := b2.gr q38
    have fB := fB.gr q38
    refine ol_gval (v := .bool (!t36)) (xr_not rfl rfl) rfl rfl rfl rfl rfl c34 ?_
    refine ol_val (v := .bool (!t36)) (xr_pickF rfl rfl c34 rfl) rfl rfl rfl ?_
    refine ol_nil ?_
    obtain rfl := Option.some.inj j32
    refine thn_i ?_
    exact ⟨e1, e2, e3, e7, rfl, q38⟩
   rintro ρ40 w41 ⟨e1, e2, e3, e7, e37, q42⟩
   have b2 := b2.gr q42
   have fB := fB.gr q42
   rcases is h with ⟨c43, h⟩ | ⟨c43, h⟩
   ·refine cw_condT e37 c43 ?_
    refine cw_seq ?_
    refine cw_region ?_
    refine ol_val (v := .bool true) (xr_assign rfl rfl) rfl rfl rfl ?_
    refine ol_nil ?_
    refine cw_ret ?_
    repeat (first | with_reducible refine thn_r ?_ | with_reducible refine blk_r ?_)
    obtain rfl := Option.some.inj h
    refine lp_ret ?_
    rintro rfl
    repeat (first | with_reducible refine thn_r ?_ | with_reducible refine blk_r ?_)
    have h := h25
    obtain rfl := Option.some.inj h
    refine fin_ret1 Try.results19 rfl ?_
    exact ⟨_, rfl, rfl, fB⟩
   refine cw_condF e37 c43 ?_
   refine cw_skip ?_
   refine blk_i ?_
   refine cw_region ?_
   refine ol_val (v := .int .i64 s22) (xr_move rfl e7) rfl rfl rfl ?_
   refine ol_val (v := .int .i64 (IntKind.i64.wrap (s22 + 1))) (xr_add rfl rfl rfl) rfl rfl rfl ?_
   refine ol_val (v := .int .i64 (IntKind.i64.wrap (s22 + 1))) (xr_assign rfl rfl) rfl rfl rfl ?_
   refine ol_nil ?_
   obtain rfl := Option.some.inj h
   refine lp_in ?_
   exact ⟨e1, e2, e3, rfl, b2, fB⟩
  refine cw_condF rfl c30 ?_
  refine cw_exit ?_
  repeat (first | with_reducible refine thn_e ?_ | with_reducible refine blk_e rfl ?_)
  obtain rfl := Option.some.inj h
  refine lp_exit ?_
  rintro rfl
  refine thn_x ?_
  exact ⟨_, rfl, e1, e2, e3, b2, fB⟩
 rintro ρ44 w45 ⟨x26, rfl, e1, e2, e3, b2, fB⟩
 have h := h25
 refine cw_seq ?_
 obtain ⟨t46, k47, h⟩ := bs h
 refine cw_drawL 5 [fun vz wz => vz = ((pt G1 (0 + Int.toNat 0 * 9)) : Value), fun vz wz => vz = (aggV [(sI ((Arr.get a0 0).Epoch)), (sI ((((Arr.get a0 0).Tickets).Geometry).Blocks)), (sI ((((Arr.get a0 0).Tickets).Geometry).Slots)), (sI ((((Arr.get a0 0).Tickets).Geometry).Gens)), (sI (((Arr.get a0 0).Tickets).Top)), (sI (((Arr.get a0 0).Tickets).High)), (sI (((Arr.get a0 0).Tickets).Free)), (sI ((Arr.get a0 0).Dir)), Seg.cell (nthV C_0 (Int.toNat 0 * 9 + 8)) (M_api_Super (i := 0) E_0 (by decide) (by decide)).2.one] : Value), fun vz wz => vz = (sv t46 : Value), fun vz wz => vz = ((pt G1 (0 + Int.toNat 1 * 9)) : Value), fun vz wz => vz = (aggV [(sI ((Arr.get a0 1).Epoch)), (sI ((((Arr.get a0 1).Tickets).Geometry).Blocks)), (sI ((((Arr.get a0 1).Tickets).Geometry).Slots)), (sI ((((Arr.get a0 1).Tickets).Geometry).Gens)), (sI (((Arr.get a0 1).Tickets).Top)), (sI (((Arr.get a0 1).Tickets).High)), (sI (((Arr.get a0 1).Tickets).Free)), (sI ((Arr.get a0 1).Dir)), Seg.cell (nthV C_0 (Int.toNat 1 * 9 + 8)) (M_api_Super (i := 1) E_0 (by decide) (by decide)).2.one] : Value)] mo rfl ⟨fun _ _ _ h _ => h, fun _ _ _ h _ => h, fun _ _ _ h _ => h, fun _ _ _ h _ => h, fun _ _ _ h _ => h, trivial⟩ ?_ ?_
 ·refine ⟨?_, ?_, ?_, ?_, ?_, trivial⟩
  ·intro ρz wz hz hk hd
   exact sk_val (v := (pt G1 (0 + Int.toNat 0 * 9))) (xr_indexA (p := 0) (s := 9) rfl Try.underlying119 sz110 ((hk 3 rfl).trans e3) rfl (by decide) (by decide)) rfl rfl
  ·intro ρz wz hz hk hd
   exact sk_val (xr_loadS (ss := [(sI ((Arr.get a0 0).Epoch)), (sI ((((Arr.get a0 0).Tickets).Geometry).Blocks)), (sI ((((Arr.get a0 0).Tickets).Geometry).Slots)), (sI ((((Arr.get a0 0).Tickets).Geometry).Gens)), (sI (((Arr.get a0 0).Tickets).Top)), (sI (((Arr.get a0 0).Tickets).High)), (sI (((Arr.get a0 0).Tickets).Free)), (sI ((Arr.get a0 0).Dir)), Seg.cell (nthV C_0 (Int.toNat 0 * 9 + 8)) (M_api_Super (i := 0) E_0 (by decide) (by decide)).2.one]) rfl ag110 sz110 rfl (hd 0 rfl 38 rfl) (At.chunk ((b2.gr hz).seg 0 rfl rfl) (M_api_Super (i := 0) E_0 (by decide) (by decide)).1)) rfl rfl
  ·intro ρz wz hz hk hd
   refine sk_op (opv_call rfl cal76 (ac (hd 1 rfl 39 rfl) an) (rickyardref13_Put.ok fu _ (⟨(Arr.get a0 0).Epoch, (⟨(((Arr.get a0 0).Tickets).Geometry), ((Arr.get a0 0).Tickets).Top, ((Arr.get a0 0).Tickets).High, ((Arr.get a0 0).Tickets).Free⟩ : S_api_Tickets), (Arr.get a0 0).Dir, (Arr.get a0 0).Charts⟩ : S_api_Super) (nthV C_0 (Int.toNat 0 * 9 + 8)) ((M_api_Super (i := 0) E_0 (by decide) (by decide)).2.gr (fB.gr hz)) _ k47)) rfl ?_
   rintro _ wy ⟨rfl, q48⟩
   exact ⟨rfl, q48⟩
  ·intro ρz wz hz hk hd
   exact sk_val (v := (pt G1 (0 + Int.toNat 1 * 9))) (xr_indexA (p := 0) (s := 9) rfl Try.underlying119 sz110 ((hk 3 rfl).trans e3) rfl (by decide) (by decide)) rfl rfl
  intro ρz wz hz hk hd
  exact sk_val (xr_loadS (ss := [(sI ((Arr.get a0 1).Epoch)), (sI ((((Arr.get a0 1).Tickets).Geometry).Blocks)), (sI ((((Arr.get a0 1).Tickets).Geometry).Slots)), (sI ((((Arr.get a0 1).Tickets).Geometry).Gens)), (sI (((Arr.get a0 1).Tickets).Top)), (sI (((Arr.get a0 1).Tickets).High)), (sI (((Arr.get a0 1).Tickets).Free)), (sI ((Arr.get a0 1).Dir)), Seg.cell (nthV C_0 (Int.toNat 1 * 9 + 8)) (M_api_Super (i := 1) E_0 (by decide) (by decide)).2.one]) rfl ag110 sz110 rfl (hd 3 rfl 41 rfl) (At.chunk ((b2.gr hz).seg 0 rfl rfl) (M_api_Super (i := 1) E_0 (by decide) (by decide)).1)) rfl rfl
 intro ρ49 w50 q51 hk hd
 have e1 := (hk 1 rfl).trans e1
 have e2 := (hk 2 rfl).trans e2
 have e3 := (hk 3 rfl).trans e3
 have e40 := hd 2 rfl 40 rfl
 have e42 := hd 4 rfl 42 rfl
 have b2 := b2.gr q51
 have fB := fB.gr q51
 obtain ⟨t52, k53, h⟩ := bs h
 refine ol_op (opv_call rfl cal76 (ac e42 an) (rickyardref13_Put.ok fu _ (⟨(Arr.get a0 1).Epoch, (⟨(((Arr.get a0 1).Tickets).Geometry), ((Arr.get a0 1).Tickets).Top, ((Arr.get a0 1).Tickets).High, ((Arr.get a0 1).Tickets).Free⟩ : S_api_Tickets), (Arr.get a0 1).Dir, (Arr.get a0 1).Charts⟩ : S_api_Super) (nthV C_0 (Int.toNat 1 * 9 + 8)) ((M_api_Super (i := 1) E_0 (by decide) (by decide)).2.gr fB) _ k53)) rfl rfl rfl ?_
 rintro _ w55 ⟨rfl, q54⟩
 have b2 := b2.gr q54
 have fB := fB.gr q54
 obtain ⟨g56, h⟩ := gs h
 refine ol_val (v := sv (t46 ++ t52)) (xr_addStr rfl e40 rfl g56) rfl rfl rfl ?_
 refine ol_op (opv_toBytesO rfl Try.underlying9 Try.underlying43 Try.underlying5 rfl fB.size) rfl rfl rfl ?_
 rintro v57 w62 ⟨Q59, q58, z60⟩
 have b2 := b2.gr q58
 have fB := fB.gr q58
 refine ol_val (v := v57) (xr_assign rfl rfl) rfl rfl rfl ?_
 refine ol_nil ?_
 refine cw_seq ?_
 refine cw_region ?_
 refine ol_val (v := .int .u8 a1) (xr_move rfl e1) rfl rfl rfl ?_
 refine ol_val (v := .int .i64 (IntKind.i64.wrap a1)) (xr_conv rfl Try.underlying5 Try.underlying3 rfl) rfl rfl rfl ?_
 refine ol_val (v := .int .i64 (Int.tmod (IntKind.i64.wrap a1) 128)) (xr_rem rfl rfl rfl (by decide)) rfl rfl rfl ?_
 refine ol_val (v := .int .i64 (Int.tmod (IntKind.i64.wrap a1) 128)) (xr_assign rfl rfl) rfl rfl rfl ?_
 refine ol_nil ?_
 refine cw_seq ?_
 refine cw_region ?_
 refine ol_val (v := v57) (xr_move rfl rfl) rfl rfl rfl ?_
 refine ol_val (v := .int .i64 (Int.tmod (IntKind.i64.wrap a1) 128)) (xr_move rfl rfl) rfl rfl rfl ?_
 refine ol_val (v := v57) (xr_move rfl rfl) rfl rfl rfl ?_
 refine ol_val (v := .int .i64 (Int.tmod (IntKind.i64.wrap a1) 128)) (xr_move rfl rfl) rfl rfl rfl ?_
 obtain ⟨g63, h⟩ := gs h
 refine ol_val (v := (pt ((sb v57)) (so v57 + Int.toNat (Int.tmod (IntKind.i64.wrap a1) 128) * 1))) (xr_indexR (K := (kI .u8)) (v := v57) rfl Try.underlying43 sz5 rfl Q59.rd rfl g63.1 g63.2) rfl rfl rfl ?_
 refine ol_val (v := .int .u8 (ix (List.map ofB (t46 ++ t52)) (Int.tmod (IntKind.i64.wrap a1) 128))) (xr_load1 (v := .int .u8 (ix (List.map ofB (t46 ++ t52)) (Int.tmod (IntKind.i64.wrap a1) 128))) rfl ag5 rfl (Q59.rd.elem g63.1 g63.2)) rfl rfl rfl ?_
 refine ol_val (v := .int .u8 a2) (xr_move rfl e2) rfl rfl rfl ?_
 refine ol_val (v := .int .u8 (bXor .u8 (ix (List.map ofB (t46 ++ t52)) (Int.tmod (IntKind.i64.wrap a1) 128)) a2)) (xr_xor rfl rfl rfl) rfl rfl rfl ?_
 obtain ⟨g64, h⟩ := gs h
 refine ol_val (v := (pt ((sb v57)) (so v57 + Int.toNat (Int.tmod (IntKind.i64.wrap a1) 128) * 1))) (xr_indexR (K := (kI .u8)) (v := v57) rfl Try.underlying43 sz5 rfl Q59.rd rfl g64.1 g64.2) rfl rfl rfl ?_
 have f66 := off_tyC b2 Q59 (by decide)
 have f67 := Q59.geO
 refine ol_op0 (opv_storeC (z := (bXor .u8 (ix (List.map ofB (t46 ++ t52)) (Int.tmod (IntKind.i64.wrap a1) 128)) a2)) rfl sz5 rfl rfl Q59 g64.1 g64.2 rfl) rfl rfl ?_
 rintro _ w68 ⟨Q59, q65⟩
 have b2 := b2.wrO q65 f66
 have fB := fB.wrO q65 f67
 refine ol_nil ?_
 refine cw_seq ?_
 refine cw_region ?_
 refine ol_val (v := v57) (xr_move rfl rfl) rfl rfl rfl ?_
 obtain ⟨t69, k70, h⟩ := bs h
 refine ol_op (opv_call rfl cal48 (ac rfl an) (pmem_From.ok fu _ (List.set (List.map ofB (t46 ++ t52)) (Int.toNat (Int.tmod (IntKind.i64.wrap a1) 128)) (bXor .u8 (ix (List.map ofB (t46 ++ t52)) (Int.tmod (IntKind.i64.wrap a1) 128)) a2)) v57 (Q59.rd) _ k70)) rfl rfl rfl ?_
 rintro u71 w74 ⟨_, p72, rfl, q73⟩
 obtain ⟨G75, u79, u82, o80, o83, rfl, z76, b77⟩ := p72
 have o80 := Own.base o80 fB.size
 have o83 := Own.base o83 fB.size
 have n85 := b2.ne z76
 have z76 := Nat.le_trans fB.size z76
 have b2 := b2.gr q73
 have fB := fB.gr q73
 refine ol_val (v := (pt G75 0)) (xr_assign rfl rfl) rfl rfl rfl ?_
 refine ol_nil ?_
 refine cw_seq ?_
 refine cw_seq ?_
 refine cw_region ?_
 refine ol_val (v := (pt G75 0)) (xr_move rfl rfl) rfl rfl rfl ?_
 refine ol_val (v := .bool false) (xr_eqP (b := false) rfl Try.underlying30 rfl rfl (by simp) (by simp)) rfl rfl rfl ?_
 refine ol_nil ?_
 refine cw_condF rfl rfl ?_
 refine cw_skip ?_
 refine cw_seq ?_
 refine cw_region ?_
 refine ol_val (v := (pt G75 0)) (xr_move rfl rfl) rfl rfl rfl ?_
 obtain ⟨t86, k87, h⟩ := bs h
 refine ol_op (opv_call rfl cal72 (ac rfl an) (root_Pick.ok fu _ t69 G75 u79 (o80.rd) u82 (o83.rd) b77 _ k87)) rfl rfl rfl ?_
 rintro _ w92 ⟨u88, o89, rfl, q91⟩
 have o89 := Own.base o89 fB.size
 have b2 := b2.gr q91
 have fB := fB.gr q91
 refine ol_val (v := .tuple #[aggV [(sI t86.1.Epoch), (sI t86.1.Tickets.Geometry.Blocks), (sI t86.1.Tickets.Geometry.Slots), (sI t86.1.Tickets.Geometry.Gens), (sI t86.1.Tickets.Top), (sI t86.1.Tickets.High), (sI t86.1.Tickets.Free), (sI t86.1.Dir), Seg.cell u88 o89.one], .int .i64 t86.2.1, .bool t86.2.2]) (xr_move rfl rfl) rfl rfl rfl ?_
 refine ol_val (v := aggV [(sI t86.1.Epoch), (sI t86.1.Tickets.Geometry.Blocks), (sI t86.1.Tickets.Geometry.Slots), (sI t86.1.Tickets.Geometry.Gens), (sI t86.1.Tickets.Top), (sI t86.1.Tickets.High), (sI t86.1.Tickets.Free), (sI t86.1.Dir), Seg.cell u88 o89.one]) (xr_extract rfl rfl rfl) rfl rfl rfl ?_
 refine ol_val (v := .int .i64 t86.2.1) (xr_extract rfl rfl rfl) rfl rfl rfl ?_
 refine ol_val (v := .bool t86.2.2) (xr_extract rfl rfl rfl) rfl rfl rfl ?_
 refine ol_op (opv_alloc (ss := [(sI (0 : Int)), (sI (0 : Int)), (sI (0 : Int)), (sI (0 : Int)), (sI (0 : Int)), (sI (0 : Int)), (sI (0 : Int)), (sI (0 : Int)), Seg.cell (.slice none 0 0) (by rfl)]) rfl ze110 rfl) rfl rfl rfl ?_
 rintro _ w98 ⟨G93, rfl, b94, q95, z96⟩
 have n99 := b2.ne z96
 have z96 := Nat.le_trans fB.size z96
 have b2 := b2.gr q95
 have o89 := o89.gr q95
 have fB := fB.gr q95
 have f101 := off_ty b94 o89 (by decide)
 refine ol_op0 (opv_store (ss' := [(sI t86.1.Epoch), (sI t86.1.Tickets.Geometry.Blocks), (sI t86.1.Tickets.Geometry.Slots), (sI t86.1.Tickets.Geometry.Gens), (sI t86.1.Tickets.Top), (sI t86.1.Tickets.High), (sI t86.1.Tickets.Free), (sI t86.1.Dir), Seg.cell u88 o89.one]) (xs := cellsOf [(sI t86.1.Epoch), (sI t86.1.Tickets.Geometry.Blocks), (sI t86.1.Tickets.Geometry.Slots), (sI t86.1.Tickets.Geometry.Gens), (sI t86.1.Tickets.Top), (sI t86.1.Tickets.High), (sI t86.1.Tickets.Free), (sI t86.1.Dir), Seg.cell u88 o89.one]) rfl sz110 rfl rfl rfl (len_cellsOf _) (one_cellsOf _) b94 (Spl.segs _ 0 9 [(sI t86.1.Epoch), (sI t86.1.Tickets.Geometry.Blocks), (sI t86.1.Tickets.Geometry.Slots), (sI t86.1.Tickets.Geometry.Gens), (sI t86.1.Tickets.Top), (sI t86.1.Tickets.High), (sI t86.1.Tickets.Free), (sI t86.1.Dir), Seg.cell u88 o89.one] rfl rfl)) rfl rfl ?_
 rintro _ w102 ⟨b94, q100⟩
 have b2 := b2.wr q100 n99
 have o89 := o89.wr q100 f101
 have fB := fB.wr q100 z96
 refine ol_val (v := .int .i64 t86.2.1) (xr_assign rfl rfl) rfl rfl rfl ?_
 refine ol_val (v := .bool t86.2.2) (xr_assign rfl rfl) rfl rfl rfl ?_
 refine ol_nil ?_
 refine cw_seq ?_
 obtain ⟨x103, j104, h⟩ := bs h
 refine cw_mid (fun ρ' w' => ρ' 6 = .bool x103 ∧ Gr w102 w') ?_ ?_
 ·skip
  refine rd_region mo ?_
  intro w105 q106
  have b2 := b2.gr q106
  have b94 := b94.gr q106
  have o89 := o89.gr q106
  have fB := fB.gr q106
  refine rd_seq (m := 0) (n := 2) rfl ?_
  refine ol_val (v := .bool t86.2.2) (xr_move rfl rfl) rfl rfl rfl ?_
  refine ol_val (v := .bool t86.2.2) (xr_move rfl rfl) rfl rfl rfl ?_
  refine ol_nilK ?_
  rcases is j104 with ⟨c107, j104⟩ | ⟨c107, j104⟩
  ·skip
   refine rd_drawL 2 6 [fun vz wz => vz = (.int .i64 t86.2.1 : Value), fun vz wz => vz = (.int .i64 (Int.tmod (IntKind.i64.wrap a1) 128) : Value), fun vz wz => vz = (.int .i64 (IntKind.i64.wrap (Int.tdiv (Int.tmod (IntKind.i64.wrap a1) 128) 64)) : Value), fun vz wz => vz = (.int .i64 (IntKind.i64.wrap (1 - (IntKind.i64.wrap (Int.tdiv (Int.tmod (IntKind.i64.wrap a1) 128) 64)))) : Value)] rfl ⟨fun _ _ _ h _ => h, fun _ _ _ h _ => h, fun _ _ _ h _ => h, fun _ _ _ h _ => h, trivial⟩ ?_ ?_
   ·refine ⟨?_, ?_, ?_, ?_, trivial⟩
    ·intro ρz wz hz hk hd
     exact sk_gval (v := .int .i64 t86.2.1) (xr_move rfl ((hk 12 rfl).trans rfl)) rfl rfl ((hk 69 rfl).trans rfl) c107 rfl
    ·intro ρz wz hz hk hd
     exact sk_gval (v := .int .i64 (Int.tmod (IntKind.i64.wrap a1) 128)) (xr_move rfl ((hk 9 rfl).trans rfl)) rfl rfl ((hk 69 rfl).trans rfl) c107 rfl
    ·intro ρz wz hz hk hd
     exact sk_gval (xr_quo rfl (hd 3 rfl rfl 71 rfl) rfl (by decide)) rfl rfl ((hk 69 rfl).trans rfl) c107 rfl
    intro ρz wz hz hk hd
    exact sk_gval (xr_sub rfl rfl (hd 4 rfl rfl 72 rfl)) rfl rfl ((hk 69 rfl).trans rfl) c107 rfl
   intro ρ108 w109 q110 hk hd
   have e3 := (hk 3 rfl).trans e3
   have e11 := (hk 11 rfl).trans rfl
   have e12 := (hk 12 rfl).trans rfl
   have e69 := (hk 69 rfl).trans rfl
   have e70 := hd 2 rfl rfl 70 rfl
   have e73 := hd 5 rfl rfl 73 rfl
   have b2 := b2.gr q110
   have b94 := b94.gr q110
   have o89 := o89.gr q110
   have fB := fB.gr q110
   refine rd_seq (m := 6) (n := 9) rfl ?_
   refine ol_gval (v := .bool (decide (t86.2.1 = (IntKind.i64.wrap (1 - (IntKind.i64.wrap (Int.tdiv (Int.tmod (IntKind.i64.wrap a1) 128) 64))))))) (xr_eqI rfl Try.underlying3 rfl e70 e73) rfl rfl rfl rfl e69 c107 ?_
   refine ol_val (v := .bool (decide (t86.2.1 = (IntKind.i64.wrap (1 - (IntKind.i64.wrap (Int.tdiv (Int.tmod (IntKind.i64.wrap a1) 128) 64))))))) (xr_pickT rfl e69 c107 rfl) rfl rfl rfl ?_
   refine ol_val (v := .bool (decide (t86.2.1 = (IntKind.i64.wrap (1 - (IntKind.i64.wrap (Int.tdiv (Int.tmod (IntKind.i64.wrap a1) 128) 64))))))) (xr_move rfl rfl) rfl rfl rfl ?_
   refine ol_nilK ?_
   rcases is j104 with ⟨c111, j104⟩ | ⟨c111, j104⟩
   ·skip
    obtain ⟨g112, j104⟩ := gs j104
    refine rd_drawL 9 13 [fun vz wz => vz = (aggV [(sI t86.1.Epoch), (sI t86.1.Tickets.Geometry.Blocks), (sI t86.1.Tickets.Geometry.Slots), (sI t86.1.Tickets.Geometry.Gens), (sI t86.1.Tickets.Top), (sI t86.1.Tickets.High), (sI t86.1.Tickets.Free), (sI t86.1.Dir), Seg.cell u88 o89.one] : Value), fun vz wz => vz = (.int .i64 t86.2.1 : Value), fun vz wz => vz = ((pt G1 (0 + Int.toNat t86.2.1 * 9)) : Value), fun vz wz => vz = (aggV [(sI ((Arr.get a0 t86.2.1).Epoch)), (sI ((((Arr.get a0 t86.2.1).Tickets).Geometry).Blocks)), (sI ((((Arr.get a0 t86.2.1).Tickets).Geometry).Slots)), (sI ((((Arr.get a0 t86.2.1).Tickets).Geometry).Gens)), (sI (((Arr.get a0 t86.2.1).Tickets).Top)), (sI (((Arr.get a0 t86.2.1).Tickets).High)), (sI (((Arr.get a0 t86.2.1).Tickets).Free)), (sI ((Arr.get a0 t86.2.1).Dir)), Seg.cell (nthV C_0 (Int.toNat t86.2.1 * 9 + 8)) (M_api_Super (i := t86.2.1) E_0 g112.1 g112.2).2.one] : Value)] rfl ⟨fun _ _ _ h _ => h, fun _ _ _ h _ => h, fun _ _ _ h _ => h, fun _ _ _ h _ => h, trivial⟩ ?_ ?_
    ·refine ⟨?_, ?_, ?_, ?_, trivial⟩
     ·intro ρz wz hz hk hd
      exact sk_gval (xr_loadS (ss := [(sI t86.1.Epoch), (sI t86.1.Tickets.Geometry.Blocks), (sI t86.1.Tickets.Geometry.Slots), (sI t86.1.Tickets.Geometry.Gens), (sI t86.1.Tickets.Top), (sI t86.1.Tickets.High), (sI t86.1.Tickets.Free), (sI t86.1.Dir), Seg.cell u88 o89.one]) rfl ag110 sz110 rfl ((hk 11 rfl).trans e11) ((b94.gr hz).segs 0 9 rfl)) rfl rfl ((hk 76 rfl).trans rfl) c111 rfl
     ·intro ρz wz hz hk hd
      exact sk_gval (v := .int .i64 t86.2.1) (xr_move rfl ((hk 12 rfl).trans e12)) rfl rfl ((hk 76 rfl).trans rfl) c111 rfl
     ·intro ρz wz hz hk hd
      exact sk_gval (v := (pt G1 (0 + Int.toNat t86.2.1 * 9))) (xr_indexA (p := 0) (s := 9) rfl Try.underlying119 sz110 ((hk 3 rfl).trans e3) (hd 10 rfl rfl 78 rfl) g112.1 g112.2) rfl rfl ((hk 76 rfl).trans rfl) c111 rfl
     intro ρz wz hz hk hd
     exact sk_gval (xr_loadS (ss := [(sI ((Arr.get a0 t86.2.1).Epoch)), (sI ((((Arr.get a0 t86.2.1).Tickets).Geometry).Blocks)), (sI ((((Arr.get a0 t86.2.1).Tickets).Geometry).Slots)), (sI ((((Arr.get a0 t86.2.1).Tickets).Geometry).Gens)), (sI (((Arr.get a0 t86.2.1).Tickets).Top)), (sI (((Arr.get a0 t86.2.1).Tickets).High)), (sI (((Arr.get a0 t86.2.1).Tickets).Free)), (sI ((Arr.get a0 t86.2.1).Dir)), Seg.cell (nthV C_0 (Int.toNat t86.2.1 * 9 + 8)) (M_api_Super (i := t86.2.1) E_0 g112.1 g112.2).2.one]) rfl ag110 sz110 rfl (hd 11 rfl rfl 79 rfl) (At.chunk ((b2.gr hz).seg 0 rfl rfl) (M_api_Super (i := t86.2.1) E_0 g112.1 g112.2).1)) rfl rfl ((hk 76 rfl).trans rfl) c111 rfl
    intro ρ113 w114 q115 hk hd
    have e76 := (hk 76 rfl).trans rfl
    have e77 := hd 9 rfl rfl 77 rfl
    have e80 := hd 12 rfl rfl 80 rfl
    have o89 := o89.gr q115
    have fB := fB.gr q115
    refine rd_seq (m := 13) (n := 16) rfl ?_
    obtain ⟨t116, k117, j104⟩ := bs j104
    refine ol_gop (opv_call rfl cal74 (ac e77 (ac e80 an)) (rickyardref13_Same.ok fu _ t86.1 u88 (o89.rd) (⟨(Arr.get a0 t86.2.1).Epoch, (⟨(((Arr.get a0 t86.2.1).Tickets).Geometry), ((Arr.get a0 t86.2.1).Tickets).Top, ((Arr.get a0 t86.2.1).Tickets).High, ((Arr.get a0 t86.2.1).Tickets).Free⟩ : S_api_Tickets), (Arr.get a0 t86.2.1).Dir, (Arr.get a0 t86.2.1).Charts⟩ : S_api_Super) (nthV C_0 (Int.toNat t86.2.1 * 9 + 8)) ((M_api_Super (i := t86.2.1) E_0 g112.1 g112.2).2.gr fB) _ k117)) rfl rfl rfl rfl e76 c111 ?_
    rintro _ w119 ⟨rfl, q118⟩
    have fB := fB.gr q118
    refine ol_val (v := .bool t116) (xr_pickT rfl e76 c111 rfl) rfl rfl rfl ?_
    refine ol_val (v := .bool t116) (xr_assign rfl rfl) rfl rfl rfl ?_
    refine ol_nilK ?_
    refine rd_end rfl ?_
    obtain rfl := Option.some.inj j104
    refine thn_i ?_
    exact ⟨rfl, (((q106.gr q110).gr q115).gr q118)⟩
   refine rd_drawL 9 13 [fun vz _ => vz = undef, fun vz _ => vz = undef, fun vz _ => vz = undef, fun vz _ => vz = undef] rfl ⟨fun _ _ _ h _ => h, fun _ _ _ h _ => h, fun _ _ _ h _ => h, fun _ _ _ h _ => h, trivial⟩ ?_ ?_
   ·refine ⟨?_, ?_, ?_, ?_, trivial⟩
    ·intro ρz wz hz hk hd
     exact sk_skip rfl rfl ((hk 76 rfl).trans rfl) c111 rfl
    ·intro ρz wz hz hk hd
     exact sk_skip rfl rfl ((hk 76 rfl).trans rfl) c111 rfl
    ·intro ρz wz hz hk hd
     exact sk_skip rfl rfl ((hk 76 rfl).trans rfl) c111 rfl
    intro ρz wz hz hk hd
    exact sk_skip rfl rfl ((hk 76 rfl).trans rfl) c111 rfl
   intro ρ120 w121 q122 hk hd
   have e76 := (hk 76 rfl).trans rfl
   have e77 := hd 9 rfl rfl 77 rfl
   have e80 := hd 12 rfl rfl 80 rfl
   have fB := fB.gr q122
   refine rd_seq (m := 13) (n := 16) rfl ?_
   refine ol_gskip rfl rfl rfl rfl e76 c111 ?_
   refine ol_val (v := .bool false) (xr_pickF rfl e76 c111 rfl) rfl rfl rfl ?_
   refine ol_val (v := .bool false) (xr_assign rfl rfl) rfl rfl rfl ?_
   refine ol_nilK ?_
   refine rd_end rfl ?_
   obtain rfl := Option.some.inj j104
   refine thn_i ?_
   exact ⟨rfl, ((q106.gr q110).gr q122)⟩
  refine rd_drawL 2 6 [fun vz _ => vz = undef, fun vz _ => vz = undef, fun vz _ => vz = undef, fun vz _ => vz = undef] rfl ⟨fun _ _ _ h _ => h, fun _ _ _ h _ => h, fun _ _ _ h _ => h, fun _ _ _ h _ => h, trivial⟩ ?_ ?_
  ·refine ⟨?_, ?_, ?_, ?_, trivial⟩
   ·intro ρz wz hz hk hd
    exact sk_skip rfl rfl ((hk 69 rfl).trans rfl) c107 rfl
   ·intro ρz wz hz hk hd
    exact sk_skip rfl rfl ((hk 69 rfl).trans rfl) c107 rfl
   ·intro ρz wz hz hk hd
    exact sk_skip rfl rfl ((hk 69 rfl).trans rfl) c107 rfl
   intro ρz wz hz hk hd
   exact sk_skip rfl rfl ((hk 69 rfl).trans rfl) c107 rfl
  intro ρ123 w124 q125 hk hd
  have e3 := (hk 3 rfl).trans e3
  have e11 := (hk 11 rfl).trans rfl
  have e12 := (hk 12 rfl).trans rfl
  have e69 := (hk 69 rfl).trans rfl
  have e70 := hd 2 rfl rfl 70 rfl
  have e73 := hd 5 rfl rfl 73 rfl
  have b2 := b2.gr q125
  have b94 := b94.gr q125
  have o89 := o89.gr q125
  have fB := fB.gr q125
  refine rd_seq (m := 6) (n := 9) rfl ?_
  refine ol_gskip rfl rfl rfl rfl e69 c107 ?_
  refine ol_val (v := .bool false) (xr_pickF rfl e69 c107 rfl) rfl rfl rfl ?_
  refine ol_val (v := .bool false) (xr_move rfl rfl) rfl rfl rfl ?_
  refine ol_nilK ?_
  refine rd_drawL 9 13 [fun vz _ => vz = undef, fun vz _ => vz = undef, fun vz _ => vz = undef, fun vz _ => vz = undef] rfl ⟨fun _ _ _ h _ => h, fun _ _ _ h _ => h, fun _ _ _ h _ => h, fun _ _ _ h _ => h, trivial⟩ ?_ ?_
  ·refine ⟨?_, ?_, ?_, ?_, trivial⟩
   ·intro ρz wz hz hk hd
    exact sk_skip rfl rfl ((hk 76 rfl).trans rfl) rfl rfl
   ·intro ρz wz hz hk hd
    exact sk_skip rfl rfl ((hk 76 rfl).trans rfl) rfl rfl
   ·intro ρz wz hz hk hd
    exact sk_skip rfl rfl ((hk 76 rfl).trans rfl) rfl rfl
   intro ρz wz hz hk hd
   exact sk_skip rfl rfl ((hk 76 rfl).trans rfl) rfl rfl
  intro ρ126 w127 q128 hk hd
  have e76 := (hk 76 rfl).trans rfl
  have e77 := hd 9 rfl rfl 77 rfl
  have e80 := hd 12 rfl rfl 80 rfl
  have fB := fB.gr q128
  refine rd_seq (m := 13) (n := 16) rfl ?_
  refine ol_gskip rfl rfl rfl rfl e76 rfl ?_
  refine ol_val (v := .bool false) (xr_pickF rfl e76 rfl rfl) rfl rfl rfl ?_
  refine ol_val (v := .bool false) (xr_assign rfl rfl) rfl rfl rfl ?_
  refine ol_nilK ?_
  refine rd_end rfl ?_
  obtain rfl := Option.some.inj j104
  refine thn_i ?_
  exact ⟨rfl, ((q106.gr q125).gr q128)⟩
 rintro ρ129 w130 ⟨e6, q131⟩
 have fB := fB.gr q131
 refine cw_ret ?_
 repeat (first | with_reducible refine thn_r ?_ | with_reducible refine blk_r ?_)
 obtain rfl := Option.some.inj h
 refine fin_ret1 Try.results19 e6 ?_
 exact ⟨_, rfl, rfl, fB⟩
end Go.Proofs.Ytklhbaghbmndeaa
namespace Go.Xw
open Go
variable {P : Program} {w : World}
def Opn {α : Type} (P : Program) (w : World) (T : TypeId) (K : Kd α) (ok : α → Prop) : Prop :=
  ∀ {H : Type} (enc : TypeId × Value → H) (base : Nat) (sp : Nat → Bool) (held : Bool) (fuel : Nat) (cs : List Value) (x : DataW H × List MemPlace), DataW.trod enc P w base sp held fuel T cs = some x → ∃ a : α, cs = K.enc a ∧ ok a
theorem opn_int {T : TypeId} {k : IntKind} (ht : P.underlying T = some (.int k)) : Opn P w T (kI k) (fun n => (Lit.int k n).wf = true) := by
  intro H enc base sp held fuel cs x h
  obtain ⟨n, rfl, _, hw⟩ := DataW.trod_int ht h
  exact ⟨n, rfl, hw⟩
theorem ms_len {α β : Type} {f : α → Option β} : ∀ {l : List α} {ys : List β}, l.mapM f = some ys → ys.length = l.length
  | [], ys, h => by simp at h; subst h; rfl
  | a :: l, ys, h => by
    rw [List.mapM_cons] at h
    obtain ⟨b, _, h⟩ := Option.bind_eq_some_iff.1 h
    obtain ⟨bs, hb, h⟩ := Option.bind_eq_some_iff.1 h
    simp at h
    subst h
    simp [ms_len hb]
theorem ms_get {α β : Type} {f : α → Option β} : ∀ {l : List α} {ys : List β}, l.mapM f = some ys → ∀ (i : Nat) (a : α), l[i]? = some a → ∃ y, ys[i]? = some y ∧ f a = some y
  | [], ys, h, i, a, ha => by simp at ha
  | b :: l, ys, h, i, a, ha => by
    rw [List.mapM_cons] at h
    obtain ⟨c, hc, h⟩ := Option.bind_eq_some_iff.1 h
    obtain ⟨bs, hb, h⟩ := Option.bind_eq_some_iff.1 h
    simp at h
    subst h
    cases i with
    | zero =>
      simp at ha
      subst ha
      exact ⟨c, rfl, hc⟩
    | succ i =>
      simp at ha
      obtain ⟨y, h1, h2⟩ := ms_get hb i a ha
      exact ⟨y, by simpa using h1, h2⟩
theorem trod_arr {H : Type} {enc : TypeId × Value → H} {base : Nat} {sp : Nat → Bool} {held : Bool} {fuel : Nat} {T e : TypeId} {n : Nat} {cs : List Value} {x : DataW H × List MemPlace} (ht : P.underlying T = some (.array n e)) (h : DataW.trod enc P w base sp held fuel T cs = some x) :
    cs.length = P.cellsOf T ∧ ∃ m, ∀ i, i < n → ∃ y, DataW.trod enc P w base sp held m e ((cs.drop (i * P.cellsOf e)).take (P.cellsOf e)) = some y := by
  cases fuel with
  | zero => simp [DataW.trod] at h
  | succ m =>
    unfold DataW.trod at h
    rw [ht] at h
    simp only at h
    split at h
    · rename_i hl
      refine ⟨hl, m, fun i hi => ?_⟩
      obtain ⟨xs, hx, _⟩ := Option.map_eq_some_iff.1 h
      obtain ⟨y, _, hy⟩ := ms_get hx i i (by simp [hi])
      exact ⟨y, hy⟩
    · cases h
theorem fld_cons {cs : List Value} {o n : Nat} {c r : List Value} (h : (cs.drop o).take n = c) (hr : cs.drop (o + n) = r) : cs.drop o = c ++ r := by
  rw [← h, ← hr, ← List.drop_drop, List.take_append_drop]
theorem trod_st {H : Type} {enc : TypeId × Value → H} {base : Nat} {sp : Nat → Bool} {held : Bool} {fuel : Nat} {T : TypeId} {fs : Array Field} {cs : List Value} {x : DataW H × List MemPlace} (ht : P.underlying T = some (.struct fs)) (h : DataW.trod enc P w base sp held fuel T cs = some x) :
    cs.length = P.cellsOf T ∧ ∃ m, ∀ (i : Nat) (f : Field), fs[i]? = some f → ∃ y, DataW.trod enc P w base sp held m f.type ((cs.drop f.offset).take (P.cellsOf f.type)) = some y := by
  obtain ⟨xs, m, _, _, hl, hn, hf⟩ := DataW.trod_struct ht h
  refine ⟨hl, m, fun i f hi => ?_⟩
  have hx : i < xs.length := by rw [hn]; exact (Array.getElem?_eq_some_iff.1 hi).1
  exact ⟨xs[i], by rw [hf i f hi, List.getElem?_eq_getElem hx]⟩
def OpnS {α : Type} (P : Program) (w : World) (T : TypeId) (K : Kd α) (ok : α → Prop) : Prop :=
  ∀ {H : Type} (enc : TypeId × Value → H) (base : Nat) (sp : Nat → Bool) (held : Bool) (fuel : Nat) (cs : List Value) (x : DataW H × List MemPlace), DataW.trod enc P w base sp held fuel T cs = some x → ∃ (l : List α) (V : Value), cs = [V] ∧ Rd K w V l ∧ (∀ a ∈ l, ok a) ∧ l.length ≤ maxLen ∧ (sb V < w.heap.size ∨ l = [])
theorem cells_get {base : Nat} {a : Addr} {n : Nat} {cs : List Value} (h : w.cells? base a n = some cs) : cs.length = n ∧ ∀ j, j < n → w.cell? (a.add j) = cs[j]? := by
  unfold World.cells? at h
  split at h
  · refine ⟨by simpa using ms_len h, fun j hj => ?_⟩
    obtain ⟨y, h1, h2⟩ := ms_get h j j (by simp [hj])
    rw [h1, h2]
  · cases h
theorem opn_slice {α : Type} {K : Kd α} {ok : α → Prop} {T e : TypeId} (ht : P.underlying T = some (.slice e)) (he : P.cellsOf e = K.size) (hk : 0 < K.size) (ho : Opn P w e K ok) : OpnS P w T K ok := by
  intro H enc base sp held fuel cs x h
  rcases DataW.trod_slice ht h with ⟨rfl, _⟩ | ⟨a, len, cap, elems, rest, n, rfl, rfl, _, _, hl, hm, hlen, hel, _, _⟩
  · exact ⟨[], _, rfl, Rd.nil K w, by simp, by simp, .inr rfl⟩
  · have hex : ∀ i, i < len → ∃ b, (∀ j z, (K.enc b)[j]? = some z → w.cell? (a.add (i * K.size + j)) = some z) ∧ ok b := by
      intro i hi
      have h1 := hel i hi
      rw [List.getElem?_eq_getElem (by omega)] at h1
      obtain ⟨cs, h2, h3⟩ := Option.bind_eq_some_iff.1 h1
      obtain ⟨b, rfl, hb⟩ := ho enc base sp held n cs _ h3
      obtain ⟨h4, h5⟩ := cells_get h2
      rw [he] at h4 h5
      refine ⟨b, fun j z hz => ?_, hb⟩
      have hj : j < K.size := by rw [← h4]; exact (List.getElem?_eq_some_iff.1 hz).1
      have := h5 j hj
      rw [hz] at this
      rw [← this]
      congr 1
      unfold Addr.add
      by_cases hi0 : i * K.size = 0
      · by_cases hj0 : j = 0
        · simp [hi0, hj0]
        · simp [hi0, hj0]
      · by_cases hj0 : j = 0
        · simp [hi0, hj0]
        · have : i * K.size + j ≠ 0 := by omega
          simp [hi0, hj0, this, Nat.add_assoc]
    have hlist : ∀ m, m ≤ len → ∃ l : List α, l.length = m ∧ (∀ b ∈ l, ok b) ∧ ∀ j z, (l.flatMap K.enc)[j]? = some z → w.cell? (a.add j) = some z := by
      intro m
      induction m with
      | zero => intro _; exact ⟨[], rfl, by simp, by simp⟩
      | succ m ih =>
        intro hm
        obtain ⟨l, h1, h2, h3⟩ := ih (by omega)
        obtain ⟨b, h4, h5⟩ := hex m (by omega)
        refine ⟨l ++ [b], by simp [h1], ?_, ?_⟩
        · intro c hc
          rcases List.mem_append.1 hc with hc | hc
          · exact h2 c hc
          · obtain rfl := List.mem_singleton.1 hc
            exact h5
        · intro j z hz
          have hL : (l.flatMap K.enc).length = m * K.size := by rw [len_flat, h1]
          simp only [List.flatMap_append, List.flatMap_cons, List.flatMap_nil, List.append_nil] at hz
          by_cases hj : j < m * K.size
          · rw [List.getElem?_append_left (by omega)] at hz
            exact h3 j z hz
          · rw [List.getElem?_append_right (by omega), hL] at hz
            have := h4 (j - m * K.size) z hz
            rwa [show m * K.size + (j - m * K.size) = j from by omega] at this
    obtain ⟨l, h1, h2, h3⟩ := hlist len (Nat.le_refl _)
    have hpos : 0 < l.length → ∃ z, w.cell? a = some z := by
      intro hp
      cases l with
      | nil => simp at hp
      | cons b l =>
        have hb : (K.enc b).length = K.size := K.len b
        have : ∃ z, ((b :: l).flatMap K.enc)[0]? = some z := ⟨_, List.getElem?_eq_getElem (by simp [List.flatMap_cons, hb]; omega)⟩
        obtain ⟨z, hz⟩ := this
        have := h3 0 z hz
        exact ⟨z, by simpa [Addr.add] using this⟩
    refine ⟨l, _, rfl, ⟨some a, cap, by rw [h1], by omega, fun hp => ?_⟩, h2, by omega, ?_⟩
    · obtain ⟨z, hz⟩ := hpos hp
      obtain ⟨b, o, s⟩ := a
      have hs : s = none := by
        unfold World.cell? at hz
        split at hz
        · cases s with
          | none => rfl
          | some _ => simp at hz
        · cases hz
      subst hs
      refine ⟨b, o, rfl, fun j v hv => ?_⟩
      have := h3 j v hv
      rwa [Addr.add_lit] at this
    · rcases Nat.eq_zero_or_pos l.length with h0 | hp
      · exact .inr (List.eq_nil_of_length_eq_zero h0)
      · obtain ⟨z, hz⟩ := hpos hp
        refine .inl ?_
        unfold World.cell? at hz
        split at hz
        · rename_i hh
          exact (Array.getElem?_eq_some_iff.1 hh).1
        · cases hz
theorem agg_of {T : TypeId} {v : Value} {cs : List Value} {base : Nat} (h : aggB P T = some true) (hv : Value.okWide P w .any base T v) (hc : v.cells.toList = cs) : v = .agg cs.toArray := by
  unfold aggB at h
  obtain ⟨d, hu, hd⟩ := Option.map_eq_some_iff.1 h
  unfold Value.okWide at hv
  rw [hu] at hv
  cases d <;> simp at hd <;> (obtain ⟨c2, rfl, _⟩ := hv; subst hc; simp [Value.cells])
theorem opn_arrN {P : Program} {w : World} {α : Type} {N n : Nat} {D : World → List Value → α → Prop} {ok : α → Prop} {T e : TypeId} (ht : P.underlying T = some (.array N e)) (hc : P.cellsOf T = N * n) (he : P.cellsOf e = n) (hk : 0 < n)
    (ho : ∀ {H : Type} (enc : TypeId × Value → H) (base : Nat) (sp : Nat → Bool) (held : Bool) (fuel : Nat) (cs : List Value) (x : DataW H × List MemPlace), DataW.trod enc P w base sp held fuel e cs = some x → ∃ a : α, D w cs a ∧ ok a ∧ cs.length = n ∧ ∀ v ∈ cs, v.oneCell' = true)
    {H : Type} (enc : TypeId × Value → H) (base : Nat) (sp : Nat → Bool) (held : Bool) (fuel : Nat) (cs : List Value) (x : DataW H × List MemPlace) (h : DataW.trod enc P w base sp held fuel T cs = some x) :
    ∃ (C : List Value) (a : Arr N α) (E : AtN N n D w C a), cs = cellsOf [AtN.seg E] ∧ ∀ x ∈ a.l, ok x := by
  obtain ⟨hl, m, hm⟩ := trod_arr ht h
  rw [he] at hm
  have hex : ∀ i : Fin N, ∃ a : α, D w ((cs.drop (i.1 * n)).take n) a ∧ ok a ∧ ((cs.drop (i.1 * n)).take n).length = n ∧ ∀ v ∈ (cs.drop (i.1 * n)).take n, v.oneCell' = true := fun i => by
    obtain ⟨y, hy⟩ := hm i.1 i.2
    exact ho enc base sp held m _ y hy
  let f : Fin N → α := fun i => Classical.choose (hex i)
  have hf : ∀ i, D w ((cs.drop (i.1 * n)).take n) (f i) ∧ ok (f i) ∧ ((cs.drop (i.1 * n)).take n).length = n ∧ ∀ v ∈ (cs.drop (i.1 * n)).take n, v.oneCell' = true := fun i => Classical.choose_spec (hex i)
  have h1 : cs.length = N * n := hl.trans hc
  have h2 : ∀ v ∈ cs, v.oneCell' = true := by
    intro v hv
    obtain ⟨k, hk1, rfl⟩ := List.getElem_of_mem hv
    have hkn : k / n < N := (Nat.div_lt_iff_lt_mul hk).2 (by omega)
    refine (hf ⟨k / n, hkn⟩).2.2.2 _ ?_
    have hmod := Nat.mod_lt k hk
    have hdm : k / n * n + k % n = k := by rw [Nat.mul_comm]; exact Nat.div_add_mod k n
    refine List.mem_iff_getElem?.2 ⟨k % n, ?_⟩
    rw [List.getElem?_take, if_pos hmod, List.getElem?_drop, hdm, List.getElem?_eq_getElem hk1]
  refine ⟨cs, ⟨List.ofFn f, by simp⟩, ⟨h1, h2, fun i hi => ?_⟩, by simp [cellsOf, AtN.seg], ?_⟩
  · have hi' : i < N := by simpa using hi
    have := (hf ⟨i, hi'⟩).1
    simpa using this
  · intro y hy
    obtain ⟨i, rfl⟩ := List.mem_ofFn.1 hy
    exact (hf i).2.1
end Go.Xw
