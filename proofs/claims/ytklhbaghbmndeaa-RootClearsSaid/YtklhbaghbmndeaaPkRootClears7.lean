/- RootClears: texts merged, part 7 of 8. The last part proves that the law RootClears holds for every input. -/
import Derived.Test.YtklhbaghbmndeaaPkRootClears6
import Derived.ProofKit
import Derived.OpenShut
import Derived.ChangeOld
import Derived.Below
import Derived.SizedLaws
import Derived.WalkKit
set_option maxRecDepth 100000
set_option maxHeartbeats 4000000
set_option linter.unusedVariables false
set_option linter.unusedSimpArgs false
namespace Go.Proofs.Ytklhbaghbmndeaa
open Go Go.Xw
def rickyardref13_Put.s0 (fu : Nat) (a0 : S_api_Super) : ((List UInt8) × Int) → Option (Sum (List UInt8) ((List UInt8) × Int)) := fun s44 => (if (decide (s44.2 < (List.length a0.Charts : Int))) = true then (if 0 ≤ s44.2 ∧ s44.2 < (List.length a0.Charts : Int) then ((rickyardref01_Lay.f fu (IntKind.u64.wrap (ix a0.Charts s44.2)) 2).bind fun t53 => (if List.length s44.1 + List.length t53 ≤ LIM then some (Sum.inr ((s44.1 ++ t53), (IntKind.i64.wrap (s44.2 + 1)))) else none)) else none) else some (Sum.inl (s44.1)))
def rickyardref13_Put.f (fu : Nat) (a0 : S_api_Super) : Option (List UInt8) := ((rickyardref01_Lay.f fu (IntKind.u64.wrap a0.Epoch) 8).bind fun t7 => ((rickyardref01_Lay.f fu (IntKind.u64.wrap a0.Tickets.Geometry.Blocks) 4).bind fun t10 => (if List.length t7 + List.length t10 ≤ LIM then ((rickyardref01_Lay.f fu (IntKind.u64.wrap a0.Tickets.Geometry.Slots) 4).bind fun t14 => (if List.length (t7 ++ t10) + List.length t14 ≤ LIM then ((rickyardref01_Lay.f fu (IntKind.u64.wrap a0.Tickets.Geometry.Gens) 4).bind fun t18 => (if List.length ((t7 ++ t10) ++ t14) + List.length t18 ≤ LIM then ((rickyardref01_Lay.f fu (IntKind.u64.wrap a0.Tickets.High) 4).bind fun t22 => (if List.length (((t7 ++ t10) ++ t14) ++ t18) + List.length t22 ≤ LIM then ((rickyardref01_Lay.f fu (IntKind.u64.wrap a0.Tickets.Free) 4).bind fun t26 => (if List.length ((((t7 ++ t10) ++ t14) ++ t18) ++ t22) + List.length t26 ≤ LIM then ((rickyardref01_Lay.f fu (IntKind.u64.wrap a0.Tickets.Top) 2).bind fun t33 => (if List.length (((((t7 ++ t10) ++ t14) ++ t18) ++ t22) ++ t26) + List.length t33 ≤ LIM then ((rickyardref01_Lay.f fu (IntKind.u64.wrap a0.Dir) 2).bind fun t37 => (if List.length ((((((t7 ++ t10) ++ t14) ++ t18) ++ t22) ++ t26) ++ t33) + List.length t37 ≤ LIM then ((loopM (rickyardref13_Put.s0 fu a0) fu ((((((((t7 ++ t10) ++ t14) ++ t18) ++ t22) ++ t26) ++ t33) ++ t37), 0)).bind fun e45 => ((rickyardref07_Seal.f fu 7 (List.length a0.Charts : Int) e45).bind fun t60 => some (t60))) else none)) else none)) else none)) else none)) else none)) else none)) else none)))
theorem rickyardref13_Put.ok (fu : Nat) (w : World) (a0 : S_api_Super) (V0_0 : Value) (R0_0 : Rd (kI .i64) w V0_0 a0.Charts) (r : (List UInt8)) (h : rickyardref13_Put.f fu a0 = some r) :
  Calls Try.prog 76 (([aggV [(sI a0.Epoch), (sI a0.Tickets.Geometry.Blocks), (sI a0.Tickets.Geometry.Slots), (sI a0.Tickets.Geometry.Gens), (sI a0.Tickets.Top), (sI a0.Tickets.High), (sI a0.Tickets.Free), (sI a0.Dir), Seg.cell V0_0 R0_0.one]] : List Value).toArray) w (fun e w' => ∃ v, e = .returned v ∧ v = sv r ∧ Gr w w') := by
 unfold rickyardref13_Put.f at h
 have fB : Gr w w := Fr.refl _ _
 refine calls_cw Try.func76 rfl Try.ntmps76 rfl ?_
 refine cw_seq ?_
 refine cw_region ?_
 refine ol_op (opv_box (ss := [(sI a0.Epoch), (sI a0.Tickets.Geometry.Blocks), (sI a0.Tickets.Geometry.Slots), (sI a0.Tickets.Geometry.Gens), (sI a0.Tickets.Top), (sI a0.Tickets.High), (sI a0.Tickets.Free), (sI a0.Dir), Seg.cell V0_0 R0_0.one]) rfl rfl rfl) rfl rfl rfl ?_
 rintro _ w6 ⟨G1, rfl, b2, q3, z4⟩
 have z4 := Nat.le_trans fB.size z4
 have fB := fB.gr q3
 refine ol_val (v := sv []) (xr_assign rfl rfl) rfl rfl rfl ?_
 refine ol_nil ?_
 refine cw_seq ?_
 obtain ⟨t7, k8, h⟩ := bs h
 obtain ⟨t10, k11, h⟩ := bs h
 obtain ⟨g13, h⟩ := gs h
 obtain ⟨t14, k15, h⟩ := bs h
 obtain ⟨g17, h⟩ := gs h
 obtain ⟨t18, k19, h⟩ := bs h
 obtain ⟨g21, h⟩ := gs h
 obtain ⟨t22, k23, h⟩ := bs h
 obtain ⟨g25, h⟩ := gs h
 obtain ⟨t26, k27, h⟩ := bs h
 refine cw_drawL 36 [fun vz wz => vz = ((pt G1 0) : Value), fun vz wz => vz = (.int .i64 a0.Epoch : Value), fun vz wz => vz = (.int .u64 (IntKind.u64.wrap a0.Epoch) : Value), fun vz wz => vz = (sv t7 : Value), fun vz wz => vz = ((pt G1 1) : Value), fun vz wz => vz = ((pt G1 1) : Value), fun vz wz => vz = ((pt G1 1) : Value), fun vz wz => vz = (.int .i64 a0.Tickets.Geometry.Blocks : Value), fun vz wz => vz = (.int .u64 (IntKind.u64.wrap a0.Tickets.Geometry.Blocks) : Value), fun vz wz => vz = (sv t10 : Value), fun vz wz => vz = (sv (t7 ++ t10) : Value), fun vz wz => vz = ((pt G1 1) : Value), fun vz wz => vz = ((pt G1 1) : Value), fun vz wz => vz = ((pt G1 2) : Value), fun vz wz => vz = (.int .i64 a0.Tickets.Geometry.Slots : Value), fun vz wz => vz = (.int .u64 (IntKind.u64.wrap a0.Tickets.Geometry.Slots) : Value), fun vz wz => vz = (sv t14 : Value), fun vz wz => vz = (sv ((t7 ++ t10) ++ t14) : Value), fun vz wz => vz = ((pt G1 1) : Value), fun vz wz => vz = ((pt G1 1) : Value), fun vz wz => vz = ((pt G1 3) : Value), fun vz wz => vz = (.int .i64 a0.Tickets.Geometry.Gens : Value), fun vz wz => vz = (.int .u64 (IntKind.u64.wrap a0.Tickets.Geometry.Gens) : Value), fun vz wz => vz = (sv t18 : Value), fun vz wz => vz = (sv (((t7 ++ t10) ++ t14) ++ t18) : Value), fun vz wz => vz = ((pt G1 1) : Value), fun vz wz => vz = ((pt G1 5) : Value), fun vz wz => vz = (.int .i64 a0.Tickets.High : Value), fun vz wz => vz = (.int .u64 (IntKind.u64.wrap a0.Tickets.High) : Value), fun vz wz => vz = (sv t22 : Value), fun vz wz => vz = (sv ((((t7 ++ t10) ++ t14) ++ t18) ++ t22) : Value), fun vz wz => vz = ((pt G1 1) : Value), fun vz wz => vz = ((pt G1 6) : Value), fun vz wz => vz = (.int .i64 a0.Tickets.Free : Value), fun vz wz => vz = (.int .u64 (IntKind.u64.wrap a0.Tickets.Free) : Value), fun vz wz => vz = (sv t26 : Value)] mo rfl ⟨fun _ _ _ h _ => h, fun _ _ _ h _ => h, fun _ _ _ h _ => h, fun _ _ _ h _ => h, fun _ _ _ h _ => h, fun _ _ _ h _ => h, fun _ _ _ h _ => h, fun _ _ _ h _ => h, fun _ _ _ h _ => h, fun _ _ _ h _ => h, fun _ _ _ h _ => h, fun _ _ _ h _ => h, fun _ _ _ h _ => h, fun _ _ _ h _ => h, fun _ _ _ h _ => h, fun _ _ _ h _ => h, fun _ _ _ h _ => h, fun _ _ _ h _ => h, fun _ _ _ h _ => h, fun _ _ _ h _ => h, fun _ _ _ h _ => h, fun _ _ _ h _ => h, fun _ _ _ h _ => h, fun _ _ _ h _ => h, fun _ _ _ h _ => h, fun _ _ _ h _ => h, fun _ _ _ h _ => h, fun _ _ _ h _ => h, fun _ _ _ h _ => h, fun _ _ _ h _ => h, fun _ _ _ h _ => h, fun _ _ _ h _ => h, fun _ _ _ h _ => h, fun _ _ _ h _ => h, fun _ _ _ h _ => h, fun _ _ _ h _ => h, trivial⟩ ?_ ?_
 ·refine ⟨?_, ?_, ?_, ?_, ?_, ?_, ?_, ?_, ?_, ?_, ?_, ?_, ?_, ?_, ?_, ?_, ?_, ?_, ?_, ?_, ?_, ?_, ?_, ?_, ?_, ?_, ?_, ?_, ?_, ?_, ?_, ?_, ?_, ?_, ?_, ?_, trivial⟩
  ·intro ρz wz hz hk hd
   exact sk_val (v := (pt G1 0)) (xr_fieldAddr (p := 0) (q := 0) rfl fl110_0 ((hk 1 rfl).trans rfl)) rfl rfl
  ·intro ρz wz hz hk hd
   exact sk_val (v := .int .i64 a0.Epoch) (xr_load1 (v := .int .i64 a0.Epoch) rfl ag3 (hd 0 rfl 5 rfl) ((b2.gr hz).seg 0 rfl rfl)) rfl rfl
  ·intro ρz wz hz hk hd
   exact sk_val (v := .int .u64 (IntKind.u64.wrap a0.Epoch)) (xr_conv rfl Try.underlying3 Try.underlying22 (hd 1 rfl 6 rfl)) rfl rfl
  ·intro ρz wz hz hk hd
   refine sk_op (opv_call rfl cal117 (ac (hd 2 rfl 7 rfl) (ac rfl an)) (rickyardref01_Lay.ok fu _ (IntKind.u64.wrap a0.Epoch) 8 _ k8)) rfl ?_
   rintro _ wy ⟨rfl, q9⟩
   exact ⟨rfl, q9⟩
  ·intro ρz wz hz hk hd
   exact sk_val (v := (pt G1 1)) (xr_fieldAddr (p := 0) (q := 1) rfl fl110_1 ((hk 1 rfl).trans rfl)) rfl rfl
  ·intro ρz wz hz hk hd
   exact sk_val (v := (pt G1 1)) (xr_fieldAddr (p := 1) (q := 0) rfl fl108_0 (hd 4 rfl 9 rfl)) rfl rfl
  ·intro ρz wz hz hk hd
   exact sk_val (v := (pt G1 1)) (xr_fieldAddr (p := 1) (q := 0) rfl fl106_0 (hd 5 rfl 10 rfl)) rfl rfl
  ·intro ρz wz hz hk hd
   exact sk_val (v := .int .i64 a0.Tickets.Geometry.Blocks) (xr_load1 (v := .int .i64 a0.Tickets.Geometry.Blocks) rfl ag3 (hd 6 rfl 11 rfl) ((b2.gr hz).seg 1 rfl rfl)) rfl rfl
  ·intro ρz wz hz hk hd
   exact sk_val (v := .int .u64 (IntKind.u64.wrap a0.Tickets.Geometry.Blocks)) (xr_conv rfl Try.underlying3 Try.underlying22 (hd 7 rfl 12 rfl)) rfl rfl
  ·intro ρz wz hz hk hd
   refine sk_op (opv_call rfl cal117 (ac (hd 8 rfl 13 rfl) (ac rfl an)) (rickyardref01_Lay.ok fu _ (IntKind.u64.wrap a0.Tickets.Geometry.Blocks) 4 _ k11)) rfl ?_
   rintro _ wy ⟨rfl, q12⟩
   exact ⟨rfl, q12⟩
  ·intro ρz wz hz hk hd
   exact sk_val (v := sv (t7 ++ t10)) (xr_addStr rfl (hd 3 rfl 8 rfl) (hd 9 rfl 14 rfl) g13) rfl rfl
  ·intro ρz wz hz hk hd
   exact sk_val (v := (pt G1 1)) (xr_fieldAddr (p := 0) (q := 1) rfl fl110_1 ((hk 1 rfl).trans rfl)) rfl rfl
  ·intro ρz wz hz hk hd
   exact sk_val (v := (pt G1 1)) (xr_fieldAddr (p := 1) (q := 0) rfl fl108_0 (hd 11 rfl 16 rfl)) rfl rfl
  ·intro ρz wz hz hk hd
   exact sk_val (v := (pt G1 2)) (xr_fieldAddr (p := 1) (q := 1) rfl fl106_1 (hd 12 rfl 17 rfl)) rfl rfl
  ·intro ρz wz hz hk hd
   exact sk_val (v := .int .i64 a0.Tickets.Geometry.Slots) (xr_load1 (v := .int .i64 a0.Tickets.Geometry.Slots) rfl ag3 (hd 13 rfl 18 rfl) ((b2.gr hz).seg 2 rfl rfl)) rfl rfl
  ·intro ρz wz hz hk hd
   exact sk_val (v := .int .u64 (IntKind.u64.wrap a0.Tickets.Geometry.Slots)) (xr_conv rfl Try.underlying3 Try.underlying22 (hd 14 rfl 19 rfl)) rfl rfl
  ·intro ρz wz hz hk hd
   refine sk_op (opv_call rfl cal117 (ac (hd 15 rfl 20 rfl) (ac rfl an)) (rickyardref01_Lay.ok fu _ (IntKind.u64.wrap a0.Tickets.Geometry.Slots) 4 _ k15)) rfl ?_
   rintro _ wy ⟨rfl, q16⟩
   exact ⟨rfl, q16⟩
  ·intro ρz wz hz hk hd
   exact sk_val (v := sv ((t7 ++ t10) ++ t14)) (xr_addStr rfl (hd 10 rfl 15 rfl) (hd 16 rfl 21 rfl) g17) rfl rfl
  ·intro ρz wz hz hk hd
   exact sk_val (v := (pt G1 1)) (xr_fieldAddr (p := 0) (q := 1) rfl fl110_1 ((hk 1 rfl).trans rfl)) rfl rfl
  ·intro ρz wz hz hk hd
   exact sk_val (v := (pt G1 1)) (xr_fieldAddr (p := 1) (q := 0) rfl fl108_0 (hd 18 rfl 23 rfl)) rfl rfl
  ·intro ρz wz hz hk hd
   exact sk_val (v := (pt G1 3)) (xr_fieldAddr (p := 1) (q := 2) rfl fl106_2 (hd 19 rfl 24 rfl)) rfl rfl
  ·intro ρz wz hz hk hd
   exact sk_val (v := .int .i64 a0.Tickets.Geometry.Gens) (xr_load1 (v := .int .i64 a0.Tickets.Geometry.Gens) rfl ag3 (hd 20 rfl 25 rfl) ((b2.gr hz).seg 3 rfl rfl)) rfl rfl
  ·intro ρz wz hz hk hd
   exact sk_val (v := .int .u64 (IntKind.u64.wrap a0.Tickets.Geometry.Gens)) (xr_conv rfl Try.underlying3 Try.underlying22 (hd 21 rfl 26 rfl)) rfl rfl
  ·intro ρz wz hz hk hd
   refine sk_op (opv_call rfl cal117 (ac (hd 22 rfl 27 rfl) (ac rfl an)) (rickyardref01_Lay.ok fu _ (IntKind.u64.wrap a0.Tickets.Geometry.Gens) 4 _ k19)) rfl ?_
   rintro _ wy ⟨rfl, q20⟩
   exact ⟨rfl, q20⟩
  ·intro ρz wz hz hk hd
   exact sk_val (v := sv (((t7 ++ t10) ++ t14) ++ t18)) (xr_addStr rfl (hd 17 rfl 22 rfl) (hd 23 rfl 28 rfl) g21) rfl rfl
  ·intro ρz wz hz hk hd
   exact sk_val (v := (pt G1 1)) (xr_fieldAddr (p := 0) (q := 1) rfl fl110_1 ((hk 1 rfl).trans rfl)) rfl rfl
  ·intro ρz wz hz hk hd
   exact sk_val (v := (pt G1 5)) (xr_fieldAddr (p := 1) (q := 4) rfl fl108_2 (hd 25 rfl 30 rfl)) rfl rfl
  ·intro ρz wz hz hk hd
   exact sk_val (v := .int .i64 a0.Tickets.High) (xr_load1 (v := .int .i64 a0.Tickets.High) rfl ag3 (hd 26 rfl 31 rfl) ((b2.gr hz).seg 5 rfl rfl)) rfl rfl
  ·intro ρz wz hz hk hd
   exact sk_val (v := .int .u64 (IntKind.u64.wrap a0.Tickets.High)) (xr_conv rfl Try.underlying3 Try.underlying22 (hd 27 rfl 32 rfl)) rfl rfl
  ·intro ρz wz hz hk hd
   refine sk_op (opv_call rfl cal117 (ac (hd 28 rfl 33 rfl) (ac rfl an)) (rickyardref01_Lay.ok fu _ (IntKind.u64.wrap a0.Tickets.High) 4 _ k23)) rfl ?_
   rintro _ wy ⟨rfl, q24⟩
   exact ⟨rfl, q24⟩
  ·intro ρz wz hz hk hd
   exact sk_val (v := sv ((((t7 ++ t10) ++ t14) ++ t18) ++ t22)) (xr_addStr rfl (hd 24 rfl 29 rfl) (hd 29 rfl 34 rfl) g25) rfl rfl
  ·intro ρz wz hz hk hd
   exact sk_val (v := (pt G1 1)) (xr_fieldAddr (p := 0) (q := 1) rfl fl110_1 ((hk 1 rfl).trans rfl)) rfl rfl
  ·intro ρz wz hz hk hd
   exact sk_val (v := (pt G1 6)) (xr_fieldAddr (p := 1) (q := 5) rfl fl108_3 (hd 31 rfl 36 rfl)) rfl rfl
  ·intro ρz wz hz hk hd
   exact sk_val (v := .int .i64 a0.Tickets.Free) (xr_load1 (v := .int .i64 a0.Tickets.Free) rfl ag3 (hd 32 rfl 37 rfl) ((b2.gr hz).seg 6 rfl rfl)) rfl rfl
  ·intro ρz wz hz hk hd
   exact sk_val (v := .int .u64 (IntKind.u64.wrap a0.Tickets.Free)) (xr_conv rfl Try.underlying3 Try.underlying22 (hd 33 rfl 38 rfl)) rfl rfl
  intro ρz wz hz hk hd
  refine sk_op (opv_call rfl cal117 (ac (hd 34 rfl 39 rfl) (ac rfl an)) (rickyardref01_Lay.ok fu _ (IntKind.u64.wrap a0.Tickets.Free) 4 _ k27)) rfl ?_
  rintro _ wy ⟨rfl, q28⟩
  exact ⟨rfl, q28⟩
 intro ρ29 w30 q31 hk hd
 have e1 := (hk 1 rfl).trans rfl
 have e35 := hd 30 rfl 35 rfl
 have e40 := hd 35 rfl 40 rfl
 have b2 := b2.gr q31
 have fB := fB.gr q31
 obtain ⟨g32, h⟩ := gs h
 refine ol_val (v := sv (((((t7 ++ t10) ++ t14) ++ t18) ++ t22) ++ t26)) (xr_addStr rfl e35 e40 g32) rfl rfl rfl ?_
 refine ol_val (v := sv (((((t7 ++ t10) ++ t14) ++ t18) ++ t22) ++ t26)) (xr_assign rfl rfl) rfl rfl rfl ?_
 refine ol_nil ?_
 refine cw_seq ?_
 obtain ⟨t33, k34, h⟩ := bs h
 obtain ⟨g36, h⟩ := gs h
 obtain ⟨t37, k38, h⟩ := bs h
 refine cw_drawL 11 [fun vz wz => vz = (sv (((((t7 ++ t10) ++ t14) ++ t18) ++ t22) ++ t26) : Value), fun vz wz => vz = ((pt G1 1) : Value), fun vz wz => vz = ((pt G1 4) : Value), fun vz wz => vz = (.int .i64 a0.Tickets.Top : Value), fun vz wz => vz = (.int .u64 (IntKind.u64.wrap a0.Tickets.Top) : Value), fun vz wz => vz = (sv t33 : Value), fun vz wz => vz = (sv ((((((t7 ++ t10) ++ t14) ++ t18) ++ t22) ++ t26) ++ t33) : Value), fun vz wz => vz = ((pt G1 7) : Value), fun vz wz => vz = (.int .i64 a0.Dir : Value), fun vz wz => vz = (.int .u64 (IntKind.u64.wrap a0.Dir) : Value), fun vz wz => vz = (sv t37 : Value)] mo rfl ⟨fun _ _ _ h _ => h, fun _ _ _ h _ => h, fun _ _ _ h _ => h, fun _ _ _ h _ => h, fun _ _ _ h _ => h, fun _ _ _ h _ => h, fun _ _ _ h _ => h, fun _ _ _ h _ => h, fun _ _ _ h _ => h, fun _ _ _ h _ => h, fun _ _ _ h _ => h, trivial⟩ ?_ ?_
 ·refine ⟨?_, ?_, ?_, ?_, ?_, ?_, ?_, ?_, ?_, ?_, ?_, trivial⟩
  ·intro ρz wz hz hk hd
   exact sk_val (v := sv (((((t7 ++ t10) ++ t14) ++ t18) ++ t22) ++ t26)) (xr_move rfl ((hk 3 rfl).trans rfl)) rfl rfl
  ·intro ρz wz hz hk hd
   exact sk_val (v := (pt G1 1)) (xr_fieldAddr (p := 0) (q := 1) rfl fl110_1 ((hk 1 rfl).trans e1)) rfl rfl
  ·intro ρz wz hz hk hd
   exact sk_val (v := (pt G1 4)) (xr_fieldAddr (p := 1) (q := 3) rfl fl108_1 (hd 1 rfl 43 rfl)) rfl rfl
  ·intro ρz wz hz hk hd
   exact sk_val (v := .int .i64 a0.Tickets.Top) (xr_load1 (v := .int .i64 a0.Tickets.Top) rfl ag3 (hd 2 rfl 44 rfl) ((b2.gr hz).seg 4 rfl rfl)) rfl rfl
  ·intro ρz wz hz hk hd
   exact sk_val (v := .int .u64 (IntKind.u64.wrap a0.Tickets.Top)) (xr_conv rfl Try.underlying3 Try.underlying22 (hd 3 rfl 45 rfl)) rfl rfl
  ·intro ρz wz hz hk hd
   refine sk_op (opv_call rfl cal117 (ac (hd 4 rfl 46 rfl) (ac rfl an)) (rickyardref01_Lay.ok fu _ (IntKind.u64.wrap a0.Tickets.Top) 2 _ k34)) rfl ?_
   rintro _ wy ⟨rfl, q35⟩
   exact ⟨rfl, q35⟩
  ·intro ρz wz hz hk hd
   exact sk_val (v := sv ((((((t7 ++ t10) ++ t14) ++ t18) ++ t22) ++ t26) ++ t33)) (xr_addStr rfl (hd 0 rfl 42 rfl) (hd 5 rfl 47 rfl) g36) rfl rfl
  ·intro ρz wz hz hk hd
   exact sk_val (v := (pt G1 7)) (xr_fieldAddr (p := 0) (q := 7) rfl fl110_2 ((hk 1 rfl).trans e1)) rfl rfl
  ·intro ρz wz hz hk hd
   exact sk_val (v := .int .i64 a0.Dir) (xr_load1 (v := .int .i64 a0.Dir) rfl ag3 (hd 7 rfl 49 rfl) ((b2.gr hz).seg 7 rfl rfl)) rfl rfl
  ·intro ρz wz hz hk hd
   exact sk_val (v := .int .u64 (IntKind.u64.wrap a0.Dir)) (xr_conv rfl Try.underlying3 Try.underlying22 (hd 8 rfl 50 rfl)) rfl rfl
  intro ρz wz hz hk hd
  refine sk_op (opv_call rfl cal117 (ac (hd 9 rfl 51 rfl) (ac rfl an)) (rickyardref01_Lay.ok fu _ (IntKind.u64.wrap a0.Dir) 2 _ k38)) rfl ?_
  rintro _ wy ⟨rfl, q39⟩
  exact ⟨rfl, q39⟩
 intro ρ40 w41 q42 hk hd
 have e1 := (hk 1 rfl).trans e1
 have e48 := hd 6 rfl 48 rfl
 have e52 := hd 10 rfl 52 rfl
 have b2 := b2.gr q42
 have fB := fB.gr q42
 obtain ⟨g43, h⟩ := gs h
 refine ol_val (v := sv (((((((t7 ++ t10) ++ t14) ++ t18) ++ t22) ++ t26) ++ t33) ++ t37)) (xr_addStr rfl e48 e52 g43) rfl rfl rfl ?_
 refine ol_val (v := sv (((((((t7 ++ t10) ++ t14) ++ t18) ++ t22) ++ t26) ++ t33) ++ t37)) (xr_assign rfl rfl) rfl rfl rfl ?_
 refine ol_nil ?_
 refine cw_seq ?_
 refine cw_seq ?_
 refine cw_region ?_
 refine ol_val (v := .int .i64 0) (xr_assign rfl rfl) rfl rfl rfl ?_
 refine ol_nil ?_
 obtain ⟨e45, l46, h47⟩ := bs h
 refine cw_mid (fun ρ' w' => ρ' 1 = (pt G1 0) ∧ ρ' 3 = sv e45 ∧ Blk w' G1 110 [(sI a0.Epoch), (sI a0.Tickets.Geometry.Blocks), (sI a0.Tickets.Geometry.Slots), (sI a0.Tickets.Geometry.Gens), (sI a0.Tickets.Top), (sI a0.Tickets.High), (sI a0.Tickets.Free), (sI a0.Dir), Seg.cell V0_0 R0_0.one] ∧ Gr w w') ?_ ?_
 ·refine cw_block ?_
  refine cw_round (fun (s44 : (List UInt8) × Int) ρ' w' => ρ' 1 = (pt G1 0) ∧ ρ' 3 = sv s44.1 ∧ ρ' 4 = .int .i64 s44.2 ∧ Blk w' G1 110 [(sI a0.Epoch), (sI a0.Tickets.Geometry.Blocks), (sI a0.Tickets.Geometry.Slots), (sI a0.Tickets.Geometry.Gens), (sI a0.Tickets.Top), (sI a0.Tickets.High), (sI a0.Tickets.Free), (sI a0.Dir), Seg.cell V0_0 R0_0.one] ∧ Gr w w') l46 ?_ ?_
  ·skip
   exact ⟨e1, rfl, rfl, b2, fB⟩
  rintro s44 x50 ρ48 w49 ⟨e1, e3, e4, b2, fB⟩ h
  unfold rickyardref13_Put.s0 at h
  refine cw_seq ?_
  refine cw_seq ?_
  refine cw_region ?_
  refine ol_val (v := .int .i64 s44.2) (xr_move rfl e4) rfl rfl rfl ?_
  refine ol_val (v := (pt G1 8)) (xr_fieldAddr (p := 0) (q := 8) rfl fl110_3 e1) rfl rfl rfl ?_
  refine ol_val (v := V0_0) (xr_load1 (v := V0_0) rfl ag25 rfl (b2.seg 8 rfl rfl)) rfl rfl rfl ?_
  refine ol_val (v := .int .i64 (List.length a0.Charts : Int)) (xr_lenR rfl Try.underlying25 rfl (R0_0.gr fB)) rfl rfl rfl ?_
  refine ol_val (v := .bool (decide (s44.2 < (List.length a0.Charts : Int)))) (xr_lss rfl rfl rfl) rfl rfl rfl ?_
  refine ol_nil ?_
  rcases is h with ⟨c51, h⟩ | ⟨c51, h⟩
  ·refine cw_condT rfl c51 ?_
   refine cw_skip ?_
   refine cw_seq ?_
   refine cw_block ?_
   refine cw_region ?_
   refine ol_val (v := sv s44.1) (xr_move rfl e3) rfl rfl rfl ?_
   refine ol_val (v := (pt G1 8)) (xr_fieldAddr (p := 0) (q := 8) rfl fl110_3 e1) rfl rfl rfl ?_
   refine ol_val (v := V0_0) (xr_load1 (v := V0_0) rfl ag25 rfl (b2.seg 8 rfl rfl)) rfl rfl rfl ?_
   refine ol_val (v := .int .i64 s44.2) (xr_move rfl e4) rfl rfl rfl ?_
   obtain ⟨g52, h⟩ := gs h
   refine ol_val (v := (pt ((sb V0_0)) (so V0_0 + Int.toNat s44.2 * 1))) (xr_indexR (K := (kI .i64)) (v := V0_0) rfl Try.underlying25 sz3 rfl (R0_0.gr fB) rfl g52.1 g52.2) rfl rfl rfl ?_
   refine ol_val (v := .int .i64 (ix a0.Charts s44.2)) (xr_load1 (v := .int .i64 (ix a0.Charts s44.2)) rfl ag3 rfl ((R0_0.gr fB).elem g52.1 g52.2)) rfl rfl rfl ?_
   refine ol_val (v := .int .u64 (IntKind.u64.wrap (ix a0.Charts s44.2))) (xr_conv rfl Try.underlying3 Try.underlying22 rfl) rfl rfl rfl ?_
   obtain ⟨t53, k54, h⟩ := bs h
   refine ol_op (opv_call rfl cal117 (ac rfl (ac rfl an)) (rickyardref01_Lay.ok fu _ (IntKind.u64.wrap (ix a0.Charts s44.2)) 2 _ k54)) rfl rfl rfl ?_
   rintro _ w56 ⟨rfl, q55⟩
   have b2 := b2.gr q55
   have fB := fB.gr q55
   obtain ⟨g57, h⟩ := gs h
   refine ol_val (v := sv (s44.1 ++ t53)) (xr_addStr rfl rfl rfl g57) rfl rfl rfl ?_
   refine ol_val (v := sv (s44.1 ++ t53)) (xr_assign rfl rfl) rfl rfl rfl ?_
   refine ol_nil ?_
   refine blk_i ?_
   refine cw_region ?_
   refine ol_val (v := .int .i64 s44.2) (xr_move rfl e4) rfl rfl rfl ?_
   refine ol_val (v := .int .i64 (IntKind.i64.wrap (s44.2 + 1))) (xr_add rfl rfl rfl) rfl rfl rfl ?_
   refine ol_val (v := .int .i64 (IntKind.i64.wrap (s44.2 + 1))) (xr_assign rfl rfl) rfl rfl rfl ?_
   refine ol_nil ?_
   obtain rfl := Option.some.inj h
   refine lp_in ?_
   exact ⟨e1, rfl, rfl, b2, fB⟩
  refine cw_condF rfl c51 ?_
  refine cw_exit ?_
  repeat (first | with_reducible refine thn_e ?_ | with_reducible refine blk_e rfl ?_)
  obtain rfl := Option.some.inj h
  refine lp_exit ?_
  rintro rfl
  refine thn_x ?_
  exact ⟨e1, e3, b2, fB⟩
 rintro ρ58 w59 ⟨e1, e3, b2, fB⟩
 have h := h47
 refine cw_seq ?_
 refine cw_region ?_
 refine ol_val (v := (pt G1 8)) (xr_fieldAddr (p := 0) (q := 8) rfl fl110_3 e1) rfl rfl rfl ?_
 refine ol_val (v := V0_0) (xr_load1 (v := V0_0) rfl ag25 rfl (b2.seg 8 rfl rfl)) rfl rfl rfl ?_
 refine ol_val (v := .int .i64 (List.length a0.Charts : Int)) (xr_lenR rfl Try.underlying25 rfl (R0_0.gr fB)) rfl rfl rfl ?_
 refine ol_val (v := sv e45) (xr_move rfl e3) rfl rfl rfl ?_
 obtain ⟨t60, k61, h⟩ := bs h
 refine ol_op (opv_call rfl cal118 (ac rfl (ac rfl (ac rfl an))) (rickyardref07_Seal.ok fu _ 7 (List.length a0.Charts : Int) e45 _ k61)) rfl rfl rfl ?_
 rintro _ w63 ⟨rfl, q62⟩
 have fB := fB.gr q62
 refine ol_val (v := sv t60) (xr_assign rfl rfl) rfl rfl rfl ?_
 refine ol_nil ?_
 refine cw_ret ?_
 repeat (first | with_reducible refine thn_r ?_ | with_reducible refine blk_r ?_)
 obtain rfl := Option.some.inj h
 refine fin_ret1 Try.results76 rfl ?_
 exact ⟨_, rfl, rfl, fB⟩
def rickyardref07_Open.f (fu : Nat) (a0 : List Int) : Option (Int × Int × (List UInt8) × Bool) := (((if (!decide ((List.length a0 : Int) = 64)) = true then some (true) else (if (4 : Int) < (List.length a0 : Int) then (if (decide ((ix a0 4) = 0)) = true then some (true) else (if (4 : Int) < (List.length a0 : Int) then (if (5 : Int) < (List.length a0 : Int) then (if (8 : Int) ≤ (List.length a0 : Int) then ((rickyardref07_Seal.f fu (IntKind.i64.wrap (ix a0 4)) (IntKind.i64.wrap (ix a0 5)) (List.map toB (cut a0 8 (List.length a0 : Int)))).bind fun t16 => some ((!decide (t16 = (List.map toB a0))))) else none) else none) else none)) else none)) : Option Bool).bind fun x1 => (if x1 = true then some (0, 0, [], false) else (if (4 : Int) < (List.length a0 : Int) then (if (5 : Int) < (List.length a0 : Int) then (if (8 : Int) ≤ (List.length a0 : Int) then some ((IntKind.i64.wrap (ix a0 4)), (IntKind.i64.wrap (ix a0 5)), (List.map toB (cut a0 8 (List.length a0 : Int))), true) else none) else none) else none)))
theorem rickyardref07_Open.ok (fu : Nat) (w : World) (a0 : List Int) (V0_0 : Value) (R0_0 : Rd (kI .u8) w V0_0 a0) (r : Int × Int × (List UInt8) × Bool) (h : rickyardref07_Open.f fu a0 = some r) :
  Calls Try.prog 134 (([V0_0] : List Value).toArray) w (fun e w' => ∃ v, e = .returned v ∧ v = .tuple #[.int .i64 r.1, .int .i64 r.2.1, sv r.2.2.1, .bool r.2.2.2] ∧ Gr w w') := by
 unfold rickyardref07_Open.f at h
 have fB : Gr w w := Fr.refl _ _
 refine calls_cw Try.func134 rfl Try.ntmps134 rfl ?_
 refine cw_seq ?_
 refine cw_region ?_
 refine ol_val (v := .int .i64 0) (xr_assign rfl rfl) rfl rfl rfl ?_
 refine ol_val (v := .int .i64 0) (xr_assign rfl rfl) rfl rfl rfl ?_
 refine ol_val (v := sv []) (xr_assign rfl rfl) rfl rfl rfl ?_
 refine ol_val (v := .bool false) (xr_assign rfl rfl) rfl rfl rfl ?_
 refine ol_nil ?_
 refine cw_seq ?_
 refine cw_seq ?_
 obtain ⟨x1, j2, h⟩ := bs h
 refine cw_mid (fun ρ' w' => ρ' 0 = V0_0 ∧ ρ' 31 = .bool x1 ∧ Gr w w') ?_ ?_
 ·skip
  rcases is j2 with ⟨c3, j2⟩ | ⟨c3, j2⟩
  ·skip
   refine cw_drawL 25 [fun vz wz => vz = (V0_0 : Value), fun vz wz => vz = (.int .i64 (List.length a0 : Int) : Value), fun vz wz => vz = (.bool (!decide ((List.length a0 : Int) = 64)) : Value), fun vz wz => vz = (.bool (!decide ((List.length a0 : Int) = 64)) : Value), fun vz _ => vz = undef, fun vz _ => vz = undef, fun vz _ => vz = undef, fun vz _ => vz = undef, fun vz wz => vz = (.bool true : Value), fun vz wz => vz = (.bool true : Value), fun vz _ => vz = undef, fun vz _ => vz = undef, fun vz _ => vz = undef, fun vz _ => vz = undef, fun vz _ => vz = undef, fun vz _ => vz = undef, fun vz _ => vz = undef, fun vz _ => vz = undef, fun vz _ => vz = undef, fun vz _ => vz = undef, fun vz _ => vz = undef, fun vz _ => vz = undef, fun vz _ => vz = undef, fun vz _ => vz = undef, fun vz _ => vz = undef] mo rfl ⟨fun _ _ _ h _ => h, fun _ _ _ h _ => h, fun _ _ _ h _ => h, fun _ _ _ h _ => h, fun _ _ _ h _ => h, fun _ _ _ h _ => h, fun _ _ _ h _ => h, fun _ _ _ h _ => h, fun _ _ _ h _ => h, fun _ _ _ h _ => h, fun _ _ _ h _ => h, fun _ _ _ h _ => h, fun _ _ _ h _ => h, fun _ _ _ h _ => h, fun _ _ _ h _ => h, fun _ _ _ h _ => h, fun _ _ _ h _ => h, fun _ _ _ h _ => h, fun _ _ _ h _ => h, fun _ _ _ h _ => h, fun _ _ _ h _ => h, fun _ _ _ h _ => h, fun _ _ _ h _ => h, fun _ _ _ h _ => h, fun _ _ _ h _ => h, trivial⟩ ?_ ?_
   ·refine ⟨?_, ?_, ?_, ?_, ?_, ?_, ?_, ?_, ?_, ?_, ?_, ?_, ?_, ?_, ?_, ?_, ?_, ?_, ?_, ?_, ?_, ?_, ?_, ?_, ?_, trivial⟩
    ·intro ρz wz hz hk hd
     exact sk_val (v := V0_0) (xr_move rfl ((hk 0 rfl).trans rfl)) rfl rfl
    ·intro ρz wz hz hk hd
     exact sk_val (v := .int .i64 (List.length a0 : Int)) (xr_lenR rfl Try.underlying43 (hd 0 rfl 6 rfl) (R0_0.gr (fB.gr hz))) rfl rfl
    ·intro ρz wz hz hk hd
     exact sk_val (v := .bool (!decide ((List.length a0 : Int) = 64))) (xr_neI rfl Try.underlying3 rfl (hd 1 rfl 7 rfl) rfl) rfl rfl
    ·intro ρz wz hz hk hd
     exact sk_val (v := .bool (!decide ((List.length a0 : Int) = 64))) (xr_move rfl (hd 2 rfl 8 rfl)) rfl rfl
    ·intro ρz wz hz hk hd
     exact sk_skip rfl rfl (hd 3 rfl 9 rfl) c3 rfl
    ·intro ρz wz hz hk hd
     exact sk_skip rfl rfl (hd 3 rfl 9 rfl) c3 rfl
    ·intro ρz wz hz hk hd
     exact sk_skip rfl rfl (hd 3 rfl 9 rfl) c3 rfl
    ·intro ρz wz hz hk hd
     exact sk_skip rfl rfl (hd 3 rfl 9 rfl) c3 rfl
    ·intro ρz wz hz hk hd
     exact sk_val (v := .bool true) (xr_pickT rfl (hd 3 rfl 9 rfl) c3 rfl) rfl rfl
    ·intro ρz wz hz hk hd
     exact sk_val (v := .bool true) (xr_move rfl (hd 8 rfl 14 rfl)) rfl rfl
    ·intro ρz wz hz hk hd
     exact sk_skip rfl rfl (hd 9 rfl 15 rfl) rfl rfl
    ·intro ρz wz hz hk hd
     exact sk_skip rfl rfl (hd 9 rfl 15 rfl) rfl rfl
    ·intro ρz wz hz hk hd
     exact sk_skip rfl rfl (hd 9 rfl 15 rfl) rfl rfl
    ·intro ρz wz hz hk hd
     exact sk_skip rfl rfl (hd 9 rfl 15 rfl) rfl rfl
    ·intro ρz wz hz hk hd
     exact sk_skip rfl rfl (hd 9 rfl 15 rfl) rfl rfl
    ·intro ρz wz hz hk hd
     exact sk_skip rfl rfl (hd 9 rfl 15 rfl) rfl rfl
    ·intro ρz wz hz hk hd
     exact sk_skip rfl rfl (hd 9 rfl 15 rfl) rfl rfl
    ·intro ρz wz hz hk hd
     exact sk_skip rfl rfl (hd 9 rfl 15 rfl) rfl rfl
    ·intro ρz wz hz hk hd
     exact sk_skip rfl rfl (hd 9 rfl 15 rfl) rfl rfl
    ·intro ρz wz hz hk hd
     exact sk_skip rfl rfl (hd 9 rfl 15 rfl) rfl rfl
    ·intro ρz wz hz hk hd
     exact sk_skip rfl rfl (hd 9 rfl 15 rfl) rfl rfl
    ·intro ρz wz hz hk hd
     exact sk_skip rfl rfl (hd 9 rfl 15 rfl) rfl rfl
    ·intro ρz wz hz hk hd
     exact sk_skip rfl rfl (hd 9 rfl 15 rfl) rfl rfl
    ·intro ρz wz hz hk hd
     exact sk_skip rfl rfl (hd 9 rfl 15 rfl) rfl rfl
    intro ρz wz hz hk hd
    exact sk_skip rfl rfl (hd 9 rfl 15 rfl) rfl rfl
   intro ρ4 w5 q6 hk hd
   have e0 := (hk 0 rfl).trans rfl
   have e15 := hd 9 rfl 15 rfl
   have fB := fB.gr q6
   refine ol_val (v := .bool true) (xr_pickT rfl e15 rfl rfl) rfl rfl rfl ?_
   refine ol_nil ?_
   obtain rfl := Option.some.inj j2
   refine thn_i ?_
   exact ⟨e0, rfl, q6⟩
  obtain ⟨g7, j2⟩ := gs j2
  rcases is j2 with ⟨c8, j2⟩ | ⟨c8, j2⟩
  ·skip
   refine cw_drawL 25 [fun vz wz => vz = (V0_0 : Value), fun vz wz => vz = (.int .i64 (List.length a0 : Int) : Value), fun vz wz => vz = (.bool (!decide ((List.length a0 : Int) = 64)) : Value), fun vz wz => vz = (.bool (!decide ((List.length a0 : Int) = 64)) : Value), fun vz wz => vz = (V0_0 : Value), fun vz wz => vz = ((pt ((sb V0_0)) (so V0_0 + Int.toNat 4 * 1)) : Value), fun vz wz => vz = (.int .u8 (ix a0 4) : Value), fun vz wz => vz = (.bool (decide ((ix a0 4) = 0)) : Value), fun vz wz => vz = (.bool (decide ((ix a0 4) = 0)) : Value), fun vz wz => vz = (.bool (decide ((ix a0 4) = 0)) : Value), fun vz _ => vz = undef, fun vz _ => vz = undef, fun vz _ => vz = undef, fun vz _ => vz = undef, fun vz _ => vz = undef, fun vz _ => vz = undef, fun vz _ => vz = undef, fun vz _ => vz = undef, fun vz _ => vz = undef, fun vz _ => vz = undef, fun vz _ => vz = undef, fun vz _ => vz = undef, fun vz _ => vz = undef, fun vz _ => vz = undef, fun vz _ => vz = undef] mo rfl ⟨fun _ _ _ h _ => h, fun _ _ _ h _ => h, fun _ _ _ h _ => h, fun _ _ _ h _ => h, fun _ _ _ h _ => h, fun _ _ _ h _ => h, fun _ _ _ h _ => h, fun _ _ _ h _ => h, fun _ _ _ h _ => h, fun _ _ _ h _ => h, fun _ _ _ h _ => h, fun _ _ _ h _ => h, fun _ _ _ h _ => h, fun _ _ _ h _ => h, fun _ _ _ h _ => h, fun _ _ _ h _ => h, fun _ _ _ h _ => h, fun _ _ _ h _ => h, fun _ _ _ h _ => h, fun _ _ _ h _ => h, fun _ _ _ h _ => h, fun _ _ _ h _ => h, fun _ _ _ h _ => h, fun _ _ _ h _ => h, fun _ _ _ h _ => h, trivial⟩ ?_ ?_
   ·refine ⟨?_, ?_, ?_, ?_, ?_, ?_, ?_, ?_, ?_, ?_, ?_, ?_, ?_, ?_, ?_, ?_, ?_, ?_, ?_, ?_, ?_, ?_, ?_, ?_, ?_, trivial⟩
    ·intro ρz wz hz hk hd
     exact sk_val (v := V0_0) (xr_move rfl ((hk 0 rfl).trans rfl)) rfl rfl
    ·intro ρz wz hz hk hd
     exact sk_val (v := .int .i64 (List.length a0 : Int)) (xr_lenR rfl Try.underlying43 (hd 0 rfl 6 rfl) (R0_0.gr (fB.gr hz))) rfl rfl
    ·intro ρz wz hz hk hd
     exact sk_val (v := .bool (!decide ((List.length a0 : Int) = 64))) (xr_neI rfl Try.underlying3 rfl (hd 1 rfl 7 rfl) rfl) rfl rfl
    ·intro ρz wz hz hk hd
     exact sk_val (v := .bool (!decide ((List.length a0 : Int) = 64))) (xr_move rfl (hd 2 rfl 8 rfl)) rfl rfl
    ·intro ρz wz hz hk hd
     exact sk_gval (v := V0_0) (xr_move rfl ((hk 0 rfl).trans rfl)) rfl rfl (hd 3 rfl 9 rfl) c3 rfl
    ·intro ρz wz hz hk hd
     exact sk_gval (xr_indexR (K := (kI .u8)) (v := V0_0) rfl Try.underlying43 sz5 (hd 4 rfl 10 rfl) (R0_0.gr (fB.gr hz)) rfl (by decide) g7) rfl rfl (hd 3 rfl 9 rfl) c3 rfl
    ·intro ρz wz hz hk hd
     exact sk_gval (v := .int .u8 (ix a0 4)) (xr_load1 (v := .int .u8 (ix a0 4)) rfl ag5 (hd 5 rfl 11 rfl) ((R0_0.gr (fB.gr hz)).elem (by decide) g7)) rfl rfl (hd 3 rfl 9 rfl) c3 rfl
    ·intro ρz wz hz hk hd
     exact sk_gval (v := .bool (decide ((ix a0 4) = 0))) (xr_eqI rfl Try.underlying5 rfl (hd 6 rfl 12 rfl) rfl) rfl rfl (hd 3 rfl 9 rfl) c3 rfl
    ·intro ρz wz hz hk hd
     exact sk_val (v := .bool (decide ((ix a0 4) = 0))) (xr_pickF rfl (hd 3 rfl 9 rfl) c3 (hd 7 rfl 13 rfl)) rfl rfl
    ·intro ρz wz hz hk hd
     exact sk_val (v := .bool (decide ((ix a0 4) = 0))) (xr_move rfl (hd 8 rfl 14 rfl)) rfl rfl
    ·intro ρz wz hz hk hd
     exact sk_skip rfl rfl (hd 9 rfl 15 rfl) c8 rfl
    ·intro ρz wz hz hk hd
     exact sk_skip rfl rfl (hd 9 rfl 15 rfl) c8 rfl
    ·intro ρz wz hz hk hd
     exact sk_skip rfl rfl (hd 9 rfl 15 rfl) c8 rfl
    ·intro ρz wz hz hk hd
     exact sk_skip rfl rfl (hd 9 rfl 15 rfl) c8 rfl
    ·intro ρz wz hz hk hd
     exact sk_skip rfl rfl (hd 9 rfl 15 rfl) c8 rfl
    ·intro ρz wz hz hk hd
     exact sk_skip rfl rfl (hd 9 rfl 15 rfl) c8 rfl
    ·intro ρz wz hz hk hd
     exact sk_skip rfl rfl (hd 9 rfl 15 rfl) c8 rfl
    ·intro ρz wz hz hk hd
     exact sk_skip rfl rfl (hd 9 rfl 15 rfl) c8 rfl
    ·intro ρz wz hz hk hd
     exact sk_skip rfl rfl (hd 9 rfl 15 rfl) c8 rfl
    ·intro ρz wz hz hk hd
     exact sk_skip rfl rfl (hd 9 rfl 15 rfl) c8 rfl
    ·intro ρz wz hz hk hd
     exact sk_skip rfl rfl (hd 9 rfl 15 rfl) c8 rfl
    ·intro ρz wz hz hk hd
     exact sk_skip rfl rfl (hd 9 rfl 15 rfl) c8 rfl
    ·intro ρz wz hz hk hd
     exact sk_skip rfl rfl (hd 9 rfl 15 rfl) c8 rfl
    ·intro ρz wz hz hk hd
     exact sk_skip rfl rfl (hd 9 rfl 15 rfl) c8 rfl
    intro ρz wz hz hk hd
    exact sk_skip rfl rfl (hd 9 rfl 15 rfl) c8 rfl
   intro ρ9 w10 q11 hk hd
   have e0 := (hk 0 rfl).trans rfl
   have e15 := hd 9 rfl 15 rfl
   have fB := fB.gr q11
   refine ol_val (v := .bool true) (xr_pickT rfl e15 c8 rfl) rfl rfl rfl ?_
   refine ol_nil ?_
   obtain rfl := Option.some.inj j2
   refine thn_i ?_
   exact ⟨e0, rfl, q11⟩
  obtain ⟨g12, j2⟩ := gs j2
  obtain ⟨g13, j2⟩ := gs j2
  obtain ⟨g15, j2⟩ := gs j2
  obtain ⟨t16, k17, j2⟩ := bs j2
  refine cw_drawL 25 [fun vz wz => vz = (V0_0 : Value), fun vz wz => vz = (.int .i64 (List.length a0 : Int) : Value), fun vz wz => vz = (.bool (!decide ((List.length a0 : Int) = 64)) : Value), fun vz wz => vz = (.bool (!decide ((List.length a0 : Int) = 64)) : Value), fun vz wz => vz = (V0_0 : Value), fun vz wz => vz = ((pt ((sb V0_0)) (so V0_0 + Int.toNat 4 * 1)) : Value), fun vz wz => vz = (.int .u8 (ix a0 4) : Value), fun vz wz => vz = (.bool (decide ((ix a0 4) = 0)) : Value), fun vz wz => vz = (.bool (decide ((ix a0 4) = 0)) : Value), fun vz wz => vz = (.bool (decide ((ix a0 4) = 0)) : Value), fun vz wz => vz = (V0_0 : Value), fun vz wz => vz = ((pt ((sb V0_0)) (so V0_0 + Int.toNat 4 * 1)) : Value), fun vz wz => vz = (.int .u8 (ix a0 4) : Value), fun vz wz => vz = (.int .i64 (IntKind.i64.wrap (ix a0 4)) : Value), fun vz wz => vz = (V0_0 : Value), fun vz wz => vz = ((pt ((sb V0_0)) (so V0_0 + Int.toNat 5 * 1)) : Value), fun vz wz => vz = (.int .u8 (ix a0 5) : Value), fun vz wz => vz = (.int .i64 (IntKind.i64.wrap (ix a0 5)) : Value), fun vz wz => vz = (V0_0 : Value), fun vz wz => ∃ r14 : Rd (kI .u8) wz (subv 1 V0_0 (Int.toNat 8) (List.length a0)) (cut a0 8 (List.length a0 : Int)), vz = (subv 1 V0_0 (Int.toNat 8) (List.length a0) : Value), fun vz wz => vz = (sv (List.map toB (cut a0 8 (List.length a0 : Int))) : Value), fun vz wz => vz = (sv t16 : Value), fun vz wz => vz = (V0_0 : Value), fun vz wz => vz = (sv (List.map toB a0) : Value), fun vz wz => vz = (.bool (!decide (t16 = (List.map toB a0))) : Value)] mo rfl ⟨fun _ _ _ h _ => h, fun _ _ _ h _ => h, fun _ _ _ h _ => h, fun _ _ _ h _ => h, fun _ _ _ h _ => h, fun _ _ _ h _ => h, fun _ _ _ h _ => h, fun _ _ _ h _ => h, fun _ _ _ h _ => h, fun _ _ _ h _ => h, fun _ _ _ h _ => h, fun _ _ _ h _ => h, fun _ _ _ h _ => h, fun _ _ _ h _ => h, fun _ _ _ h _ => h, fun _ _ _ h _ => h, fun _ _ _ h _ => h, fun _ _ _ h _ => h, fun _ _ _ h _ => h, fun _ _ _ ⟨r14, h⟩ q => ⟨r14.gr q, h⟩, fun _ _ _ h _ => h, fun _ _ _ h _ => h, fun _ _ _ h _ => h, fun _ _ _ h _ => h, fun _ _ _ h _ => h, trivial⟩ ?_ ?_
  ·refine ⟨?_, ?_, ?_, ?_, ?_, ?_, ?_, ?_, ?_, ?_, ?_, ?_, ?_, ?_, ?_, ?_, ?_, ?_, ?_, ?_, ?_, ?_, ?_, ?_, ?_, trivial⟩
   ·intro ρz wz hz hk hd
    exact sk_val (v := V0_0) (xr_move rfl ((hk 0 rfl).trans rfl)) rfl rfl
   ·intro ρz wz hz hk hd
    exact sk_val (v := .int .i64 (List.length a0 : Int)) (xr_lenR rfl Try.underlying43 (hd 0 rfl 6 rfl) (R0_0.gr (fB.gr hz))) rfl rfl
   ·intro ρz wz hz hk hd
    exact sk_val (v := .bool (!decide ((List.length a0 : Int) = 64))) (xr_neI rfl Try.underlying3 rfl (hd 1 rfl 7 rfl) rfl) rfl rfl
   ·intro ρz wz hz hk hd
    exact sk_val (v := .bool (!decide ((List.length a0 : Int) = 64))) (xr_move rfl (hd 2 rfl 8 rfl)) rfl rfl
   ·intro ρz wz hz hk hd
    exact sk_gval (v := V0_0) (xr_move rfl ((hk 0 rfl).trans rfl)) rfl rfl (hd 3 rfl 9 rfl) c3 rfl
   ·intro ρz wz hz hk hd
    exact sk_gval (xr_indexR (K := (kI .u8)) (v := V0_0) rfl Try.underlying43 sz5 (hd 4 rfl 10 rfl) (R0_0.gr (fB.gr hz)) rfl (by decide) g7) rfl rfl (hd 3 rfl 9 rfl) c3 rfl
   ·intro ρz wz hz hk hd
    exact sk_gval (v := .int .u8 (ix a0 4)) (xr_load1 (v := .int .u8 (ix a0 4)) rfl ag5 (hd 5 rfl 11 rfl) ((R0_0.gr (fB.gr hz)).elem (by decide) g7)) rfl rfl (hd 3 rfl 9 rfl) c3 rfl
   ·intro ρz wz hz hk hd
    exact sk_gval (v := .bool (decide ((ix a0 4) = 0))) (xr_eqI rfl Try.underlying5 rfl (hd 6 rfl 12 rfl) rfl) rfl rfl (hd 3 rfl 9 rfl) c3 rfl
   ·intro ρz wz hz hk hd
    exact sk_val (v := .bool (decide ((ix a0 4) = 0))) (xr_pickF rfl (hd 3 rfl 9 rfl) c3 (hd 7 rfl 13 rfl)) rfl rfl
   ·intro ρz wz hz hk hd
    exact sk_val (v := .bool (decide ((ix a0 4) = 0))) (xr_move rfl (hd 8 rfl 14 rfl)) rfl rfl
   ·intro ρz wz hz hk hd
    exact sk_gval (v := V0_0) (xr_move rfl ((hk 0 rfl).trans rfl)) rfl rfl (hd 9 rfl 15 rfl) c8 rfl
   ·intro ρz wz hz hk hd
    exact sk_gval (xr_indexR (K := (kI .u8)) (v := V0_0) rfl Try.underlying43 sz5 (hd 10 rfl 16 rfl) (R0_0.gr (fB.gr hz)) rfl (by decide) g12) rfl rfl (hd 9 rfl 15 rfl) c8 rfl
   ·intro ρz wz hz hk hd
    exact sk_gval (v := .int .u8 (ix a0 4)) (xr_load1 (v := .int .u8 (ix a0 4)) rfl ag5 (hd 11 rfl 17 rfl) ((R0_0.gr (fB.gr hz)).elem (by decide) g12)) rfl rfl (hd 9 rfl 15 rfl) c8 rfl
   ·intro ρz wz hz hk hd
    exact sk_gval (v := .int .i64 (IntKind.i64.wrap (ix a0 4))) (xr_conv rfl Try.underlying5 Try.underlying3 (hd 12 rfl 18 rfl)) rfl rfl (hd 9 rfl 15 rfl) c8 rfl
   ·intro ρz wz hz hk hd
    exact sk_gval (v := V0_0) (xr_move rfl ((hk 0 rfl).trans rfl)) rfl rfl (hd 9 rfl 15 rfl) c8 rfl
   ·intro ρz wz hz hk hd
    exact sk_gval (xr_indexR (K := (kI .u8)) (v := V0_0) rfl Try.underlying43 sz5 (hd 14 rfl 20 rfl) (R0_0.gr (fB.gr hz)) rfl (by decide) g13) rfl rfl (hd 9 rfl 15 rfl) c8 rfl
   ·intro ρz wz hz hk hd
    exact sk_gval (v := .int .u8 (ix a0 5)) (xr_load1 (v := .int .u8 (ix a0 5)) rfl ag5 (hd 15 rfl 21 rfl) ((R0_0.gr (fB.gr hz)).elem (by decide) g13)) rfl rfl (hd 9 rfl 15 rfl) c8 rfl
   ·intro ρz wz hz hk hd
    exact sk_gval (v := .int .i64 (IntKind.i64.wrap (ix a0 5))) (xr_conv rfl Try.underlying5 Try.underlying3 (hd 16 rfl 22 rfl)) rfl rfl (hd 9 rfl 15 rfl) c8 rfl
   ·intro ρz wz hz hk hd
    exact sk_gval (v := V0_0) (xr_move rfl ((hk 0 rfl).trans rfl)) rfl rfl (hd 9 rfl 15 rfl) c8 rfl
   ·intro ρz wz hz hk hd
    exact sk_gval (xr_slice_l (K := (kI .u8)) (v := V0_0) rfl Try.underlying43 sz5 (hd 18 rfl 24 rfl) (R0_0.gr (fB.gr hz)) rfl (by decide) g15) rfl rfl (hd 9 rfl 15 rfl) c8 ⟨(R0_0.gr (fB.gr hz)).cut (lo := 8) (hi := (List.length a0 : Int)) (by decide) g15 (Int.le_refl _), rfl⟩
   ·intro ρz wz hz hk hd
    obtain ⟨r14, d25⟩ := hd 19 rfl 25 rfl
    exact sk_gval (v := sv (List.map toB (cut a0 8 (List.length a0 : Int)))) (xr_toStr rfl Try.underlying43 Try.underlying5 Try.underlying9 d25 r14) rfl rfl (hd 9 rfl 15 rfl) c8 rfl
   ·intro ρz wz hz hk hd
    refine sk_gop (opv_call rfl cal118 (ac (hd 13 rfl 19 rfl) (ac (hd 17 rfl 23 rfl) (ac (hd 20 rfl 26 rfl) an))) (rickyardref07_Seal.ok fu _ (IntKind.i64.wrap (ix a0 4)) (IntKind.i64.wrap (ix a0 5)) (List.map toB (cut a0 8 (List.length a0 : Int))) _ k17)) rfl rfl (hd 9 rfl 15 rfl) c8 ?_
    rintro _ wy ⟨rfl, q18⟩
    exact ⟨rfl, q18⟩
   ·intro ρz wz hz hk hd
    exact sk_gval (v := V0_0) (xr_move rfl ((hk 0 rfl).trans rfl)) rfl rfl (hd 9 rfl 15 rfl) c8 rfl
   ·intro ρz wz hz hk hd
    exact sk_gval (v := sv (List.map toB a0)) (xr_toStr rfl Try.underlying43 Try.underlying5 Try.underlying9 (hd 22 rfl 28 rfl) (R0_0.gr (fB.gr hz))) rfl rfl (hd 9 rfl 15 rfl) c8 rfl
   intro ρz wz hz hk hd
   exact sk_gval (v := .bool (!decide (t16 = (List.map toB a0)))) (xr_neStr rfl Try.underlying9 (hd 21 rfl 27 rfl) (hd 23 rfl 29 rfl)) rfl rfl (hd 9 rfl 15 rfl) c8 rfl
  intro ρ19 w20 q21 hk hd
  have e0 := (hk 0 rfl).trans rfl
  have e15 := hd 9 rfl 15 rfl
  have e30 := hd 24 rfl 30 rfl
  have fB := fB.gr q21
  refine ol_val (v := .bool (!decide (t16 = (List.map toB a0)))) (xr_pickF rfl e15 c8 e30) rfl rfl rfl ?_
  refine ol_nil ?_
  obtain rfl := Option.some.inj j2
  refine thn_i ?_
  exact ⟨e0, rfl, q21⟩
 rintro ρ22 w23 ⟨e0, e31, q24⟩
 have fB := fB.gr q24
 rcases is h with ⟨c25, h⟩ | ⟨c25, h⟩
 ·refine cw_condT e31 c25 ?_
  refine cw_seq ?_
  refine cw_region ?_
  refine ol_val (v := .int .i64 0) (xr_assign rfl rfl) rfl rfl rfl ?_
  refine ol_val (v := .int .i64 0) (xr_assign rfl rfl) rfl rfl rfl ?_
  refine ol_val (v := sv []) (xr_assign rfl rfl) rfl rfl rfl ?_
  refine ol_val (v := .bool false) (xr_assign rfl rfl) rfl rfl rfl ?_
  refine ol_nil ?_
  refine cw_ret ?_
  repeat (first | with_reducible refine thn_r ?_ | with_reducible refine blk_r ?_)
  obtain rfl := Option.some.inj h
  refine fin_ret4 Try.results134 rfl rfl rfl rfl ?_
  exact ⟨_, rfl, rfl, fB⟩
 refine cw_condF e31 c25 ?_
 refine cw_skip ?_
 refine cw_seq ?_
 obtain ⟨g26, h⟩ := gs h
 obtain ⟨g27, h⟩ := gs h
 obtain ⟨g29, h⟩ := gs h
 refine cw_drawL 13 [fun vz wz => vz = (V0_0 : Value), fun vz wz => vz = ((pt ((sb V0_0)) (so V0_0 + Int.toNat 4 * 1)) : Value), fun vz wz => vz = (.int .u8 (ix a0 4) : Value), fun vz wz => vz = (.int .i64 (IntKind.i64.wrap (ix a0 4)) : Value), fun vz wz => vz = (V0_0 : Value), fun vz wz => vz = ((pt ((sb V0_0)) (so V0_0 + Int.toNat 5 * 1)) : Value), fun vz wz => vz = (.int .u8 (ix a0 5) : Value), fun vz wz => vz = (.int .i64 (IntKind.i64.wrap (ix a0 5)) : Value), fun vz wz => vz = (V0_0 : Value), fun vz wz => ∃ r28 : Rd (kI .u8) wz (subv 1 V0_0 (Int.toNat 8) (List.length a0)) (cut a0 8 (List.length a0 : Int)), vz = (subv 1 V0_0 (Int.toNat 8) (List.length a0) : Value), fun vz wz => vz = (sv (List.map toB (cut a0 8 (List.length a0 : Int))) : Value), fun vz wz => vz = (.int .i64 (IntKind.i64.wrap (ix a0 4)) : Value), fun vz wz => vz = (.int .i64 (IntKind.i64.wrap (ix a0 5)) : Value)] mo rfl ⟨fun _ _ _ h _ => h, fun _ _ _ h _ => h, fun _ _ _ h _ => h, fun _ _ _ h _ => h, fun _ _ _ h _ => h, fun _ _ _ h _ => h, fun _ _ _ h _ => h, fun _ _ _ h _ => h, fun _ _ _ h _ => h, fun _ _ _ ⟨r28, h⟩ q => ⟨r28.gr q, h⟩, fun _ _ _ h _ => h, fun _ _ _ h _ => h, fun _ _ _ h _ => h, trivial⟩ ?_ ?_
 ·refine ⟨?_, ?_, ?_, ?_, ?_, ?_, ?_, ?_, ?_, ?_, ?_, ?_, ?_, trivial⟩
  ·intro ρz wz hz hk hd
   exact sk_val (v := V0_0) (xr_move rfl ((hk 0 rfl).trans e0)) rfl rfl
  ·intro ρz wz hz hk hd
   exact sk_val (xr_indexR (K := (kI .u8)) (v := V0_0) rfl Try.underlying43 sz5 (hd 0 rfl 32 rfl) (R0_0.gr (fB.gr hz)) rfl (by decide) g26) rfl rfl
  ·intro ρz wz hz hk hd
   exact sk_val (v := .int .u8 (ix a0 4)) (xr_load1 (v := .int .u8 (ix a0 4)) rfl ag5 (hd 1 rfl 33 rfl) ((R0_0.gr (fB.gr hz)).elem (by decide) g26)) rfl rfl
  ·intro ρz wz hz hk hd
   exact sk_val (v := .int .i64 (IntKind.i64.wrap (ix a0 4))) (xr_conv rfl Try.underlying5 Try.underlying3 (hd 2 rfl 34 rfl)) rfl rfl
  ·intro ρz wz hz hk hd
   exact sk_val (v := V0_0) (xr_move rfl ((hk 0 rfl).trans e0)) rfl rfl
  ·intro ρz wz hz hk hd
   exact sk_val (xr_indexR (K := (kI .u8)) (v := V0_0) rfl Try.underlying43 sz5 (hd 4 rfl 36 rfl) (R0_0.gr (fB.gr hz)) rfl (by decide) g27) rfl rfl
  ·intro ρz wz hz hk hd
   exact sk_val (v := .int .u8 (ix a0 5)) (xr_load1 (v := .int .u8 (ix a0 5)) rfl ag5 (hd 5 rfl 37 rfl) ((R0_0.gr (fB.gr hz)).elem (by decide) g27)) rfl rfl
  ·intro ρz wz hz hk hd
   exact sk_val (v := .int .i64 (IntKind.i64.wrap (ix a0 5))) (xr_conv rfl Try.underlying5 Try.underlying3 (hd 6 rfl 38 rfl)) rfl rfl
  ·intro ρz wz hz hk hd
   exact sk_val (v := V0_0) (xr_move rfl ((hk 0 rfl).trans e0)) rfl rfl
  ·intro ρz wz hz hk hd
   exact sk_val (xr_slice_l (K := (kI .u8)) (v := V0_0) rfl Try.underlying43 sz5 (hd 8 rfl 40 rfl) (R0_0.gr (fB.gr hz)) rfl (by decide) g29) rfl ⟨(R0_0.gr (fB.gr hz)).cut (lo := 8) (hi := (List.length a0 : Int)) (by decide) g29 (Int.le_refl _), rfl⟩
  ·intro ρz wz hz hk hd
   obtain ⟨r28, d41⟩ := hd 9 rfl 41 rfl
   exact sk_val (v := sv (List.map toB (cut a0 8 (List.length a0 : Int)))) (xr_toStr rfl Try.underlying43 Try.underlying5 Try.underlying9 d41 r28) rfl rfl
  ·intro ρz wz hz hk hd
   exact sk_val (v := .int .i64 (IntKind.i64.wrap (ix a0 4))) (xr_assign rfl (hd 3 rfl 35 rfl)) rfl rfl
  intro ρz wz hz hk hd
  exact sk_val (v := .int .i64 (IntKind.i64.wrap (ix a0 5))) (xr_assign rfl (hd 7 rfl 39 rfl)) rfl rfl
 intro ρ30 w31 q32 hk hd
 have e2 := hd 11 rfl 2 rfl
 have e3 := hd 12 rfl 3 rfl
 have e42 := hd 10 rfl 42 rfl
 have fB := fB.gr q32
 refine ol_val (v := sv (List.map toB (cut a0 8 (List.length a0 : Int)))) (xr_assign rfl e42) rfl rfl rfl ?_
 refine ol_val (v := .bool true) (xr_assign rfl rfl) rfl rfl rfl ?_
 refine ol_nil ?_
 refine cw_ret ?_
 repeat (first | with_reducible refine thn_r ?_ | with_reducible refine blk_r ?_)
 obtain rfl := Option.some.inj h
 refine fin_ret4 Try.results134 e2 e3 rfl rfl ?_
 exact ⟨_, rfl, rfl, fB⟩
def rickyardref01_Number.s0 (fu : Nat) (a0 : List UInt8) : (Int × Int) → Option (Sum Int (Int × Int)) := fun s1 => (if (decide (s1.2 ≥ 0)) = true then (((if (decide (s1.2 < 8)) = true then (if 0 ≤ s1.2 ∧ s1.2 < (List.length a0 : Int) then some ((IntKind.u64.wrap ((IntKind.u64.wrap (s1.1 * 256)) + (IntKind.u64.wrap (ofB (List.getD a0 (Int.toNat s1.2) 0)))))) else none) else some (s1.1)) : Option Int).bind fun x9 => some (Sum.inr (x9, (IntKind.i64.wrap (s1.2 - 1))))) else some (Sum.inl (s1.1)))
def rickyardref01_Number.f (fu : Nat) (a0 : List UInt8) : Option Int := ((loopM (rickyardref01_Number.s0 fu a0) fu (0, (IntKind.i64.wrap ((List.length a0 : Int) - 1)))).bind fun e2 => some (e2))
theorem rickyardref01_Number.ok (fu : Nat) (w : World) (a0 : List UInt8) (r : Int) (h : rickyardref01_Number.f fu a0 = some r) :
  Calls Try.prog 41 (([sv a0] : List Value).toArray) w (fun e w' => ∃ v, e = .returned v ∧ v = .int .u64 r ∧ Gr w w') := by
 unfold rickyardref01_Number.f at h
 have fB : Gr w w := Fr.refl _ _
 refine calls_cw Try.func41 rfl Try.ntmps41 rfl ?_
 refine cw_seq ?_
 refine cw_region ?_
 refine ol_val (v := .int .u64 0) (xr_assign rfl rfl) rfl rfl rfl ?_
 refine ol_nil ?_
 refine cw_seq ?_
 refine cw_region ?_
 refine ol_val (v := .int .u64 0) (xr_assign rfl rfl) rfl rfl rfl ?_
 refine ol_nil ?_
 refine cw_seq ?_
 refine cw_seq ?_
 refine cw_region ?_
 refine ol_val (v := sv a0) (xr_move rfl rfl) rfl rfl rfl ?_
 refine ol_val (v := .int .i64 (List.length a0 : Int)) (xr_lenStr rfl Try.underlying9 rfl) rfl rfl rfl ?_
 refine ol_val (v := .int .i64 (IntKind.i64.wrap ((List.length a0 : Int) - 1))) (xr_sub rfl rfl rfl) rfl rfl rfl ?_
 refine ol_val (v := .int .i64 (IntKind.i64.wrap ((List.length a0 : Int) - 1))) (xr_assign rfl rfl) rfl rfl rfl ?_
 refine ol_nil ?_
 obtain ⟨e2, l3, h4⟩ := bs h
 refine cw_mid (fun ρ' w' => ρ' 3 = .int .u64 e2 ∧ Gr w w') ?_ ?_
 ·refine cw_block ?_
  refine cw_round (fun (s1 : Int × Int) ρ' w' => ρ' 0 = sv a0 ∧ ρ' 3 = .int .u64 s1.1 ∧ ρ' 4 = .int .i64 s1.2 ∧ Gr w w') l3 ?_ ?_
  ·skip
   exact ⟨rfl, rfl, rfl, fB⟩
  rintro s1 x7 ρ5 w6 ⟨e0, e3, e4, fB⟩ h
  unfold rickyardref01_Number.s0 at h
  refine cw_seq ?_
  refine cw_seq ?_
  refine cw_region ?_
  refine ol_val (v := .int .i64 s1.2) (xr_move rfl e4) rfl rfl rfl ?_
  refine ol_val (v := .bool (decide (s1.2 ≥ 0))) (xr_geq rfl rfl rfl) rfl rfl rfl ?_
  refine ol_nil ?_
  rcases is h with ⟨c8, h⟩ | ⟨c8, h⟩
  ·refine cw_condT rfl c8 ?_
   refine cw_skip ?_
   refine cw_seq ?_
   refine cw_block ?_
   refine cw_seq ?_
   refine cw_region ?_
   refine ol_val (v := .int .i64 s1.2) (xr_move rfl e4) rfl rfl rfl ?_
   refine ol_val (v := .bool (decide (s1.2 < 8))) (xr_lss rfl rfl rfl) rfl rfl rfl ?_
   refine ol_nil ?_
   obtain ⟨x9, j10, h11⟩ := bs h
   refine cw_mid (fun ρ' w' => ρ' 0 = sv a0 ∧ ρ' 3 = .int .u64 x9 ∧ ρ' 4 = .int .i64 s1.2 ∧ Gr w w') ?_ ?_
   ·have h := j10
    rcases is h with ⟨c12, h⟩ | ⟨c12, h⟩
    ·refine cw_condT rfl c12 ?_
     refine cw_region ?_
     refine ol_val (v := .int .u64 s1.1) (xr_move rfl e3) rfl rfl rfl ?_
     refine ol_val (v := .int .u64 (IntKind.u64.wrap (s1.1 * 256))) (xr_mul rfl rfl rfl) rfl rfl rfl ?_
     refine ol_val (v := sv a0) (xr_move rfl e0) rfl rfl rfl ?_
     refine ol_val (v := .int .i64 s1.2) (xr_move rfl e4) rfl rfl rfl ?_
     obtain ⟨g13, h⟩ := gs h
     refine ol_val (v := .int .u8 (ofB (List.getD a0 (Int.toNat s1.2) 0))) (xr_indexStr rfl Try.underlying9 rfl rfl g13.1 g13.2) rfl rfl rfl ?_
     refine ol_val (v := .int .u64 (IntKind.u64.wrap (ofB (List.getD a0 (Int.toNat s1.2) 0)))) (xr_conv rfl Try.underlying5 Try.underlying22 rfl) rfl rfl rfl ?_
     refine ol_val (v := .int .u64 (IntKind.u64.wrap ((IntKind.u64.wrap (s1.1 * 256)) + (IntKind.u64.wrap (ofB (List.getD a0 (Int.toNat s1.2) 0)))))) (xr_add rfl rfl rfl) rfl rfl rfl ?_
     refine ol_val (v := .int .u64 (IntKind.u64.wrap ((IntKind.u64.wrap (s1.1 * 256)) + (IntKind.u64.wrap (ofB (List.getD a0 (Int.toNat s1.2) 0)))))) (xr_assign rfl rfl) rfl rfl rfl ?_
     refine ol_nil ?_
     obtain rfl := Option.some.inj h
     refine thn_i ?_
     exact ⟨e0, rfl, e4, fB⟩
    refine cw_condF rfl c12 ?_
    refine cw_skip ?_
    obtain rfl := Option.some.inj h
    refine thn_i ?_
    exact ⟨e0, e3, e4, fB⟩
   rintro ρ14 w15 ⟨e0, e3, e4, fB⟩
   have h := h11
   refine blk_i ?_
   refine cw_region ?_
   refine ol_val (v := .int .i64 s1.2) (xr_move rfl e4) rfl rfl rfl ?_
   refine ol_val (v := .int .i64 (IntKind.i64.wrap (s1.2 - 1))) (xr_sub rfl rfl rfl) rfl rfl rfl ?_
   refine ol_val (v := .int .i64 (IntKind.i64.wrap (s1.2 - 1))) (xr_assign rfl rfl) rfl rfl rfl ?_
   refine ol_nil ?_
   obtain rfl := Option.some.inj h
   refine lp_in ?_
   exact ⟨e0, e3, rfl, fB⟩
  refine cw_condF rfl c8 ?_
  refine cw_exit ?_
  repeat (first | with_reducible refine thn_e ?_ | with_reducible refine blk_e rfl ?_)
  obtain rfl := Option.some.inj h
  refine lp_exit ?_
  rintro rfl
  refine thn_x ?_
  exact ⟨e3, fB⟩
 rintro ρ16 w17 ⟨e3, fB⟩
 have h := h4
 refine cw_seq ?_
 refine cw_region ?_
 refine ol_val (v := .int .u64 e2) (xr_move rfl e3) rfl rfl rfl ?_
 refine ol_val (v := .int .u64 e2) (xr_assign rfl rfl) rfl rfl rfl ?_
 refine ol_nil ?_
 refine cw_ret ?_
 repeat (first | with_reducible refine thn_r ?_ | with_reducible refine blk_r ?_)
 obtain rfl := Option.some.inj h
 refine fin_ret1 Try.results41 rfl ?_
 exact ⟨_, rfl, rfl, fB⟩
def rickyardref01_Int.f (fu : Nat) (a0 : List UInt8) : Option Int := ((rickyardref01_Number.f fu a0).bind fun t1 => some ((IntKind.i64.wrap t1)))
theorem rickyardref01_Int.ok (fu : Nat) (w : World) (a0 : List UInt8) (r : Int) (h : rickyardref01_Int.f fu a0 = some r) :
  Calls Try.prog 135 (([sv a0] : List Value).toArray) w (fun e w' => ∃ v, e = .returned v ∧ v = .int .i64 r ∧ Gr w w') := by
 unfold rickyardref01_Int.f at h
 have fB : Gr w w := Fr.refl _ _
 refine calls_cw Try.func135 rfl Try.ntmps135 rfl ?_
 refine cw_seq ?_
 refine cw_region ?_
 refine ol_val (v := .int .i64 0) (xr_assign rfl rfl) rfl rfl rfl ?_
 refine ol_nil ?_
 refine cw_seq ?_
 refine cw_region ?_
 refine ol_val (v := sv a0) (xr_move rfl rfl) rfl rfl rfl ?_
 obtain ⟨t1, k2, h⟩ := bs h
 refine ol_op (opv_call rfl cal41 (ac rfl an) (rickyardref01_Number.ok fu _ a0 _ k2)) rfl rfl rfl ?_
 rintro _ w4 ⟨rfl, q3⟩
 have fB := fB.gr q3
 refine ol_val (v := .int .i64 (IntKind.i64.wrap t1)) (xr_conv rfl Try.underlying22 Try.underlying3 rfl) rfl rfl rfl ?_
 refine ol_val (v := .int .i64 (IntKind.i64.wrap t1)) (xr_assign rfl rfl) rfl rfl rfl ?_
 refine ol_nil ?_
 refine cw_ret ?_
 repeat (first | with_reducible refine thn_r ?_ | with_reducible refine blk_r ?_)
 obtain rfl := Option.some.inj h
 refine fin_ret1 Try.results135 rfl ?_
 exact ⟨_, rfl, rfl, fB⟩
def rickyardref13_Get.s0 (fu : Nat) (t10 : Int × Int × (List UInt8) × Bool) : (Int × (List Int)) → Option (Sum (List Int) (Int × (List Int))) := fun s83 => (if (decide (s83.1 < t10.2.1)) = true then (if (0 : Int) ≤ (IntKind.i64.wrap (32 + (IntKind.i64.wrap (2 * s83.1)))) ∧ (IntKind.i64.wrap (32 + (IntKind.i64.wrap (2 * s83.1)))) ≤ (IntKind.i64.wrap (34 + (IntKind.i64.wrap (2 * s83.1)))) ∧ (IntKind.i64.wrap (34 + (IntKind.i64.wrap (2 * s83.1)))) ≤ (List.length t10.2.2.1 : Int) then ((rickyardref01_Int.f fu (cut t10.2.2.1 (IntKind.i64.wrap (32 + (IntKind.i64.wrap (2 * s83.1)))) (IntKind.i64.wrap (34 + (IntKind.i64.wrap (2 * s83.1)))))).bind fun t98 => (if List.length s83.2 + List.length [t98] ≤ LIM then some (Sum.inr ((IntKind.i64.wrap (s83.1 + 1)), (s83.2 ++ [t98]))) else none)) else none) else some (Sum.inl (s83.2)))
def rickyardref13_Get.f (fu : Nat) (a0 : List Int) : Option (S_api_Super × Bool) := ((rickyardref07_Open.f fu a0).bind fun t10 => (if (if (!t10.2.2.2) = true then true else (if (!decide (t10.1 = 7)) = true then true else (decide (t10.2.1 > 8)))) = true then some ((⟨(0 : Int), (⟨(⟨(0 : Int), (0 : Int), (0 : Int)⟩ : S_api_Geometry), (0 : Int), (0 : Int), (0 : Int)⟩ : S_api_Tickets), (0 : Int), []⟩ : S_api_Super), false) else (if (8 : Int) ≤ (List.length t10.2.2.1 : Int) then ((rickyardref01_Int.f fu (cut t10.2.2.1 0 8)).bind fun t28 => (if (12 : Int) ≤ (List.length t10.2.2.1 : Int) then ((rickyardref01_Int.f fu (cut t10.2.2.1 8 12)).bind fun t35 => (if (16 : Int) ≤ (List.length t10.2.2.1 : Int) then ((rickyardref01_Int.f fu (cut t10.2.2.1 12 16)).bind fun t42 => (if (20 : Int) ≤ (List.length t10.2.2.1 : Int) then ((rickyardref01_Int.f fu (cut t10.2.2.1 16 20)).bind fun t49 => (if (24 : Int) ≤ (List.length t10.2.2.1 : Int) then ((rickyardref01_Int.f fu (cut t10.2.2.1 20 24)).bind fun t56 => (if (28 : Int) ≤ (List.length t10.2.2.1 : Int) then ((rickyardref01_Int.f fu (cut t10.2.2.1 24 28)).bind fun t63 => (if (30 : Int) ≤ (List.length t10.2.2.1 : Int) then ((rickyardref01_Int.f fu (cut t10.2.2.1 28 30)).bind fun t70 => (if (32 : Int) ≤ (List.length t10.2.2.1 : Int) then ((rickyardref01_Int.f fu (cut t10.2.2.1 30 32)).bind fun t77 => ((loopM (rickyardref13_Get.s0 fu t10) fu (0, [])).bind fun e84 => ((((rickyardref13_Right.f fu (⟨t28, (⟨(⟨t35, t42, t49⟩ : S_api_Geometry), t70, t56, t63⟩ : S_api_Tickets), t77, e84⟩ : S_api_Super)).bind fun t129 => (if (!t129) = true then some (true) else ((rickyardref13_Put.f fu (⟨t28, (⟨(⟨t35, t42, t49⟩ : S_api_Geometry), t70, t56, t63⟩ : S_api_Tickets), t77, e84⟩ : S_api_Super)).bind fun t136 => some ((!decide (t136 = (List.map toB a0))))))) : Option Bool).bind fun x127 => (if x127 = true then some ((⟨(0 : Int), (⟨(⟨(0 : Int), (0 : Int), (0 : Int)⟩ : S_api_Geometry), (0 : Int), (0 : Int), (0 : Int)⟩ : S_api_Tickets), (0 : Int), []⟩ : S_api_Super), false) else some ((⟨t28, (⟨(⟨t35, t42, t49⟩ : S_api_Geometry), t70, t56, t63⟩ : S_api_Tickets), t77, e84⟩ : S_api_Super), true))))) else none)) else none)) else none)) else none)) else none)) else none)) else none)) else none)))
theorem rickyardref13_Get.ok (fu : Nat) (w : World) (a0 : List Int) (V0_0 : Value) (R0_0 : Rd (kI .u8) w V0_0 a0) (r : S_api_Super × Bool) (h : rickyardref13_Get.f fu a0 = some r) :
  Calls Try.prog 114 (([V0_0] : List Value).toArray) w (fun e w' => ∃ v, e = .returned v ∧ ∃ u1 : Value, ∃ o2 : Own (kI .i64) 3 w' w.heap.size u1 r.1.Charts, v = .tuple #[aggV [(sI r.1.Epoch), (sI r.1.Tickets.Geometry.Blocks), (sI r.1.Tickets.Geometry.Slots), (sI r.1.Tickets.Geometry.Gens), (sI r.1.Tickets.Top), (sI r.1.Tickets.High), (sI r.1.Tickets.Free), (sI r.1.Dir), Seg.cell u1 o2.one], .bool r.2] ∧ Gr w w') := by
 unfold rickyardref13_Get.f at h
 have fB : Gr w w := Fr.refl _ _
 refine calls_cw Try.func114 rfl Try.ntmps114 rfl ?_
 refine cw_seq ?_
 refine cw_region ?_
 refine ol_op (opv_alloc (ss := [(sI (0 : Int)), (sI (0 : Int)), (sI (0 : Int)), (sI (0 : Int)), (sI (0 : Int)), (sI (0 : Int)), (sI (0 : Int)), (sI (0 : Int)), Seg.cell (.slice none 0 0) (by rfl)]) rfl ze110 rfl) rfl rfl rfl ?_
 rintro _ w9 ⟨G4, rfl, b5, q6, z7⟩
 have z7 := Nat.le_trans fB.size z7
 have fB := fB.gr q6
 refine ol_val (v := .bool false) (xr_assign rfl rfl) rfl rfl rfl ?_
 refine ol_nil ?_
 refine cw_seq ?_
 refine cw_region ?_
 refine ol_val (v := V0_0) (xr_move rfl rfl) rfl rfl rfl ?_
 obtain ⟨t10, k11, h⟩ := bs h
 refine ol_op (opv_call rfl cal134 (ac rfl an) (rickyardref07_Open.ok fu _ a0 V0_0 (R0_0.gr fB) _ k11)) rfl rfl rfl ?_
 rintro _ w13 ⟨rfl, q12⟩
 have b5 := b5.gr q12
 have fB := fB.gr q12
 refine ol_val (v := .tuple #[.int .i64 t10.1, .int .i64 t10.2.1, sv t10.2.2.1, .bool t10.2.2.2]) (xr_move rfl rfl) rfl rfl rfl ?_
 refine ol_val (v := .int .i64 t10.1) (xr_extract rfl rfl rfl) rfl rfl rfl ?_
 refine ol_val (v := .int .i64 t10.2.1) (xr_extract rfl rfl rfl) rfl rfl rfl ?_
 refine ol_val (v := sv t10.2.2.1) (xr_extract rfl rfl rfl) rfl rfl rfl ?_
 refine ol_val (v := .bool t10.2.2.2) (xr_extract rfl rfl rfl) rfl rfl rfl ?_
 refine ol_val (v := .int .i64 t10.1) (xr_assign rfl rfl) rfl rfl rfl ?_
 refine ol_val (v := .int .i64 t10.2.1) (xr_assign rfl rfl) rfl rfl rfl ?_
 refine ol_val (v := sv t10.2.2.1) (xr_assign rfl rfl) rfl rfl rfl ?_
 refine ol_val (v := .bool t10.2.2.2) (xr_assign rfl rfl) rfl rfl rfl ?_
 refine ol_nil ?_
 refine cw_seq ?_
 refine cw_seq ?_
 refine cw_mid (fun ρ' w' => ρ' 0 = V0_0 ∧ ρ' 2 = (pt G4 0) ∧ ρ' 5 = .int .i64 t10.2.1 ∧ ρ' 6 = sv t10.2.2.1 ∧ ρ' 26 = .bool (if (!t10.2.2.2) = true then true else (if (!decide (t10.1 = 7)) = true then true else (decide (t10.2.1 > 8)))) ∧ w13 = w') ?_ ?_
 ·skip
  refine cw_region ?_
  refine ol_val (v := .bool t10.2.2.2) (xr_move rfl rfl) rfl rfl rfl ?_
  refine ol_val (v := .bool (!t10.2.2.2)) (xr_not rfl rfl) rfl rfl rfl ?_
  refine ol_val (v := .bool (!t10.2.2.2)) (xr_move rfl rfl) rfl rfl rfl ?_
  rcases bt (!t10.2.2.2) with c14 | c14
  ·skip
   refine ol_gskip rfl rfl rfl rfl rfl c14 ?_
   refine ol_gskip rfl rfl rfl rfl rfl c14 ?_
   refine ol_val (v := .bool true) (xr_pickT rfl rfl c14 rfl) rfl rfl rfl ?_
   refine ol_val (v := .bool true) (xr_move rfl rfl) rfl rfl rfl ?_
   refine ol_gskip rfl rfl rfl rfl rfl rfl ?_
   refine ol_gskip rfl rfl rfl rfl rfl rfl ?_
   refine ol_val (v := .bool true) (xr_pickT rfl rfl rfl rfl) rfl rfl rfl ?_
   refine ol_nil ?_
   refine thn_i ?_
   exact ⟨rfl, rfl, rfl, rfl, (rfl).trans (congrArg (fun z => (.bool z : Value)) (show true = (if (!t10.2.2.2) = true then true else (if (!decide (t10.1 = 7)) = true then true else (decide (t10.2.1 > 8)))) from by rw [ite_t c14])), rfl⟩
  refine ol_gval (v := .int .i64 t10.1) (xr_move rfl rfl) rfl rfl rfl rfl rfl c14 ?_
  refine ol_gval (v := .bool (!decide (t10.1 = 7))) (xr_neI rfl Try.underlying3 rfl rfl rfl) rfl rfl rfl rfl rfl c14 ?_
  refine ol_val (v := .bool (!decide (t10.1 = 7))) (xr_pickF rfl rfl c14 rfl) rfl rfl rfl ?_
  refine ol_val (v := .bool (!decide (t10.1 = 7))) (xr_move rfl rfl) rfl rfl rfl ?_
  rcases bt (!decide (t10.1 = 7)) with c15 | c15
  ·skip
   refine ol_gskip rfl rfl rfl rfl rfl c15 ?_
   refine ol_gskip rfl rfl rfl rfl rfl c15 ?_
   refine ol_val (v := .bool true) (xr_pickT rfl rfl c15 rfl) rfl rfl rfl ?_
   refine ol_nil ?_
   refine thn_i ?_
   exact ⟨rfl, rfl, rfl, rfl, (rfl).trans (congrArg (fun z => (.bool z : Value)) (show true = (if (!t10.2.2.2) = true then true else (if (!decide (t10.1 = 7)) = true then true else (decide (t10.2.1 > 8)))) from by rw [ite_f c14, ite_t c15])), rfl⟩
  refine ol_gval (v := .int .i64 t10.2.1) (xr_move rfl rfl) rfl rfl rfl rfl rfl c15 ?_
  refine ol_gval (v := .bool (decide (t10.2.1 > 8))) (xr_gtr rfl rfl rfl) rfl rfl rfl rfl rfl c15 ?_
  refine ol_val (v := .bool (decide (t10.2.1 > 8))) (xr_pickF rfl rfl c15 rfl) rfl rfl rfl ?_
  refine ol_nil ?_
  refine thn_i ?_
  exact ⟨rfl, rfl, rfl, rfl, (rfl).trans (congrArg (fun z => (.bool z : Value)) (show (decide (t10.2.1 > 8)) = (if (!t10.2.2.2) = true then true else (if (!decide (t10.1 = 7)) = true then true else (decide (t10.2.1 > 8)))) from by rw [ite_f c14, ite_f c15])), rfl⟩
 rintro ρ16 _ ⟨e0, e2, e5, e6, e26, rfl⟩
 rcases is h with ⟨c17, h⟩ | ⟨c17, h⟩
 ·refine cw_condT e26 c17 ?_
  refine cw_seq ?_
  refine cw_region ?_
  refine ol_val (v := aggV [(sI (0 : Int)), (sI (0 : Int)), (sI (0 : Int)), (sI (0 : Int)), (sI (0 : Int)), (sI (0 : Int)), (sI (0 : Int)), (sI (0 : Int)), Seg.cell (.slice none 0 0) (by rfl)]) (xr_build (vals := []) rfl trivial (bl110_ _)) rfl rfl rfl ?_
  refine ol_op0 (opv_store (ss' := [(sI (0 : Int)), (sI (0 : Int)), (sI (0 : Int)), (sI (0 : Int)), (sI (0 : Int)), (sI (0 : Int)), (sI (0 : Int)), (sI (0 : Int)), Seg.cell (.slice none 0 0) (by rfl)]) (xs := cellsOf [(sI (0 : Int)), (sI (0 : Int)), (sI (0 : Int)), (sI (0 : Int)), (sI (0 : Int)), (sI (0 : Int)), (sI (0 : Int)), (sI (0 : Int)), Seg.cell (.slice none 0 0) (by rfl)]) rfl sz110 e2 rfl rfl (len_cellsOf _) (one_cellsOf _) b5 (Spl.segs _ 0 9 [(sI (0 : Int)), (sI (0 : Int)), (sI (0 : Int)), (sI (0 : Int)), (sI (0 : Int)), (sI (0 : Int)), (sI (0 : Int)), (sI (0 : Int)), Seg.cell (.slice none 0 0) (by rfl)] rfl rfl)) rfl rfl ?_
  rintro _ w19 ⟨b5, q18⟩
  have fB := fB.wr q18 z7
  refine ol_val (v := .bool false) (xr_assign rfl rfl) rfl rfl rfl ?_
  refine ol_nil ?_
  refine cw_ret ?_
  repeat (first | with_reducible refine thn_r ?_ | with_reducible refine blk_r ?_)
  obtain rfl := Option.some.inj h
  refine fin_cell_tmp Try.results114 e2 ag110 sz110 b5 (by rfl) rfl ?_
  exact ⟨_, rfl, (.slice none 0 0), Own.nil _ _ _ _, rfl, fB⟩
 refine cw_condF e26 c17 ?_
 refine cw_skip ?_
 refine cw_seq ?_
 refine cw_region ?_
 refine ol_op (opv_alloc (ss := [(sI (0 : Int)), (sI (0 : Int)), (sI (0 : Int)), (sI (0 : Int)), (sI (0 : Int)), (sI (0 : Int)), (sI (0 : Int)), (sI (0 : Int)), Seg.cell (.slice none 0 0) (by rfl)]) rfl ze110 rfl) rfl rfl rfl ?_
 rintro _ w25 ⟨G20, rfl, b21, q22, z23⟩
 have n26 := b5.ne z23
 have z23 := Nat.le_trans fB.size z23
 have b5 := b5.gr q22
 have fB := fB.gr q22
 refine ol_nil ?_
 refine cw_seq ?_
 refine cw_region ?_
 refine ol_val (v := sv t10.2.2.1) (xr_move rfl e6) rfl rfl rfl ?_
 obtain ⟨g27, h⟩ := gs h
 refine ol_val (v := sv (cut t10.2.2.1 0 8)) (xr_str_h rfl Try.underlying9 rfl rfl (by decide) g27) rfl rfl rfl ?_
 obtain ⟨t28, k29, h⟩ := bs h
 refine ol_op (opv_call rfl cal135 (ac rfl an) (rickyardref01_Int.ok fu _ (cut t10.2.2.1 0 8) _ k29)) rfl rfl rfl ?_
 rintro _ w31 ⟨rfl, q30⟩
 have b5 := b5.gr q30
 have b21 := b21.gr q30
 have fB := fB.gr q30
 refine ol_val (v := (pt G20 0)) (xr_fieldAddr (p := 0) (q := 0) rfl fl110_0 rfl) rfl rfl rfl ?_
 refine ol_op0 (opv_store (ss' := [(sI t28), (sI (0 : Int)), (sI (0 : Int)), (sI (0 : Int)), (sI (0 : Int)), (sI (0 : Int)), (sI (0 : Int)), (sI (0 : Int)), Seg.cell (.slice none 0 0) (by rfl)]) (xs := cellsOf [(sI t28)]) rfl sz3 rfl rfl rfl (len_cellsOf _) (one_cellsOf _) b21 (Spl.segs _ 0 1 [(sI t28)] rfl rfl)) rfl rfl ?_
 rintro _ w33 ⟨b21, q32⟩
 have b5 := b5.wr q32 n26
 have fB := fB.wr q32 z23
 refine ol_nil ?_
 refine cw_seq ?_
 refine cw_region ?_
 refine ol_val (v := sv t10.2.2.1) (xr_move rfl e6) rfl rfl rfl ?_
 obtain ⟨g34, h⟩ := gs h
 refine ol_val (v := sv (cut t10.2.2.1 8 12)) (xr_str_lh rfl Try.underlying9 rfl rfl rfl (by decide) (by decide) g34) rfl rfl rfl ?_
 obtain ⟨t35, k36, h⟩ := bs h
 refine ol_op (opv_call rfl cal135 (ac rfl an) (rickyardref01_Int.ok fu _ (cut t10.2.2.1 8 12) _ k36)) rfl rfl rfl ?_
 rintro _ w38 ⟨rfl, q37⟩
 have b5 := b5.gr q37
 have b21 := b21.gr q37
 have fB := fB.gr q37
 refine ol_val (v := (pt G20 1)) (xr_fieldAddr (p := 0) (q := 1) rfl fl110_1 rfl) rfl rfl rfl ?_
 refine ol_val (v := (pt G20 1)) (xr_fieldAddr (p := 1) (q := 0) rfl fl108_0 rfl) rfl rfl rfl ?_
 refine ol_val (v := (pt G20 1)) (xr_fieldAddr (p := 1) (q := 0) rfl fl106_0 rfl) rfl rfl rfl ?_
 refine ol_op0 (opv_store (ss' := [(sI t28), (sI t35), (sI (0 : Int)), (sI (0 : Int)), (sI (0 : Int)), (sI (0 : Int)), (sI (0 : Int)), (sI (0 : Int)), Seg.cell (.slice none 0 0) (by rfl)]) (xs := cellsOf [(sI t35)]) rfl sz3 rfl rfl rfl (len_cellsOf _) (one_cellsOf _) b21 (Spl.segs _ 1 1 [(sI t35)] rfl rfl)) rfl rfl ?_
 rintro _ w40 ⟨b21, q39⟩
 have b5 := b5.wr q39 n26
 have fB := fB.wr q39 z23
 refine ol_nil ?_
 refine cw_seq ?_
 refine cw_region ?_
 refine ol_val (v := sv t10.2.2.1) (xr_move rfl e6) rfl rfl rfl ?_
 obtain ⟨g41, h⟩ := gs h
 refine ol_val (v := sv (cut t10.2.2.1 12 16)) (xr_str_lh rfl Try.underlying9 rfl rfl rfl (by decide) (by decide) g41) rfl rfl rfl ?_
 obtain ⟨t42, k43, h⟩ := bs h
 refine ol_op (opv_call rfl cal135 (ac rfl an) (rickyardref01_Int.ok fu _ (cut t10.2.2.1 12 16) _ k43)) rfl rfl rfl ?_
 rintro _ w45 ⟨rfl, q44⟩
 have b5 := b5.gr q44
 have b21 := b21.gr q44
 have fB := fB.gr q44
 refine ol_val (v := (pt G20 1)) (xr_fieldAddr (p := 0) (q := 1) rfl fl110_1 rfl) rfl rfl rfl ?_
 refine ol_val (v := (pt G20 1)) (xr_fieldAddr (p := 1) (q := 0) rfl fl108_0 rfl) rfl rfl rfl ?_
 refine ol_val (v := (pt G20 2)) (xr_fieldAddr (p := 1) (q := 1) rfl fl106_1 rfl) rfl rfl rfl ?_
 refine ol_op0 (opv_store (ss' := [(sI t28), (sI t35), (sI t42), (sI (0 : Int)), (sI (0 : Int)), (sI (0 : Int)), (sI (0 : Int)), (sI (0 : Int)), Seg.cell (.slice none 0 0) (by rfl)]) (xs := cellsOf [(sI t42)]) rfl sz3 rfl rfl rfl (len_cellsOf _) (one_cellsOf _) b21 (Spl.segs _ 2 1 [(sI t42)] rfl rfl)) rfl rfl ?_
 rintro _ w47 ⟨b21, q46⟩
 have b5 := b5.wr q46 n26
 have fB := fB.wr q46 z23
 refine ol_nil ?_
 refine cw_seq ?_
 refine cw_region ?_
 refine ol_val (v := sv t10.2.2.1) (xr_move rfl e6) rfl rfl rfl ?_
 obtain ⟨g48, h⟩ := gs h
 refine ol_val (v := sv (cut t10.2.2.1 16 20)) (xr_str_lh rfl Try.underlying9 rfl rfl rfl (by decide) (by decide) g48) rfl rfl rfl ?_
 obtain ⟨t49, k50, h⟩ := bs h
 refine ol_op (opv_call rfl cal135 (ac rfl an) (rickyardref01_Int.ok fu _ (cut t10.2.2.1 16 20) _ k50)) rfl rfl rfl ?_
 rintro _ w52 ⟨rfl, q51⟩
 have b5 := b5.gr q51
 have b21 := b21.gr q51
 have fB := fB.gr q51
 refine ol_val (v := (pt G20 1)) (xr_fieldAddr (p := 0) (q := 1) rfl fl110_1 rfl) rfl rfl rfl ?_
 refine ol_val (v := (pt G20 1)) (xr_fieldAddr (p := 1) (q := 0) rfl fl108_0 rfl) rfl rfl rfl ?_
 refine ol_val (v := (pt G20 3)) (xr_fieldAddr (p := 1) (q := 2) rfl fl106_2 rfl) rfl rfl rfl ?_
 refine ol_op0 (opv_store (ss' := [(sI t28), (sI t35), (sI t42), (sI t49), (sI (0 : Int)), (sI (0 : Int)), (sI (0 : Int)), (sI (0 : Int)), Seg.cell (.slice none 0 0) (by rfl)]) (xs := cellsOf [(sI t49)]) rfl sz3 rfl rfl rfl (len_cellsOf _) (one_cellsOf _) b21 (Spl.segs _ 3 1 [(sI t49)] rfl rfl)) rfl rfl ?_
 rintro _ w54 ⟨b21, q53⟩
 have b5 := b5.wr q53 n26
 have fB := fB.wr q53 z23
 refine ol_nil ?_
 refine cw_seq ?_
 refine cw_region ?_
 refine ol_val (v := sv t10.2.2.1) (xr_move rfl e6) rfl rfl rfl ?_
 obtain ⟨g55, h⟩ := gs h
 refine ol_val (v := sv (cut t10.2.2.1 20 24)) (xr_str_lh rfl Try.underlying9 rfl rfl rfl (by decide) (by decide) g55) rfl rfl rfl ?_
 obtain ⟨t56, k57, h⟩ := bs h
 refine ol_op (opv_call rfl cal135 (ac rfl an) (rickyardref01_Int.ok fu _ (cut t10.2.2.1 20 24) _ k57)) rfl rfl rfl ?_
 rintro _ w59 ⟨rfl, q58⟩
 have b5 := b5.gr q58
 have b21 := b21.gr q58
 have fB := fB.gr q58
 refine ol_val (v := (pt G20 1)) (xr_fieldAddr (p := 0) (q := 1) rfl fl110_1 rfl) rfl rfl rfl ?_
 refine ol_val (v := (pt G20 5)) (xr_fieldAddr (p := 1) (q := 4) rfl fl108_2 rfl) rfl rfl rfl ?_
 refine ol_op0 (opv_store (ss' := [(sI t28), (sI t35), (sI t42), (sI t49), (sI (0 : Int)), (sI t56), (sI (0 : Int)), (sI (0 : Int)), Seg.cell (.slice none 0 0) (by rfl)]) (xs := cellsOf [(sI t56)]) rfl sz3 rfl rfl rfl (len_cellsOf _) (one_cellsOf _) b21 (Spl.segs _ 5 1 [(sI t56)] rfl rfl)) rfl rfl ?_
 rintro _ w61 ⟨b21, q60⟩
 have b5 := b5.wr q60 n26
 have fB := fB.wr q60 z23
 refine ol_nil ?_
 refine cw_seq ?_
 refine cw_region ?_
 refine ol_val (v := sv t10.2.2.1) (xr_move rfl e6) rfl rfl rfl ?_
 obtain ⟨g62, h⟩ := gs h
 refine ol_val (v := sv (cut t10.2.2.1 24 28)) (xr_str_lh rfl Try.underlying9 rfl rfl rfl (by decide) (by decide) g62) rfl rfl rfl ?_
 obtain ⟨t63, k64, h⟩ := bs h
 refine ol_op (opv_call rfl cal135 (ac rfl an) (rickyardref01_Int.ok fu _ (cut t10.2.2.1 24 28) _ k64)) rfl rfl rfl ?_
 rintro _ w66 ⟨rfl, q65⟩
 have b5 := b5.gr q65
 have b21 := b21.gr q65
 have fB := fB.gr q65
 refine ol_val (v := (pt G20 1)) (xr_fieldAddr (p := 0) (q := 1) rfl fl110_1 rfl) rfl rfl rfl ?_
 refine ol_val (v := (pt G20 6)) (xr_fieldAddr (p := 1) (q := 5) rfl fl108_3 rfl) rfl rfl rfl ?_
 refine ol_op0 (opv_store (ss' := [(sI t28), (sI t35), (sI t42), (sI t49), (sI (0 : Int)), (sI t56), (sI t63), (sI (0 : Int)), Seg.cell (.slice none 0 0) (by rfl)]) (xs := cellsOf [(sI t63)]) rfl sz3 rfl rfl rfl (len_cellsOf _) (one_cellsOf _) b21 (Spl.segs _ 6 1 [(sI t63)] rfl rfl)) rfl rfl ?_
 rintro _ w68 ⟨b21, q67⟩
 have b5 := b5.wr q67 n26
 have fB := fB.wr q67 z23
 refine ol_nil ?_
 refine cw_seq ?_
 refine cw_region ?_
 refine ol_val (v := sv t10.2.2.1) (xr_move rfl e6) rfl rfl rfl ?_
 obtain ⟨g69, h⟩ := gs h
 refine ol_val (v := sv (cut t10.2.2.1 28 30)) (xr_str_lh rfl Try.underlying9 rfl rfl rfl (by decide) (by decide) g69) rfl rfl rfl ?_
 obtain ⟨t70, k71, h⟩ := bs h
 refine ol_op (opv_call rfl cal135 (ac rfl an) (rickyardref01_Int.ok fu _ (cut t10.2.2.1 28 30) _ k71)) rfl rfl rfl ?_
 rintro _ w73 ⟨rfl, q72⟩
 have b5 := b5.gr q72
 have b21 := b21.gr q72
 have fB := fB.gr q72
 refine ol_val (v := (pt G20 1)) (xr_fieldAddr (p := 0) (q := 1) rfl fl110_1 rfl) rfl rfl rfl ?_
 refine ol_val (v := (pt G20 4)) (xr_fieldAddr (p := 1) (q := 3) rfl fl108_1 rfl) rfl rfl rfl ?_
 refine ol_op0 (opv_store (ss' := [(sI t28), (sI t35), (sI t42), (sI t49), (sI t70), (sI t56), (sI t63), (sI (0 : Int)), Seg.cell (.slice none 0 0) (by rfl)]) (xs := cellsOf [(sI t70)]) rfl sz3 rfl rfl rfl (len_cellsOf _) (one_cellsOf _) b21 (Spl.segs _ 4 1 [(sI t70)] rfl rfl)) rfl rfl ?_
 rintro _ w75 ⟨b21, q74⟩
 have b5 := b5.wr q74 n26
 have fB := fB.wr q74 z23
 refine ol_nil ?_
 refine cw_seq ?_
 refine cw_region ?_
 refine ol_val (v := sv t10.2.2.1) (xr_move rfl e6) rfl rfl rfl ?_
 obtain ⟨g76, h⟩ := gs h
 refine ol_val (v := sv (cut t10.2.2.1 30 32)) (xr_str_lh rfl Try.underlying9 rfl rfl rfl (by decide) (by decide) g76) rfl rfl rfl ?_
 obtain ⟨t77, k78, h⟩ := bs h
 refine ol_op (opv_call rfl cal135 (ac rfl an) (rickyardref01_Int.ok fu _ (cut t10.2.2.1 30 32) _ k78)) rfl rfl rfl ?_
 rintro _ w80 ⟨rfl, q79⟩
 have b5 := b5.gr q79
 have b21 := b21.gr q79
 have fB := fB.gr q79
 refine ol_val (v := (pt G20 7)) (xr_fieldAddr (p := 0) (q := 7) rfl fl110_2 rfl) rfl rfl rfl ?_
 refine ol_op0 (opv_store (ss' := [(sI t28), (sI t35), (sI t42), (sI t49), (sI t70), (sI t56), (sI t63), (sI t77), Seg.cell (.slice none 0 0) (by rfl)]) (xs := cellsOf [(sI t77)]) rfl sz3 rfl rfl rfl (len_cellsOf _) (one_cellsOf _) b21 (Spl.segs _ 7 1 [(sI t77)] rfl rfl)) rfl rfl ?_
 rintro _ w82 ⟨b21, q81⟩
 have b5 := b5.wr q81 n26
 have fB := fB.wr q81 z23
 refine ol_nil ?_
 refine cw_seq ?_
 refine cw_seq ?_
 refine cw_region ?_
 refine ol_val (v := .int .i64 0) (xr_assign rfl rfl) rfl rfl rfl ?_
 refine ol_nil ?_
 obtain ⟨e84, l85, h86⟩ := bs h
 refine cw_mid (fun ρ' w' => ∃ v87 : Value, ∃ o88 : Own (kI .i64) 3 w' w.heap.size v87 e84, ρ' 0 = V0_0 ∧ ρ' 2 = (pt G4 0) ∧ ρ' 8 = (pt G20 0) ∧ Blk w' G4 110 [(sI (0 : Int)), (sI (0 : Int)), (sI (0 : Int)), (sI (0 : Int)), (sI (0 : Int)), (sI (0 : Int)), (sI (0 : Int)), (sI (0 : Int)), Seg.cell (.slice none 0 0) (by rfl)] ∧ Blk w' G20 110 [(sI t28), (sI t35), (sI t42), (sI t49), (sI t70), (sI t56), (sI t63), (sI t77), Seg.cell v87 o88.one] ∧ Gr w w') ?_ ?_
 ·refine cw_block ?_
  refine cw_round (fun (s83 : Int × (List Int)) ρ' w' => ∃ v90 : Value, ∃ o91 : Own (kI .i64) 3 w' w.heap.size v90 s83.2, ρ' 0 = V0_0 ∧ ρ' 2 = (pt G4 0) ∧ ρ' 5 = .int .i64 t10.2.1 ∧ ρ' 6 = sv t10.2.2.1 ∧ ρ' 8 = (pt G20 0) ∧ ρ' 9 = .int .i64 s83.1 ∧ Blk w' G4 110 [(sI (0 : Int)), (sI (0 : Int)), (sI (0 : Int)), (sI (0 : Int)), (sI (0 : Int)), (sI (0 : Int)), (sI (0 : Int)), (sI (0 : Int)), Seg.cell (.slice none 0 0) (by rfl)] ∧ Blk w' G20 110 [(sI t28), (sI t35), (sI t42), (sI t49), (sI t70), (sI t56), (sI t63), (sI t77), Seg.cell v90 o91.one] ∧ Gr w w') l85 ?_ ?_
  ·skip
   exact ⟨(.slice none 0 0), Own.nil _ _ _ _, e0, e2, e5, e6, rfl, rfl, b5, b21, fB⟩
  rintro s83 x95 ρ93 w94 ⟨v90, o91, e0, e2, e5, e6, e8, e9, b5, b21, fB⟩ h
  unfold rickyardref13_Get.s0 at h
  refine cw_seq ?_
  refine cw_seq ?_
  refine cw_region ?_
  refine ol_val (v := .int .i64 s83.1) (xr_move rfl e9) rfl rfl rfl ?_
  refine ol_val (v := .int .i64 t10.2.1) (xr_move rfl e5) rfl rfl rfl ?_
  refine ol_val (v := .bool (decide (s83.1 < t10.2.1))) (xr_lss rfl rfl rfl) rfl rfl rfl ?_
  refine ol_nil ?_
  rcases is h with ⟨c96, h⟩ | ⟨c96, h⟩
  ·refine cw_condT rfl c96 ?_
   refine cw_skip ?_
   refine cw_seq ?_
   refine cw_block ?_
   obtain ⟨g97, h⟩ := gs h
   obtain ⟨t98, k99, h⟩ := bs h
   refine cw_drawL 12 [fun vz wz => vz = ((pt G20 8) : Value), fun vz wz => vz = (v90 : Value), fun vz wz => vz = (sv t10.2.2.1 : Value), fun vz wz => vz = (.int .i64 s83.1 : Value), fun vz wz => vz = (.int .i64 (IntKind.i64.wrap (2 * s83.1)) : Value), fun vz wz => vz = (.int .i64 (IntKind.i64.wrap (32 + (IntKind.i64.wrap (2 * s83.1)))) : Value), fun vz wz => vz = (.int .i64 s83.1 : Value), fun vz wz => vz = (.int .i64 (IntKind.i64.wrap (2 * s83.1)) : Value), fun vz wz => vz = (.int .i64 (IntKind.i64.wrap (34 + (IntKind.i64.wrap (2 * s83.1)))) : Value), fun vz wz => vz = (sv (cut t10.2.2.1 (IntKind.i64.wrap (32 + (IntKind.i64.wrap (2 * s83.1)))) (IntKind.i64.wrap (34 + (IntKind.i64.wrap (2 * s83.1))))) : Value), fun vz wz => vz = (.int .i64 t98 : Value), fun vz wz => ∃ v101 : Value, ∃ o103 : Own (kI .i64) 3 wz w.heap.size v101 [t98], vz = (v101 : Value)] mo rfl ⟨fun _ _ _ h _ => h, fun _ _ _ h _ => h, fun _ _ _ h _ => h, fun _ _ _ h _ => h, fun _ _ _ h _ => h, fun _ _ _ h _ => h, fun _ _ _ h _ => h, fun _ _ _ h _ => h, fun _ _ _ h _ => h, fun _ _ _ h _ => h, fun _ _ _ h _ => h, fun _ _ _ ⟨v101, o103, h⟩ q => ⟨v101, o103.gr q, h⟩, trivial⟩ ?_ ?_
   ·refine ⟨?_, ?_, ?_, ?_, ?_, ?_, ?_, ?_, ?_, ?_, ?_, ?_, trivial⟩
    ·intro ρz wz hz hk hd
     exact sk_val (v := (pt G20 8)) (xr_fieldAddr (p := 0) (q := 8) rfl fl110_3 ((hk 8 rfl).trans e8)) rfl rfl
    ·intro ρz wz hz hk hd
     exact sk_val (v := v90) (xr_load1 (v := v90) rfl ag25 (hd 0 rfl 74 rfl) ((b21.gr hz).seg 8 rfl rfl)) rfl rfl
    ·intro ρz wz hz hk hd
     exact sk_val (v := sv t10.2.2.1) (xr_move rfl ((hk 6 rfl).trans e6)) rfl rfl
    ·intro ρz wz hz hk hd
     exact sk_val (v := .int .i64 s83.1) (xr_move rfl ((hk 9 rfl).trans e9)) rfl rfl
    ·intro ρz wz hz hk hd
     exact sk_val (v := .int .i64 (IntKind.i64.wrap (2 * s83.1))) (xr_mul rfl rfl (hd 3 rfl 77 rfl)) rfl rfl
    ·intro ρz wz hz hk hd
     exact sk_val (xr_add rfl rfl (hd 4 rfl 78 rfl)) rfl rfl
    ·intro ρz wz hz hk hd
     exact sk_val (v := .int .i64 s83.1) (xr_move rfl ((hk 9 rfl).trans e9)) rfl rfl
    ·intro ρz wz hz hk hd
     exact sk_val (v := .int .i64 (IntKind.i64.wrap (2 * s83.1))) (xr_mul rfl rfl (hd 6 rfl 80 rfl)) rfl rfl
    ·intro ρz wz hz hk hd
     exact sk_val (xr_add rfl rfl (hd 7 rfl 81 rfl)) rfl rfl
    ·intro ρz wz hz hk hd
     exact sk_val (xr_str_lh rfl Try.underlying9 (hd 2 rfl 76 rfl) (hd 5 rfl 79 rfl) (hd 8 rfl 82 rfl) g97.1 g97.2.1 g97.2.2) rfl rfl
    ·intro ρz wz hz hk hd
     refine sk_op (opv_call rfl cal135 (ac (hd 9 rfl 83 rfl) an) (rickyardref01_Int.ok fu _ (cut t10.2.2.1 (IntKind.i64.wrap (32 + (IntKind.i64.wrap (2 * s83.1)))) (IntKind.i64.wrap (34 + (IntKind.i64.wrap (2 * s83.1))))) _ k99)) rfl ?_
     rintro _ wy ⟨rfl, q100⟩
     exact ⟨rfl, q100⟩
    intro ρz wz hz hk hd
    refine sk_op (opv_buildSlice (K := (kI .i64)) (xs := [t98]) (vals := [.int .i64 t98]) rfl Try.underlying25 el3 rfl rfl ⟨rfl, (hd 10 rfl 84 rfl), trivial⟩ rfl rfl rfl (Nat.le_trans fB.size hz.size)) rfl ?_
    rintro v101 wy ⟨o103, q102, z104⟩
    exact ⟨⟨v101, o103, rfl⟩, q102⟩
   intro ρ106 w107 q108 hk hd
   have e0 := (hk 0 rfl).trans e0
   have e2 := (hk 2 rfl).trans e2
   have e5 := (hk 5 rfl).trans e5
   have e6 := (hk 6 rfl).trans e6
   have e8 := (hk 8 rfl).trans e8
   have e9 := (hk 9 rfl).trans e9
   have e75 := hd 1 rfl 75 rfl
   obtain ⟨v109, o110, e85⟩ := hd 11 rfl 85 rfl
   have b5 := b5.gr q108
   have b21 := b21.gr q108
   have o91 := o91.gr q108
   have fB := fB.gr q108
   obtain ⟨g116, h⟩ := gs h
   have f118 := off_ty b5 o91 (by decide)
   have f119 := off_ty b21 o91 (by decide)
   have f120 := o91.geO
   refine ol_op (opv_append (K := (kI .i64)) rfl Try.underlying25 el3 rfl rfl rfl e75 e85 o91 o110.rd g116 fB.size) rfl rfl rfl ?_
   rintro v112 w121 ⟨o113, q114, n115⟩
   have b5 := b5.wrO q114 f118
   have b21 := b21.wrO q114 f119
   have fB := fB.wrO q114 f120
   refine ol_val (v := (pt G20 8)) (xr_fieldAddr (p := 0) (q := 8) rfl fl110_3 e8) rfl rfl rfl ?_
   have f123 := off_ty b21 o113 (by decide)
   refine ol_op0 (opv_store (ss' := [(sI t28), (sI t35), (sI t42), (sI t49), (sI t70), (sI t56), (sI t63), (sI t77), Seg.cell v112 o113.one]) (xs := cellsOf [Seg.cell v112 o113.one]) rfl sz25 rfl rfl (cells_one o113.one) (len_cellsOf _) (one_cellsOf _) b21 (Spl.segs _ 8 1 [Seg.cell v112 o113.one] rfl rfl)) rfl rfl ?_
   rintro _ w124 ⟨b21, q122⟩
   have b5 := b5.wr q122 n26
   have o113 := o113.wr q122 f123
   have fB := fB.wr q122 z23
   refine ol_nil ?_
   refine blk_i ?_
   refine cw_region ?_
   refine ol_val (v := .int .i64 s83.1) (xr_move rfl e9) rfl rfl rfl ?_
   refine ol_val (v := .int .i64 (IntKind.i64.wrap (s83.1 + 1))) (xr_add rfl rfl rfl) rfl rfl rfl ?_
   refine ol_val (v := .int .i64 (IntKind.i64.wrap (s83.1 + 1))) (xr_assign rfl rfl) rfl rfl rfl ?_
   refine ol_nil ?_
   obtain rfl := Option.some.inj h
   refine lp_in ?_
   exact ⟨v112, o113, e0, e2, e5, e6, e8, rfl, b5, b21, fB⟩
  refine cw_condF rfl c96 ?_
  refine cw_exit ?_
  repeat (first | with_reducible refine thn_e ?_ | with_reducible refine blk_e rfl ?_)
  obtain rfl := Option.some.inj h
  refine lp_exit ?_
  rintro rfl
  refine thn_x ?_
  exact ⟨v90, o91, e0, e2, e8, b5, b21, fB⟩
 rintro ρ125 w126 ⟨v87, o88, e0, e2, e8, b5, b21, fB⟩
 have h := h86
 refine cw_seq ?_
 refine cw_seq ?_
 obtain ⟨x127, j128, h⟩ := bs h
 refine cw_mid (fun ρ' w' => ρ' 2 = (pt G4 0) ∧ ρ' 8 = (pt G20 0) ∧ ρ' 97 = .bool x127 ∧ Gr w126 w') ?_ ?_
 ·skip
  obtain ⟨t129, k130, j128⟩ := bs j128
  rcases is j128 with ⟨c132, j128⟩ | ⟨c132, j128⟩
  ·skip
   refine cw_drawL 9 [fun vz wz => vz = (aggV [(sI t28), (sI t35), (sI t42), (sI t49), (sI t70), (sI t56), (sI t63), (sI t77), Seg.cell v87 o88.one] : Value), fun vz wz => vz = (.bool t129 : Value), fun vz wz => vz = (.bool (!t129) : Value), fun vz wz => vz = (.bool (!t129) : Value), fun vz _ => vz = undef, fun vz _ => vz = undef, fun vz _ => vz = undef, fun vz _ => vz = undef, fun vz _ => vz = undef] mo rfl ⟨fun _ _ _ h _ => h, fun _ _ _ h _ => h, fun _ _ _ h _ => h, fun _ _ _ h _ => h, fun _ _ _ h _ => h, fun _ _ _ h _ => h, fun _ _ _ h _ => h, fun _ _ _ h _ => h, fun _ _ _ h _ => h, trivial⟩ ?_ ?_
   ·refine ⟨?_, ?_, ?_, ?_, ?_, ?_, ?_, ?_, ?_, trivial⟩
    ·intro ρz wz hz hk hd
     exact sk_val (xr_loadS (ss := [(sI t28), (sI t35), (sI t42), (sI t49), (sI t70), (sI t56), (sI t63), (sI t77), Seg.cell v87 o88.one]) rfl ag110 sz110 rfl ((hk 8 rfl).trans e8) ((b21.gr hz).segs 0 9 rfl)) rfl rfl
    ·intro ρz wz hz hk hd
     refine sk_op (opv_call rfl cal75 (ac (hd 0 rfl 88 rfl) an) (rickyardref13_Right.ok fu _ (⟨t28, (⟨(⟨t35, t42, t49⟩ : S_api_Geometry), t70, t56, t63⟩ : S_api_Tickets), t77, e84⟩ : S_api_Super) v87 (o88.gr hz).rd _ k130)) rfl ?_
     rintro _ wy ⟨rfl, q131⟩
     exact ⟨rfl, q131⟩
    ·intro ρz wz hz hk hd
     exact sk_val (v := .bool (!t129)) (xr_not rfl (hd 1 rfl 89 rfl)) rfl rfl
    ·intro ρz wz hz hk hd
     exact sk_val (v := .bool (!t129)) (xr_move rfl (hd 2 rfl 90 rfl)) rfl rfl
    ·intro ρz wz hz hk hd
     exact sk_skip rfl rfl (hd 3 rfl 91 rfl) c132 rfl
    ·intro ρz wz hz hk hd
     exact sk_skip rfl rfl (hd 3 rfl 91 rfl) c132 rfl
    ·intro ρz wz hz hk hd
     exact sk_skip rfl rfl (hd 3 rfl 91 rfl) c132 rfl
    ·intro ρz wz hz hk hd
     exact sk_skip rfl rfl (hd 3 rfl 91 rfl) c132 rfl
    intro ρz wz hz hk hd
    exact sk_skip rfl rfl (hd 3 rfl 91 rfl) c132 rfl
   intro ρ133 w134 q135 hk hd
   have e2 := (hk 2 rfl).trans e2
   have e8 := (hk 8 rfl).trans e8
   have e91 := hd 3 rfl 91 rfl
   have b5 := b5.gr q135
   have b21 := b21.gr q135
   have o88 := o88.gr q135
   have fB := fB.gr q135
   refine ol_val (v := .bool true) (xr_pickT rfl e91 c132 rfl) rfl rfl rfl ?_
   refine ol_nil ?_
   obtain rfl := Option.some.inj j128
   refine thn_i ?_
   exact ⟨e2, e8, rfl, q135⟩
  obtain ⟨t136, k137, j128⟩ := bs j128
  refine cw_drawL 9 [fun vz wz => vz = (aggV [(sI t28), (sI t35), (sI t42), (sI t49), (sI t70), (sI t56), (sI t63), (sI t77), Seg.cell v87 o88.one] : Value), fun vz wz => vz = (.bool t129 : Value), fun vz wz => vz = (.bool (!t129) : Value), fun vz wz => vz = (.bool (!t129) : Value), fun vz wz => vz = (aggV [(sI t28), (sI t35), (sI t42), (sI t49), (sI t70), (sI t56), (sI t63), (sI t77), Seg.cell v87 o88.one] : Value), fun vz wz => vz = (sv t136 : Value), fun vz wz => vz = (V0_0 : Value), fun vz wz => vz = (sv (List.map toB a0) : Value), fun vz wz => vz = (.bool (!decide (t136 = (List.map toB a0))) : Value)] mo rfl ⟨fun _ _ _ h _ => h, fun _ _ _ h _ => h, fun _ _ _ h _ => h, fun _ _ _ h _ => h, fun _ _ _ h _ => h, fun _ _ _ h _ => h, fun _ _ _ h _ => h, fun _ _ _ h _ => h, fun _ _ _ h _ => h, trivial⟩ ?_ ?_
  ·refine ⟨?_, ?_, ?_, ?_, ?_, ?_, ?_, ?_, ?_, trivial⟩
   ·intro ρz wz hz hk hd
    exact sk_val (xr_loadS (ss := [(sI t28), (sI t35), (sI t42), (sI t49), (sI t70), (sI t56), (sI t63), (sI t77), Seg.cell v87 o88.one]) rfl ag110 sz110 rfl ((hk 8 rfl).trans e8) ((b21.gr hz).segs 0 9 rfl)) rfl rfl
   ·intro ρz wz hz hk hd
    refine sk_op (opv_call rfl cal75 (ac (hd 0 rfl 88 rfl) an) (rickyardref13_Right.ok fu _ (⟨t28, (⟨(⟨t35, t42, t49⟩ : S_api_Geometry), t70, t56, t63⟩ : S_api_Tickets), t77, e84⟩ : S_api_Super) v87 (o88.gr hz).rd _ k130)) rfl ?_
    rintro _ wy ⟨rfl, q131⟩
    exact ⟨rfl, q131⟩
   ·intro ρz wz hz hk hd
    exact sk_val (v := .bool (!t129)) (xr_not rfl (hd 1 rfl 89 rfl)) rfl rfl
   ·intro ρz wz hz hk hd
    exact sk_val (v := .bool (!t129)) (xr_move rfl (hd 2 rfl 90 rfl)) rfl rfl
   ·intro ρz wz hz hk hd
    exact sk_gval (xr_loadS (ss := [(sI t28), (sI t35), (sI t42), (sI t49), (sI t70), (sI t56), (sI t63), (sI t77), Seg.cell v87 o88.one]) rfl ag110 sz110 rfl ((hk 8 rfl).trans e8) ((b21.gr hz).segs 0 9 rfl)) rfl rfl (hd 3 rfl 91 rfl) c132 rfl
   ·intro ρz wz hz hk hd
    refine sk_gop (opv_call rfl cal76 (ac (hd 4 rfl 92 rfl) an) (rickyardref13_Put.ok fu _ (⟨t28, (⟨(⟨t35, t42, t49⟩ : S_api_Geometry), t70, t56, t63⟩ : S_api_Tickets), t77, e84⟩ : S_api_Super) v87 (o88.gr hz).rd _ k137)) rfl rfl (hd 3 rfl 91 rfl) c132 ?_
    rintro _ wy ⟨rfl, q138⟩
    exact ⟨rfl, q138⟩
   ·intro ρz wz hz hk hd
    exact sk_gval (v := V0_0) (xr_move rfl ((hk 0 rfl).trans e0)) rfl rfl (hd 3 rfl 91 rfl) c132 rfl
   ·intro ρz wz hz hk hd
    exact sk_gval (v := sv (List.map toB a0)) (xr_toStr rfl Try.underlying43 Try.underlying5 Try.underlying9 (hd 6 rfl 94 rfl) (R0_0.gr (fB.gr hz))) rfl rfl (hd 3 rfl 91 rfl) c132 rfl
   intro ρz wz hz hk hd
   exact sk_gval (v := .bool (!decide (t136 = (List.map toB a0)))) (xr_neStr rfl Try.underlying9 (hd 5 rfl 93 rfl) (hd 7 rfl 95 rfl)) rfl rfl (hd 3 rfl 91 rfl) c132 rfl
  intro ρ139 w140 q141 hk hd
  have e2 := (hk 2 rfl).trans e2
  have e8 := (hk 8 rfl).trans e8
  have e91 := hd 3 rfl 91 rfl
  have e96 := hd 8 rfl 96 rfl
  have b5 := b5.gr q141
  have b21 := b21.gr q141
  have o88 := o88.gr q141
  have fB := fB.gr q141
  refine ol_val (v := .bool (!decide (t136 = (List.map toB a0)))) (xr_pickF rfl e91 c132 e96) rfl rfl rfl ?_
  refine ol_nil ?_
  obtain rfl := Option.some.inj j128
  refine thn_i ?_
  exact ⟨e2, e8, rfl, q141⟩
 rintro ρ142 w143 ⟨e2, e8, e97, q144⟩
 have b5 := b5.gr q144
 have b21 := b21.gr q144
 have o88 := o88.gr q144
 have fB := fB.gr q144
 rcases is h with ⟨c145, h⟩ | ⟨c145, h⟩
 ·refine cw_condT e97 c145 ?_
  refine cw_seq ?_
  refine cw_region ?_
  refine ol_val (v := aggV [(sI (0 : Int)), (sI (0 : Int)), (sI (0 : Int)), (sI (0 : Int)), (sI (0 : Int)), (sI (0 : Int)), (sI (0 : Int)), (sI (0 : Int)), Seg.cell (.slice none 0 0) (by rfl)]) (xr_build (vals := []) rfl trivial (bl110_ _)) rfl rfl rfl ?_
  refine ol_op0 (opv_store (ss' := [(sI (0 : Int)), (sI (0 : Int)), (sI (0 : Int)), (sI (0 : Int)), (sI (0 : Int)), (sI (0 : Int)), (sI (0 : Int)), (sI (0 : Int)), Seg.cell (.slice none 0 0) (by rfl)]) (xs := cellsOf [(sI (0 : Int)), (sI (0 : Int)), (sI (0 : Int)), (sI (0 : Int)), (sI (0 : Int)), (sI (0 : Int)), (sI (0 : Int)), (sI (0 : Int)), Seg.cell (.slice none 0 0) (by rfl)]) rfl sz110 e2 rfl rfl (len_cellsOf _) (one_cellsOf _) b5 (Spl.segs _ 0 9 [(sI (0 : Int)), (sI (0 : Int)), (sI (0 : Int)), (sI (0 : Int)), (sI (0 : Int)), (sI (0 : Int)), (sI (0 : Int)), (sI (0 : Int)), Seg.cell (.slice none 0 0) (by rfl)] rfl rfl)) rfl rfl ?_
  rintro _ w147 ⟨b5, q146⟩
  have fB := fB.wr q146 z7
  refine ol_val (v := .bool false) (xr_assign rfl rfl) rfl rfl rfl ?_
  refine ol_nil ?_
  refine cw_ret ?_
  repeat (first | with_reducible refine thn_r ?_ | with_reducible refine blk_r ?_)
  obtain rfl := Option.some.inj h
  refine fin_cell_tmp Try.results114 e2 ag110 sz110 b5 (by rfl) rfl ?_
  exact ⟨_, rfl, (.slice none 0 0), Own.nil _ _ _ _, rfl, fB⟩
 refine cw_condF e97 c145 ?_
 refine cw_skip ?_
 refine cw_seq ?_
 refine cw_region ?_
 refine ol_val (v := aggV [(sI t28), (sI t35), (sI t42), (sI t49), (sI t70), (sI t56), (sI t63), (sI t77), Seg.cell v87 o88.one]) (xr_loadS (ss := [(sI t28), (sI t35), (sI t42), (sI t49), (sI t70), (sI t56), (sI t63), (sI t77), Seg.cell v87 o88.one]) rfl ag110 sz110 rfl e8 (b21.segs 0 9 rfl)) rfl rfl rfl ?_
 have f149 := off_ty b5 o88 (by decide)
 refine ol_op0 (opv_store (ss' := [(sI t28), (sI t35), (sI t42), (sI t49), (sI t70), (sI t56), (sI t63), (sI t77), Seg.cell v87 o88.one]) (xs := cellsOf [(sI t28), (sI t35), (sI t42), (sI t49), (sI t70), (sI t56), (sI t63), (sI t77), Seg.cell v87 o88.one]) rfl sz110 e2 rfl rfl (len_cellsOf _) (one_cellsOf _) b5 (Spl.segs _ 0 9 [(sI t28), (sI t35), (sI t42), (sI t49), (sI t70), (sI t56), (sI t63), (sI t77), Seg.cell v87 o88.one] rfl rfl)) rfl rfl ?_
 rintro _ w150 ⟨b5, q148⟩
 have o88 := o88.wr q148 f149
 have fB := fB.wr q148 z7
 refine ol_val (v := .bool true) (xr_assign rfl rfl) rfl rfl rfl ?_
 refine ol_nil ?_
 refine cw_ret ?_
 repeat (first | with_reducible refine thn_r ?_ | with_reducible refine blk_r ?_)
 obtain rfl := Option.some.inj h
 refine fin_cell_tmp Try.results114 e2 ag110 sz110 b5 (by rfl) rfl ?_
 exact ⟨_, rfl, v87, o88, rfl, fB⟩
def rickyardref16_At.f (fu : Nat) (a0 : List UInt8) (a1 : Int) : Option (S_api_Super × Bool) := (if (if (decide (a1 < 0)) = true then true else (if (decide (a1 > 1)) = true then true else (decide ((List.length a0 : Int) < (IntKind.i64.wrap ((IntKind.i64.wrap (64 * a1)) + 64)))))) = true then some ((⟨(0 : Int), (⟨(⟨(0 : Int), (0 : Int), (0 : Int)⟩ : S_api_Geometry), (0 : Int), (0 : Int), (0 : Int)⟩ : S_api_Tickets), (0 : Int), []⟩ : S_api_Super), false) else (if (0 : Int) ≤ (IntKind.i64.wrap (64 * a1)) ∧ (IntKind.i64.wrap (64 * a1)) ≤ (IntKind.i64.wrap ((IntKind.i64.wrap (64 * a1)) + 64)) ∧ (IntKind.i64.wrap ((IntKind.i64.wrap (64 * a1)) + 64)) ≤ (List.length a0 : Int) then ((rickyardref13_Get.f fu (List.map ofB (cut a0 (IntKind.i64.wrap (64 * a1)) (IntKind.i64.wrap ((IntKind.i64.wrap (64 * a1)) + 64))))).bind fun t21 => some (t21.1, t21.2)) else none))
theorem rickyardref16_At.ok (fu : Nat) (w : World) (a0 : List UInt8) (a1 : Int) (r : S_api_Super × Bool) (h : rickyardref16_At.f fu a0 a1 = some r) :
  Calls Try.prog 71 (([sv a0, .int .i64 a1] : List Value).toArray) w (fun e w' => ∃ v, e = .returned v ∧ ∃ u1 : Value, ∃ o2 : Own (kI .i64) 3 w' w.heap.size u1 r.1.Charts, v = .tuple #[aggV [(sI r.1.Epoch), (sI r.1.Tickets.Geometry.Blocks), (sI r.1.Tickets.Geometry.Slots), (sI r.1.Tickets.Geometry.Gens), (sI r.1.Tickets.Top), (sI r.1.Tickets.High), (sI r.1.Tickets.Free), (sI r.1.Dir), Seg.cell u1 o2.one], .bool r.2] ∧ Gr w w') := by
 unfold rickyardref16_At.f at h
 have fB : Gr w w := Fr.refl _ _
 refine calls_cw Try.func71 rfl Try.ntmps71 rfl ?_
 refine cw_seq ?_
 refine cw_region ?_
 refine ol_op (opv_alloc (ss := [(sI (0 : Int)), (sI (0 : Int)), (sI (0 : Int)), (sI (0 : Int)), (sI (0 : Int)), (sI (0 : Int)), (sI (0 : Int)), (sI (0 : Int)), Seg.cell (.slice none 0 0) (by rfl)]) rfl ze110 rfl) rfl rfl rfl ?_
 rintro _ w9 ⟨G4, rfl, b5, q6, z7⟩
 have z7 := Nat.le_trans fB.size z7
 have fB := fB.gr q6
 refine ol_val (v := .bool false) (xr_assign rfl rfl) rfl rfl rfl ?_
 refine ol_nil ?_
 refine cw_seq ?_
 refine cw_seq ?_
 refine cw_mid (fun ρ' w' => ρ' 0 = sv a0 ∧ ρ' 1 = .int .i64 a1 ∧ ρ' 4 = (pt G4 0) ∧ ρ' 19 = .bool (if (decide (a1 < 0)) = true then true else (if (decide (a1 > 1)) = true then true else (decide ((List.length a0 : Int) < (IntKind.i64.wrap ((IntKind.i64.wrap (64 * a1)) + 64)))))) ∧ w9 = w') ?_ ?_
 ·skip
  refine cw_region ?_
  refine ol_val (v := .int .i64 a1) (xr_move rfl rfl) rfl rfl rfl ?_
  refine ol_val (v := .bool (decide (a1 < 0))) (xr_lss rfl rfl rfl) rfl rfl rfl ?_
  refine ol_val (v := .bool (decide (a1 < 0))) (xr_move rfl rfl) rfl rfl rfl ?_
  rcases bt (decide (a1 < 0)) with c10 | c10
  ·skip
   refine ol_gskip rfl rfl rfl rfl rfl c10 ?_
   refine ol_gskip rfl rfl rfl rfl rfl c10 ?_
   refine ol_val (v := .bool true) (xr_pickT rfl rfl c10 rfl) rfl rfl rfl ?_
   refine ol_val (v := .bool true) (xr_move rfl rfl) rfl rfl rfl ?_
   refine ol_gskip rfl rfl rfl rfl rfl rfl ?_
   refine ol_gskip rfl rfl rfl rfl rfl rfl ?_
   refine ol_gskip rfl rfl rfl rfl rfl rfl ?_
   refine ol_gskip rfl rfl rfl rfl rfl rfl ?_
   refine ol_gskip rfl rfl rfl rfl rfl rfl ?_
   refine ol_gskip rfl rfl rfl rfl rfl rfl ?_
   refine ol_val (v := .bool true) (xr_pickT rfl rfl rfl rfl) rfl rfl rfl ?_
   refine ol_nil ?_
   refine thn_i ?_
   exact ⟨rfl, rfl, rfl, (rfl).trans (congrArg (fun z => (.bool z : Value)) (show true = (if (decide (a1 < 0)) = true then true else (if (decide (a1 > 1)) = true then true else (decide ((List.length a0 : Int) < (IntKind.i64.wrap ((IntKind.i64.wrap (64 * a1)) + 64)))))) from by rw [ite_t c10])), rfl⟩
  refine ol_gval (v := .int .i64 a1) (xr_move rfl rfl) rfl rfl rfl rfl rfl c10 ?_
  refine ol_gval (v := .bool (decide (a1 > 1))) (xr_gtr rfl rfl rfl) rfl rfl rfl rfl rfl c10 ?_
  refine ol_val (v := .bool (decide (a1 > 1))) (xr_pickF rfl rfl c10 rfl) rfl rfl rfl ?_
  refine ol_val (v := .bool (decide (a1 > 1))) (xr_move rfl rfl) rfl rfl rfl ?_
  rcases bt (decide (a1 > 1)) with c11 | c11
  ·skip
   refine ol_gskip rfl rfl rfl rfl rfl c11 ?_
   refine ol_gskip rfl rfl rfl rfl rfl c11 ?_
   refine ol_gskip rfl rfl rfl rfl rfl c11 ?_
   refine ol_gskip rfl rfl rfl rfl rfl c11 ?_
   refine ol_gskip rfl rfl rfl rfl rfl c11 ?_
   refine ol_gskip rfl rfl rfl rfl rfl c11 ?_
   refine ol_val (v := .bool true) (xr_pickT rfl rfl c11 rfl) rfl rfl rfl ?_
   refine ol_nil ?_
   refine thn_i ?_
   exact ⟨rfl, rfl, rfl, (rfl).trans (congrArg (fun z => (.bool z : Value)) (show true = (if (decide (a1 < 0)) = true then true else (if (decide (a1 > 1)) = true then true else (decide ((List.length a0 : Int) < (IntKind.i64.wrap ((IntKind.i64.wrap (64 * a1)) + 64)))))) from by rw [ite_f c10, ite_t c11])), rfl⟩
  refine ol_gval (v := sv a0) (xr_move rfl rfl) rfl rfl rfl rfl rfl c11 ?_
  refine ol_gval (v := .int .i64 (List.length a0 : Int)) (xr_lenStr rfl Try.underlying9 rfl) rfl rfl rfl rfl rfl c11 ?_
  refine ol_gval (v := .int .i64 a1) (xr_move rfl rfl) rfl rfl rfl rfl rfl c11 ?_
  refine ol_gval (v := .int .i64 (IntKind.i64.wrap (64 * a1))) (xr_mul rfl rfl rfl) rfl rfl rfl rfl rfl c11 ?_
  refine ol_gval (v := .int .i64 (IntKind.i64.wrap ((IntKind.i64.wrap (64 * a1)) + 64))) (xr_add rfl rfl rfl) rfl rfl rfl rfl rfl c11 ?_
  refine ol_gval (v := .bool (decide ((List.length a0 : Int) < (IntKind.i64.wrap ((IntKind.i64.wrap (64 * a1)) + 64))))) (xr_lss rfl rfl rfl) rfl rfl rfl rfl rfl c11 ?_
  refine ol_val (v := .bool (decide ((List.length a0 : Int) < (IntKind.i64.wrap ((IntKind.i64.wrap (64 * a1)) + 64))))) (xr_pickF rfl rfl c11 rfl) rfl rfl rfl ?_
  refine ol_nil ?_
  refine thn_i ?_
  exact ⟨rfl, rfl, rfl, (rfl).trans (congrArg (fun z => (.bool z : Value)) (show (decide ((List.length a0 : Int) < (IntKind.i64.wrap ((IntKind.i64.wrap (64 * a1)) + 64)))) = (if (decide (a1 < 0)) = true then true else (if (decide (a1 > 1)) = true then true else (decide ((List.length a0 : Int) < (IntKind.i64.wrap ((IntKind.i64.wrap (64 * a1)) + 64)))))) from by rw [ite_f c10, ite_f c11])), rfl⟩
 rintro ρ12 _ ⟨e0, e1, e4, e19, rfl⟩
 rcases is h with ⟨c13, h⟩ | ⟨c13, h⟩
 ·refine cw_condT e19 c13 ?_
  refine cw_seq ?_
  refine cw_region ?_
  refine ol_val (v := aggV [(sI (0 : Int)), (sI (0 : Int)), (sI (0 : Int)), (sI (0 : Int)), (sI (0 : Int)), (sI (0 : Int)), (sI (0 : Int)), (sI (0 : Int)), Seg.cell (.slice none 0 0) (by rfl)]) (xr_build (vals := []) rfl trivial (bl110_ _)) rfl rfl rfl ?_
  refine ol_op0 (opv_store (ss' := [(sI (0 : Int)), (sI (0 : Int)), (sI (0 : Int)), (sI (0 : Int)), (sI (0 : Int)), (sI (0 : Int)), (sI (0 : Int)), (sI (0 : Int)), Seg.cell (.slice none 0 0) (by rfl)]) (xs := cellsOf [(sI (0 : Int)), (sI (0 : Int)), (sI (0 : Int)), (sI (0 : Int)), (sI (0 : Int)), (sI (0 : Int)), (sI (0 : Int)), (sI (0 : Int)), Seg.cell (.slice none 0 0) (by rfl)]) rfl sz110 e4 rfl rfl (len_cellsOf _) (one_cellsOf _) b5 (Spl.segs _ 0 9 [(sI (0 : Int)), (sI (0 : Int)), (sI (0 : Int)), (sI (0 : Int)), (sI (0 : Int)), (sI (0 : Int)), (sI (0 : Int)), (sI (0 : Int)), Seg.cell (.slice none 0 0) (by rfl)] rfl rfl)) rfl rfl ?_
  rintro _ w15 ⟨b5, q14⟩
  have fB := fB.wr q14 z7
  refine ol_val (v := .bool false) (xr_assign rfl rfl) rfl rfl rfl ?_
  refine ol_nil ?_
  refine cw_ret ?_
  repeat (first | with_reducible refine thn_r ?_ | with_reducible refine blk_r ?_)
  obtain rfl := Option.some.inj h
  refine fin_cell_tmp Try.results71 e4 ag110 sz110 b5 (by rfl) rfl ?_
  exact ⟨_, rfl, (.slice none 0 0), Own.nil _ _ _ _, rfl, fB⟩
 refine cw_condF e19 c13 ?_
 refine cw_skip ?_
 refine cw_seq ?_
 refine cw_region ?_
 refine ol_val (v := sv a0) (xr_move rfl e0) rfl rfl rfl ?_
 refine ol_val (v := .int .i64 a1) (xr_move rfl e1) rfl rfl rfl ?_
 refine ol_val (v := .int .i64 (IntKind.i64.wrap (64 * a1))) (xr_mul rfl rfl rfl) rfl rfl rfl ?_
 refine ol_val (v := .int .i64 a1) (xr_move rfl e1) rfl rfl rfl ?_
 refine ol_val (v := .int .i64 (IntKind.i64.wrap (64 * a1))) (xr_mul rfl rfl rfl) rfl rfl rfl ?_
 refine ol_val (v := .int .i64 (IntKind.i64.wrap ((IntKind.i64.wrap (64 * a1)) + 64))) (xr_add rfl rfl rfl) rfl rfl rfl ?_
 obtain ⟨g16, h⟩ := gs h
 refine ol_val (v := sv (cut a0 (IntKind.i64.wrap (64 * a1)) (IntKind.i64.wrap ((IntKind.i64.wrap (64 * a1)) + 64)))) (xr_str_lh rfl Try.underlying9 rfl rfl rfl g16.1 g16.2.1 g16.2.2) rfl rfl rfl ?_
 refine ol_op (opv_toBytes rfl Try.underlying9 Try.underlying43 Try.underlying5 rfl) rfl rfl rfl ?_
 rintro v17 w20 ⟨r19, q18⟩
 have b5 := b5.gr q18
 have fB := fB.gr q18
 obtain ⟨t21, k22, h⟩ := bs h
 refine ol_op (opv_call rfl cal114 (ac rfl an) (rickyardref13_Get.ok fu _ (List.map ofB (cut a0 (IntKind.i64.wrap (64 * a1)) (IntKind.i64.wrap ((IntKind.i64.wrap (64 * a1)) + 64)))) v17 (r19) _ k22)) rfl rfl rfl ?_
 rintro _ w27 ⟨u23, o24, rfl, q26⟩
 have o24 := Own.base o24 fB.size
 have b5 := b5.gr q26
 have fB := fB.gr q26
 refine ol_val (v := aggV [(sI t21.1.Epoch), (sI t21.1.Tickets.Geometry.Blocks), (sI t21.1.Tickets.Geometry.Slots), (sI t21.1.Tickets.Geometry.Gens), (sI t21.1.Tickets.Top), (sI t21.1.Tickets.High), (sI t21.1.Tickets.Free), (sI t21.1.Dir), Seg.cell u23 o24.one]) (xr_extract rfl rfl rfl) rfl rfl rfl ?_
 refine ol_val (v := .bool t21.2) (xr_extract rfl rfl rfl) rfl rfl rfl ?_
 have f29 := off_ty b5 o24 (by decide)
 refine ol_op0 (opv_store (ss' := [(sI t21.1.Epoch), (sI t21.1.Tickets.Geometry.Blocks), (sI t21.1.Tickets.Geometry.Slots), (sI t21.1.Tickets.Geometry.Gens), (sI t21.1.Tickets.Top), (sI t21.1.Tickets.High), (sI t21.1.Tickets.Free), (sI t21.1.Dir), Seg.cell u23 o24.one]) (xs := cellsOf [(sI t21.1.Epoch), (sI t21.1.Tickets.Geometry.Blocks), (sI t21.1.Tickets.Geometry.Slots), (sI t21.1.Tickets.Geometry.Gens), (sI t21.1.Tickets.Top), (sI t21.1.Tickets.High), (sI t21.1.Tickets.Free), (sI t21.1.Dir), Seg.cell u23 o24.one]) rfl sz110 e4 rfl rfl (len_cellsOf _) (one_cellsOf _) b5 (Spl.segs _ 0 9 [(sI t21.1.Epoch), (sI t21.1.Tickets.Geometry.Blocks), (sI t21.1.Tickets.Geometry.Slots), (sI t21.1.Tickets.Geometry.Gens), (sI t21.1.Tickets.Top), (sI t21.1.Tickets.High), (sI t21.1.Tickets.Free), (sI t21.1.Dir), Seg.cell u23 o24.one] rfl rfl)) rfl rfl ?_
 rintro _ w30 ⟨b5, q28⟩
 have o24 := o24.wr q28 f29
 have fB := fB.wr q28 z7
 refine ol_val (v := .bool t21.2) (xr_assign rfl rfl) rfl rfl rfl ?_
 refine ol_nil ?_
 refine cw_ret ?_
 repeat (first | with_reducible refine thn_r ?_ | with_reducible refine blk_r ?_)
 obtain rfl := Option.some.inj h
 refine fin_cell_tmp Try.results71 e4 ag110 sz110 b5 (by rfl) rfl ?_
 exact ⟨_, rfl, u23, o24, rfl, fB⟩
def rickyardref01_Ints.s0 (fu : Nat) (a0 : List Int) (a1 : List Int) : Int → Option (Sum (Sum Bool Unit) Int) := fun s2 => (if (decide (s2 < (List.length a0 : Int))) = true then (if 0 ≤ s2 ∧ s2 < (List.length a0 : Int) then (if 0 ≤ s2 ∧ s2 < (List.length a1 : Int) then (if (!decide ((ix a0 s2) = (ix a1 s2))) = true then some (Sum.inl (Sum.inl (false))) else some (Sum.inr ((IntKind.i64.wrap (s2 + 1))))) else none) else none) else some (Sum.inl (Sum.inr ())))
def rickyardref01_Ints.f (fu : Nat) (a0 : List Int) (a1 : List Int) : Option Bool := (if (!decide ((List.length a0 : Int) = (List.length a1 : Int))) = true then some (false) else ((loopM (rickyardref01_Ints.s0 fu a0 a1) fu (0)).bind fun e3 => match e3 with | Sum.inl p => some p | Sum.inr x6 => some (true)))
theorem rickyardref01_Ints.ok (fu : Nat) (w : World) (a0 : List Int) (V0_0 : Value) (R0_0 : Rd (kI .i64) w V0_0 a0) (a1 : List Int) (V1_0 : Value) (R1_0 : Rd (kI .i64) w V1_0 a1) (r : Bool) (h : rickyardref01_Ints.f fu a0 a1 = some r) :
  Calls Try.prog 66 (([V0_0, V1_0] : List Value).toArray) w (fun e w' => ∃ v, e = .returned v ∧ v = .bool r ∧ Gr w w') := by
 unfold rickyardref01_Ints.f at h
 have fB : Gr w w := Fr.refl _ _
 refine calls_cw Try.func66 rfl Try.ntmps66 rfl ?_
 refine cw_seq ?_
 refine cw_region ?_
 refine ol_val (v := .bool false) (xr_assign rfl rfl) rfl rfl rfl ?_
 refine ol_nil ?_
 refine cw_seq ?_
 refine cw_seq ?_
 refine cw_region ?_
 refine ol_val (v := V0_0) (xr_move rfl rfl) rfl rfl rfl ?_
 refine ol_val (v := .int .i64 (List.length a0 : Int)) (xr_lenR rfl Try.underlying25 rfl (R0_0.gr fB)) rfl rfl rfl ?_
 refine ol_val (v := V1_0) (xr_move rfl rfl) rfl rfl rfl ?_
 refine ol_val (v := .int .i64 (List.length a1 : Int)) (xr_lenR rfl Try.underlying25 rfl (R1_0.gr fB)) rfl rfl rfl ?_
 refine ol_val (v := .bool (!decide ((List.length a0 : Int) = (List.length a1 : Int)))) (xr_neI rfl Try.underlying3 rfl rfl rfl) rfl rfl rfl ?_
 refine ol_nil ?_
 rcases is h with ⟨c1, h⟩ | ⟨c1, h⟩
 ·refine cw_condT rfl c1 ?_
  refine cw_seq ?_
  refine cw_region ?_
  refine ol_val (v := .bool false) (xr_assign rfl rfl) rfl rfl rfl ?_
  refine ol_nil ?_
  refine cw_ret ?_
  repeat (first | with_reducible refine thn_r ?_ | with_reducible refine blk_r ?_)
  obtain rfl := Option.some.inj h
  refine fin_ret1 Try.results66 rfl ?_
  exact ⟨_, rfl, rfl, fB⟩
 refine cw_condF rfl c1 ?_
 refine cw_skip ?_
 refine cw_seq ?_
 refine cw_seq ?_
 refine cw_region ?_
 refine ol_val (v := .int .i64 0) (xr_assign rfl rfl) rfl rfl rfl ?_
 refine ol_nil ?_
 obtain ⟨e3, l4, h5⟩ := bs h
 refine cw_mid (fun ρ' w' => ∃ x6, e3 = Sum.inr x6 ∧ Gr w w') ?_ ?_
 ·refine cw_block ?_
  refine cw_round (fun (s2 : Int) ρ' w' => ρ' 0 = V0_0 ∧ ρ' 1 = V1_0 ∧ ρ' 5 = .int .i64 s2 ∧ Gr w w') l4 ?_ ?_
  ·skip
   exact ⟨rfl, rfl, rfl, fB⟩
  rintro s2 x9 ρ7 w8 ⟨e0, e1, e5, fB⟩ h
  unfold rickyardref01_Ints.s0 at h
  refine cw_seq ?_
  refine cw_seq ?_
  refine cw_region ?_
  refine ol_val (v := .int .i64 s2) (xr_move rfl e5) rfl rfl rfl ?_
  refine ol_val (v := V0_0) (xr_move rfl e0) rfl rfl rfl ?_
  refine ol_val (v := .int .i64 (List.length a0 : Int)) (xr_lenR rfl Try.underlying25 rfl (R0_0.gr fB)) rfl rfl rfl ?_
  refine ol_val (v := .bool (decide (s2 < (List.length a0 : Int)))) (xr_lss rfl rfl rfl) rfl rfl rfl ?_
  refine ol_nil ?_
  rcases is h with ⟨c10, h⟩ | ⟨c10, h⟩
  ·refine cw_condT rfl c10 ?_
   refine cw_skip ?_
   refine cw_seq ?_
   refine cw_block ?_
   refine cw_seq ?_
   obtain ⟨g11, h⟩ := gs h
   obtain ⟨g12, h⟩ := gs h
   refine cw_drawL 8 [fun vz wz => vz = (V0_0 : Value), fun vz wz => vz = (.int .i64 s2 : Value), fun vz wz => vz = ((pt ((sb V0_0)) (so V0_0 + Int.toNat s2 * 1)) : Value), fun vz wz => vz = (.int .i64 (ix a0 s2) : Value), fun vz wz => vz = (V1_0 : Value), fun vz wz => vz = (.int .i64 s2 : Value), fun vz wz => vz = ((pt ((sb V1_0)) (so V1_0 + Int.toNat s2 * 1)) : Value), fun vz wz => vz = (.int .i64 (ix a1 s2) : Value)] mo rfl ⟨fun _ _ _ h _ => h, fun _ _ _ h _ => h, fun _ _ _ h _ => h, fun _ _ _ h _ => h, fun _ _ _ h _ => h, fun _ _ _ h _ => h, fun _ _ _ h _ => h, fun _ _ _ h _ => h, trivial⟩ ?_ ?_
   ·refine ⟨?_, ?_, ?_, ?_, ?_, ?_, ?_, ?_, trivial⟩
    ·intro ρz wz hz hk hd
     exact sk_val (v := V0_0) (xr_move rfl ((hk 0 rfl).trans e0)) rfl rfl
    ·intro ρz wz hz hk hd
     exact sk_val (v := .int .i64 s2) (xr_move rfl ((hk 5 rfl).trans e5)) rfl rfl
    ·intro ρz wz hz hk hd
     exact sk_val (xr_indexR (K := (kI .i64)) (v := V0_0) rfl Try.underlying25 sz3 (hd 0 rfl 17 rfl) (R0_0.gr (fB.gr hz)) (hd 1 rfl 18 rfl) g11.1 g11.2) rfl rfl
    ·intro ρz wz hz hk hd
     exact sk_val (v := .int .i64 (ix a0 s2)) (xr_load1 (v := .int .i64 (ix a0 s2)) rfl ag3 (hd 2 rfl 19 rfl) ((R0_0.gr (fB.gr hz)).elem g11.1 g11.2)) rfl rfl
    ·intro ρz wz hz hk hd
     exact sk_val (v := V1_0) (xr_move rfl ((hk 1 rfl).trans e1)) rfl rfl
    ·intro ρz wz hz hk hd
     exact sk_val (v := .int .i64 s2) (xr_move rfl ((hk 5 rfl).trans e5)) rfl rfl
    ·intro ρz wz hz hk hd
     exact sk_val (xr_indexR (K := (kI .i64)) (v := V1_0) rfl Try.underlying25 sz3 (hd 4 rfl 21 rfl) (R1_0.gr (fB.gr hz)) (hd 5 rfl 22 rfl) g12.1 g12.2) rfl rfl
    intro ρz wz hz hk hd
    exact sk_val (v := .int .i64 (ix a1 s2)) (xr_load1 (v := .int .i64 (ix a1 s2)) rfl ag3 (hd 6 rfl 23 rfl) ((R1_0.gr (fB.gr hz)).elem g12.1 g12.2)) rfl rfl
   intro ρ13 w14 q15 hk hd
   have e0 := (hk 0 rfl).trans e0
   have e1 := (hk 1 rfl).trans e1
   have e5 := (hk 5 rfl).trans e5
   have e20 := hd 3 rfl 20 rfl
   have e24 := hd 7 rfl 24 rfl
   have fB := fB.gr q15
   refine ol_val (v := .bool (!decide ((ix a0 s2) = (ix a1 s2)))) (xr_neI rfl Try.underlying3 rfl e20 e24) rfl rfl rfl ?_
   refine ol_nil ?_
   rcases is h with ⟨c16, h⟩ | ⟨c16, h⟩
   ·refine cw_condT rfl c16 ?_
    refine cw_seq ?_
    refine cw_region ?_
    refine ol_val (v := .bool false) (xr_assign rfl rfl) rfl rfl rfl ?_
    refine ol_nil ?_
    refine cw_ret ?_
    repeat (first | with_reducible refine thn_r ?_ | with_reducible refine blk_r ?_)
    obtain rfl := Option.some.inj h
    refine lp_ret ?_
    rintro rfl
    repeat (first | with_reducible refine thn_r ?_ | with_reducible refine blk_r ?_)
    have h := h5
    obtain rfl := Option.some.inj h
    refine fin_ret1 Try.results66 rfl ?_
    exact ⟨_, rfl, rfl, fB⟩
   refine cw_condF rfl c16 ?_
   refine cw_skip ?_
   refine blk_i ?_
   refine cw_region ?_
   refine ol_val (v := .int .i64 s2) (xr_move rfl e5) rfl rfl rfl ?_
   refine ol_val (v := .int .i64 (IntKind.i64.wrap (s2 + 1))) (xr_add rfl rfl rfl) rfl rfl rfl ?_
   refine ol_val (v := .int .i64 (IntKind.i64.wrap (s2 + 1))) (xr_assign rfl rfl) rfl rfl rfl ?_
   refine ol_nil ?_
   obtain rfl := Option.some.inj h
   refine lp_in ?_
   exact ⟨e0, e1, rfl, fB⟩
  refine cw_condF rfl c10 ?_
  refine cw_exit ?_
  repeat (first | with_reducible refine thn_e ?_ | with_reducible refine blk_e rfl ?_)
  obtain rfl := Option.some.inj h
  refine lp_exit ?_
  rintro rfl
  refine thn_x ?_
  exact ⟨_, rfl, fB⟩
 rintro ρ17 w18 ⟨x6, rfl, fB⟩
 have h := h5
 refine cw_seq ?_
 refine cw_region ?_
 refine ol_val (v := .bool true) (xr_assign rfl rfl) rfl rfl rfl ?_
 refine ol_nil ?_
 refine cw_ret ?_
 repeat (first | with_reducible refine thn_r ?_ | with_reducible refine blk_r ?_)
 obtain rfl := Option.some.inj h
 refine fin_ret1 Try.results66 rfl ?_
 exact ⟨_, rfl, rfl, fB⟩
def rickyardref13_Same.f (fu : Nat) (a0 : S_api_Super) (a1 : S_api_Super) : Option Bool := (((if (decide (a0.Epoch = a1.Epoch)) = true then (if (decide (a0.Tickets.Geometry = a1.Tickets.Geometry)) = true then (if (decide (a0.Tickets.High = a1.Tickets.High)) = true then (if (decide (a0.Tickets.Free = a1.Tickets.Free)) = true then (if (decide (a0.Tickets.Top = a1.Tickets.Top)) = true then (if (decide (a0.Dir = a1.Dir)) = true then ((rickyardref01_Ints.f fu a0.Charts a1.Charts).bind fun t22 => some (t22)) else some (false)) else some (false)) else some (false)) else some (false)) else some (false)) else some (false)) : Option Bool).bind fun x14 => some (x14))
theorem rickyardref13_Same.ok (fu : Nat) (w : World) (a0 : S_api_Super) (V0_0 : Value) (R0_0 : Rd (kI .i64) w V0_0 a0.Charts) (a1 : S_api_Super) (V1_0 : Value) (R1_0 : Rd (kI .i64) w V1_0 a1.Charts) (r : Bool) (h : rickyardref13_Same.f fu a0 a1 = some r) :
  Calls Try.prog 74 (([aggV [(sI a0.Epoch), (sI a0.Tickets.Geometry.Blocks), (sI a0.Tickets.Geometry.Slots), (sI a0.Tickets.Geometry.Gens), (sI a0.Tickets.Top), (sI a0.Tickets.High), (sI a0.Tickets.Free), (sI a0.Dir), Seg.cell V0_0 R0_0.one], aggV [(sI a1.Epoch), (sI a1.Tickets.Geometry.Blocks), (sI a1.Tickets.Geometry.Slots), (sI a1.Tickets.Geometry.Gens), (sI a1.Tickets.Top), (sI a1.Tickets.High), (sI a1.Tickets.Free), (sI a1.Dir), Seg.cell V1_0 R1_0.one]] : List Value).toArray) w (fun e w' => ∃ v, e = .returned v ∧ v = .bool r ∧ Gr w w') := by
 unfold rickyardref13_Same.f at h
 have fB : Gr w w := Fr.refl _ _
 refine calls_cw Try.func74 rfl Try.ntmps74 rfl ?_
 refine cw_seq ?_
 refine cw_region ?_
 refine ol_op (opv_box (ss := [(sI a0.Epoch), (sI a0.Tickets.Geometry.Blocks), (sI a0.Tickets.Geometry.Slots), (sI a0.Tickets.Geometry.Gens), (sI a0.Tickets.Top), (sI a0.Tickets.High), (sI a0.Tickets.Free), (sI a0.Dir), Seg.cell V0_0 R0_0.one]) rfl rfl rfl) rfl rfl rfl ?_
 rintro _ w6 ⟨G1, rfl, b2, q3, z4⟩
 have z4 := Nat.le_trans fB.size z4
 have fB := fB.gr q3
 refine ol_op (opv_box (ss := [(sI a1.Epoch), (sI a1.Tickets.Geometry.Blocks), (sI a1.Tickets.Geometry.Slots), (sI a1.Tickets.Geometry.Gens), (sI a1.Tickets.Top), (sI a1.Tickets.High), (sI a1.Tickets.Free), (sI a1.Dir), Seg.cell V1_0 R1_0.one]) rfl rfl rfl) rfl rfl rfl ?_
 rintro _ w12 ⟨G7, rfl, b8, q9, z10⟩
 have n13 := b2.ne z10
 have z10 := Nat.le_trans fB.size z10
 have b2 := b2.gr q9
 have fB := fB.gr q9
 refine ol_val (v := .bool false) (xr_assign rfl rfl) rfl rfl rfl ?_
 refine ol_nil ?_
 refine cw_seq ?_
 obtain ⟨x14, j15, h⟩ := bs h
 refine cw_mid (fun ρ' w' => ρ' 4 = .bool x14 ∧ Gr w12 w') ?_ ?_
 ·skip
  refine cw_region ?_
  refine ol_val (v := (pt G1 0)) (xr_fieldAddr (p := 0) (q := 0) rfl fl110_0 rfl) rfl rfl rfl ?_
  refine ol_val (v := .int .i64 a0.Epoch) (xr_load1 (v := .int .i64 a0.Epoch) rfl ag3 rfl (b2.seg 0 rfl rfl)) rfl rfl rfl ?_
  refine ol_val (v := (pt G7 0)) (xr_fieldAddr (p := 0) (q := 0) rfl fl110_0 rfl) rfl rfl rfl ?_
  refine ol_val (v := .int .i64 a1.Epoch) (xr_load1 (v := .int .i64 a1.Epoch) rfl ag3 rfl (b8.seg 0 rfl rfl)) rfl rfl rfl ?_
  refine ol_val (v := .bool (decide (a0.Epoch = a1.Epoch))) (xr_eqI rfl Try.underlying3 rfl rfl rfl) rfl rfl rfl ?_
  refine ol_val (v := .bool (decide (a0.Epoch = a1.Epoch))) (xr_move rfl rfl) rfl rfl rfl ?_
  rcases is j15 with ⟨c16, j15⟩ | ⟨c16, j15⟩
  ·skip
   refine ol_gval (v := (pt G1 1)) (xr_fieldAddr (p := 0) (q := 1) rfl fl110_1 rfl) rfl rfl rfl rfl rfl c16 ?_
   refine ol_gval (v := (pt G1 1)) (xr_fieldAddr (p := 1) (q := 0) rfl fl108_0 rfl) rfl rfl rfl rfl rfl c16 ?_
   refine ol_gval (v := aggV [(sI a0.Tickets.Geometry.Blocks), (sI a0.Tickets.Geometry.Slots), (sI a0.Tickets.Geometry.Gens)]) (xr_loadS (ss := [(sI a0.Tickets.Geometry.Blocks), (sI a0.Tickets.Geometry.Slots), (sI a0.Tickets.Geometry.Gens)]) rfl ag106 sz106 rfl rfl (b2.segs 1 3 rfl)) rfl rfl rfl rfl rfl c16 ?_
   refine ol_gval (v := (pt G7 1)) (xr_fieldAddr (p := 0) (q := 1) rfl fl110_1 rfl) rfl rfl rfl rfl rfl c16 ?_
   refine ol_gval (v := (pt G7 1)) (xr_fieldAddr (p := 1) (q := 0) rfl fl108_0 rfl) rfl rfl rfl rfl rfl c16 ?_
   refine ol_gval (v := aggV [(sI a1.Tickets.Geometry.Blocks), (sI a1.Tickets.Geometry.Slots), (sI a1.Tickets.Geometry.Gens)]) (xr_loadS (ss := [(sI a1.Tickets.Geometry.Blocks), (sI a1.Tickets.Geometry.Slots), (sI a1.Tickets.Geometry.Gens)]) rfl ag106 sz106 rfl rfl (b8.segs 1 3 rfl)) rfl rfl rfl rfl rfl c16 ?_
   refine ol_gval (v := .bool (decide (a0.Tickets.Geometry = a1.Tickets.Geometry))) (xr_eqA (a := a0.Tickets.Geometry) (b := a1.Tickets.Geometry) rfl eqa106 rfl Try.eqGuardType105 rfl rfl rfl rfl) rfl rfl rfl rfl rfl c16 ?_
   refine ol_val (v := .bool (decide (a0.Tickets.Geometry = a1.Tickets.Geometry))) (xr_pickT rfl rfl c16 rfl) rfl rfl rfl ?_
   refine ol_val (v := .bool (decide (a0.Tickets.Geometry = a1.Tickets.Geometry))) (xr_move rfl rfl) rfl rfl rfl ?_
   rcases is j15 with ⟨c17, j15⟩ | ⟨c17, j15⟩
   ·skip
    refine ol_gval (v := (pt G1 1)) (xr_fieldAddr (p := 0) (q := 1) rfl fl110_1 rfl) rfl rfl rfl rfl rfl c17 ?_
    refine ol_gval (v := (pt G1 5)) (xr_fieldAddr (p := 1) (q := 4) rfl fl108_2 rfl) rfl rfl rfl rfl rfl c17 ?_
    refine ol_gval (v := .int .i64 a0.Tickets.High) (xr_load1 (v := .int .i64 a0.Tickets.High) rfl ag3 rfl (b2.seg 5 rfl rfl)) rfl rfl rfl rfl rfl c17 ?_
    refine ol_gval (v := (pt G7 1)) (xr_fieldAddr (p := 0) (q := 1) rfl fl110_1 rfl) rfl rfl rfl rfl rfl c17 ?_
    refine ol_gval (v := (pt G7 5)) (xr_fieldAddr (p := 1) (q := 4) rfl fl108_2 rfl) rfl rfl rfl rfl rfl c17 ?_
    refine ol_gval (v := .int .i64 a1.Tickets.High) (xr_load1 (v := .int .i64 a1.Tickets.High) rfl ag3 rfl (b8.seg 5 rfl rfl)) rfl rfl rfl rfl rfl c17 ?_
    refine ol_gval (v := .bool (decide (a0.Tickets.High = a1.Tickets.High))) (xr_eqI rfl Try.underlying3 rfl rfl rfl) rfl rfl rfl rfl rfl c17 ?_
    refine ol_val (v := .bool (decide (a0.Tickets.High = a1.Tickets.High))) (xr_pickT rfl rfl c17 rfl) rfl rfl rfl ?_
    refine ol_val (v := .bool (decide (a0.Tickets.High = a1.Tickets.High))) (xr_move rfl rfl) rfl rfl rfl ?_
    rcases is j15 with ⟨c18, j15⟩ | ⟨c18, j15⟩
    ·skip
     refine ol_gval (v := (pt G1 1)) (xr_fieldAddr (p := 0) (q := 1) rfl fl110_1 rfl) rfl rfl rfl rfl rfl c18 ?_
     refine ol_gval (v := (pt G1 6)) (xr_fieldAddr (p := 1) (q := 5) rfl fl108_3 rfl) rfl rfl rfl rfl rfl c18 ?_
     refine ol_gval (v := .int .i64 a0.Tickets.Free) (xr_load1 (v := .int .i64 a0.Tickets.Free) rfl ag3 rfl (b2.seg 6 rfl rfl)) rfl rfl rfl rfl rfl c18 ?_
     refine ol_gval (v := (pt G7 1)) (xr_fieldAddr (p := 0) (q := 1) rfl fl110_1 rfl) rfl rfl rfl rfl rfl c18 ?_
     refine ol_gval (v := (pt G7 6)) (xr_fieldAddr (p := 1) (q := 5) rfl fl108_3 rfl) rfl rfl rfl rfl rfl c18 ?_
     refine ol_gval (v := .int .i64 a1.Tickets.Free) (xr_load1 (v := .int .i64 a1.Tickets.Free) rfl ag3 rfl (b8.seg 6 rfl rfl)) rfl rfl rfl rfl rfl c18 ?_
     refine ol_gval (v := .bool (decide (a0.Tickets.Free = a1.Tickets.Free))) (xr_eqI rfl Try.underlying3 rfl rfl rfl) rfl rfl rfl rfl rfl c18 ?_
     refine ol_val (v := .bool (decide (a0.Tickets.Free = a1.Tickets.Free))) (xr_pickT rfl rfl c18 rfl) rfl rfl rfl ?_
     refine ol_val (v := .bool (decide (a0.Tickets.Free = a1.Tickets.Free))) (xr_move rfl rfl) rfl rfl rfl ?_
     rcases is j15 with ⟨c19, j15⟩ | ⟨c19, j15⟩
     ·skip
      refine ol_gval (v := (pt G1 1)) (xr_fieldAddr (p := 0) (q := 1) rfl fl110_1 rfl) rfl rfl rfl rfl rfl c19 ?_
      refine ol_gval (v := (pt G1 4)) (xr_fieldAddr (p := 1) (q := 3) rfl fl108_1 rfl) rfl rfl rfl rfl rfl c19 ?_
      refine ol_gval (v := .int .i64 a0.Tickets.Top) (xr_load1 (v := .int .i64 a0.Tickets.Top) rfl ag3 rfl (b2.seg 4 rfl rfl)) rfl rfl rfl rfl rfl c19 ?_
      refine ol_gval (v := (pt G7 1)) (xr_fieldAddr (p := 0) (q := 1) rfl fl110_1 rfl) rfl rfl rfl rfl rfl c19 ?_
      refine ol_gval (v := (pt G7 4)) (xr_fieldAddr (p := 1) (q := 3) rfl fl108_1 rfl) rfl rfl rfl rfl rfl c19 ?_
      refine ol_gval (v := .int .i64 a1.Tickets.Top) (xr_load1 (v := .int .i64 a1.Tickets.Top) rfl ag3 rfl (b8.seg 4 rfl rfl)) rfl rfl rfl rfl rfl c19 ?_
      refine ol_gval (v := .bool (decide (a0.Tickets.Top = a1.Tickets.Top))) (xr_eqI rfl Try.underlying3 rfl rfl rfl) rfl rfl rfl rfl rfl c19 ?_
      refine ol_val (v := .bool (decide (a0.Tickets.Top = a1.Tickets.Top))) (xr_pickT rfl rfl c19 rfl) rfl rfl rfl ?_
      refine ol_val (v := .bool (decide (a0.Tickets.Top = a1.Tickets.Top))) (xr_move rfl rfl) rfl rfl rfl ?_
      rcases is j15 with ⟨c20, j15⟩ | ⟨c20, j15⟩
      ·skip
       refine ol_gval (v := (pt G1 7)) (xr_fieldAddr (p := 0) (q := 7) rfl fl110_2 rfl) rfl rfl rfl rfl rfl c20 ?_
       refine ol_gval (v := .int .i64 a0.Dir) (xr_load1 (v := .int .i64 a0.Dir) rfl ag3 rfl (b2.seg 7 rfl rfl)) rfl rfl rfl rfl rfl c20 ?_
       refine ol_gval (v := (pt G7 7)) (xr_fieldAddr (p := 0) (q := 7) rfl fl110_2 rfl) rfl rfl rfl rfl rfl c20 ?_
       refine ol_gval (v := .int .i64 a1.Dir) (xr_load1 (v := .int .i64 a1.Dir) rfl ag3 rfl (b8.seg 7 rfl rfl)) rfl rfl rfl rfl rfl c20 ?_
       refine ol_gval (v := .bool (decide (a0.Dir = a1.Dir))) (xr_eqI rfl Try.underlying3 rfl rfl rfl) rfl rfl rfl rfl rfl c20 ?_
       refine ol_val (v := .bool (decide (a0.Dir = a1.Dir))) (xr_pickT rfl rfl c20 rfl) rfl rfl rfl ?_
       refine ol_val (v := .bool (decide (a0.Dir = a1.Dir))) (xr_move rfl rfl) rfl rfl rfl ?_
       rcases is j15 with ⟨c21, j15⟩ | ⟨c21, j15⟩
       ·skip
        refine ol_gval (v := (pt G1 8)) (xr_fieldAddr (p := 0) (q := 8) rfl fl110_3 rfl) rfl rfl rfl rfl rfl c21 ?_
        refine ol_gval (v := V0_0) (xr_load1 (v := V0_0) rfl ag25 rfl (b2.seg 8 rfl rfl)) rfl rfl rfl rfl rfl c21 ?_
        refine ol_gval (v := (pt G7 8)) (xr_fieldAddr (p := 0) (q := 8) rfl fl110_3 rfl) rfl rfl rfl rfl rfl c21 ?_
        refine ol_gval (v := V1_0) (xr_load1 (v := V1_0) rfl ag25 rfl (b8.seg 8 rfl rfl)) rfl rfl rfl rfl rfl c21 ?_
        obtain ⟨t22, k23, j15⟩ := bs j15
        refine ol_gop (opv_call rfl cal66 (ac rfl (ac rfl an)) (rickyardref01_Ints.ok fu _ a0.Charts V0_0 (R0_0.gr fB) a1.Charts V1_0 (R1_0.gr fB) _ k23)) rfl rfl rfl rfl rfl c21 ?_
        rintro _ w25 ⟨rfl, q24⟩
        have fB := fB.gr q24
        refine ol_val (v := .bool t22) (xr_pickT rfl rfl c21 rfl) rfl rfl rfl ?_
        refine ol_val (v := .bool t22) (xr_assign rfl rfl) rfl rfl rfl ?_
        refine ol_nil ?_
        obtain rfl := Option.some.inj j15
        refine thn_i ?_
        exact ⟨rfl, q24⟩
       refine ol_gskip rfl rfl rfl rfl rfl c21 ?_
       refine ol_gskip rfl rfl rfl rfl rfl c21 ?_
       refine ol_gskip rfl rfl rfl rfl rfl c21 ?_
       refine ol_gskip rfl rfl rfl rfl rfl c21 ?_
       refine ol_gskip rfl rfl rfl rfl rfl c21 ?_
       refine ol_val (v := .bool false) (xr_pickF rfl rfl c21 rfl) rfl rfl rfl ?_
       refine ol_val (v := .bool false) (xr_assign rfl rfl) rfl rfl rfl ?_
       refine ol_nil ?_
       obtain rfl := Option.some.inj j15
       refine thn_i ?_
       exact ⟨rfl, Fr.refl _ _⟩
      refine ol_gskip rfl rfl rfl rfl rfl c20 ?_
      refine ol_gskip rfl rfl rfl rfl rfl c20 ?_
      refine ol_gskip rfl rfl rfl rfl rfl c20 ?_
      refine ol_gskip rfl rfl rfl rfl rfl c20 ?_
      refine ol_gskip rfl rfl rfl rfl rfl c20 ?_
      refine ol_val (v := .bool false) (xr_pickF rfl rfl c20 rfl) rfl rfl rfl ?_
      refine ol_val (v := .bool false) (xr_move rfl rfl) rfl rfl rfl ?_
      refine ol_gskip rfl rfl rfl rfl rfl rfl ?_
      refine ol_gskip rfl rfl rfl rfl rfl rfl ?_
      refine ol_gskip rfl rfl rfl rfl rfl rfl ?_
      refine ol_gskip rfl rfl rfl rfl rfl rfl ?_
      refine ol_gskip rfl rfl rfl rfl rfl rfl ?_
      refine ol_val (v := .bool false) (xr_pickF rfl rfl rfl rfl) rfl rfl rfl ?_
      refine ol_val (v := .bool false) (xr_assign rfl rfl) rfl rfl rfl ?_
      refine ol_nil ?_
      obtain rfl := Option.some.inj j15
      refine thn_i ?_
      exact ⟨rfl, Fr.refl _ _⟩
     refine ol_gskip rfl rfl rfl rfl rfl c19 ?_
     refine ol_gskip rfl rfl rfl rfl rfl c19 ?_
     refine ol_gskip rfl rfl rfl rfl rfl c19 ?_
     refine ol_gskip rfl rfl rfl rfl rfl c19 ?_
     refine ol_gskip rfl rfl rfl rfl rfl c19 ?_
     refine ol_gskip rfl rfl rfl rfl rfl c19 ?_
     refine ol_gskip rfl rfl rfl rfl rfl c19 ?_
     refine ol_val (v := .bool false) (xr_pickF rfl rfl c19 rfl) rfl rfl rfl ?_
     refine ol_val (v := .bool false) (xr_move rfl rfl) rfl rfl rfl ?_
     refine ol_gskip rfl rfl rfl rfl rfl rfl ?_
     refine ol_gskip rfl rfl rfl rfl rfl rfl ?_
     refine ol_gskip rfl rfl rfl rfl rfl rfl ?_
     refine ol_gskip rfl rfl rfl rfl rfl rfl ?_
     refine ol_gskip rfl rfl rfl rfl rfl rfl ?_
     refine ol_val (v := .bool false) (xr_pickF rfl rfl rfl rfl) rfl rfl rfl ?_
     refine ol_val (v := .bool false) (xr_move rfl rfl) rfl rfl rfl ?_
     refine ol_gskip rfl rfl rfl rfl rfl rfl ?_
     refine ol_gskip rfl rfl rfl rfl rfl rfl ?_
     refine ol_gskip rfl rfl rfl rfl rfl rfl ?_
     refine ol_gskip rfl rfl rfl rfl rfl rfl ?_
     refine ol_gskip rfl rfl rfl rfl rfl rfl ?_
     refine ol_val (v := .bool false) (xr_pickF rfl rfl rfl rfl) rfl rfl rfl ?_
     refine ol_val (v := .bool false) (xr_assign rfl rfl) rfl rfl rfl ?_
     refine ol_nil ?_
     obtain rfl := Option.some.inj j15
     refine thn_i ?_
     exact ⟨rfl, Fr.refl _ _⟩
    refine ol_gskip rfl rfl rfl rfl rfl c18 ?_
    refine ol_gskip rfl rfl rfl rfl rfl c18 ?_
    refine ol_gskip rfl rfl rfl rfl rfl c18 ?_
    refine ol_gskip rfl rfl rfl rfl rfl c18 ?_
    refine ol_gskip rfl rfl rfl rfl rfl c18 ?_
    refine ol_gskip rfl rfl rfl rfl rfl c18 ?_
    refine ol_gskip rfl rfl rfl rfl rfl c18 ?_
    refine ol_val (v := .bool false) (xr_pickF rfl rfl c18 rfl) rfl rfl rfl ?_
    refine ol_val (v := .bool false) (xr_move rfl rfl) rfl rfl rfl ?_
    refine ol_gskip rfl rfl rfl rfl rfl rfl ?_
    refine ol_gskip rfl rfl rfl rfl rfl rfl ?_
    refine ol_gskip rfl rfl rfl rfl rfl rfl ?_
    refine ol_gskip rfl rfl rfl rfl rfl rfl ?_
    refine ol_gskip rfl rfl rfl rfl rfl rfl ?_
    refine ol_gskip rfl rfl rfl rfl rfl rfl ?_
    refine ol_gskip rfl rfl rfl rfl rfl rfl ?_
    refine ol_val (v := .bool false) (xr_pickF rfl rfl rfl rfl) rfl rfl rfl ?_
    refine ol_val (v := .bool false) (xr_move rfl rfl) rfl rfl rfl ?_
    refine ol_gskip rfl rfl rfl rfl rfl rfl ?_
    refine ol_gskip rfl rfl rfl rfl rfl rfl ?_
    refine ol_gskip rfl rfl rfl rfl rfl rfl ?_
    refine ol_gskip rfl rfl rfl rfl rfl rfl ?_
    refine ol_gskip rfl rfl rfl rfl rfl rfl ?_
    refine ol_val (v := .bool false) (xr_pickF rfl rfl rfl rfl) rfl rfl rfl ?_
    refine ol_val (v := .bool false) (xr_move rfl rfl) rfl rfl rfl ?_
    refine ol_gskip rfl rfl rfl rfl rfl rfl ?_
    refine ol_gskip rfl rfl rfl rfl rfl rfl ?_
    refine ol_gskip rfl rfl rfl rfl rfl rfl ?_
    refine ol_gskip rfl rfl rfl rfl rfl rfl ?_
    refine ol_gskip rfl rfl rfl rfl rfl rfl ?_
    refine ol_val (v := .bool false) (xr_pickF rfl rfl rfl rfl) rfl rfl rfl ?_
    refine ol_val (v := .bool false) (xr_assign rfl rfl) rfl rfl rfl ?_
    refine ol_nil ?_
    obtain rfl := Option.some.inj j15
    refine thn_i ?_
    exact ⟨rfl, Fr.refl _ _⟩
   refine ol_gskip rfl rfl rfl rfl rfl c17 ?_
   refine ol_gskip rfl rfl rfl rfl rfl c17 ?_
   refine ol_gskip rfl rfl rfl rfl rfl c17 ?_
   refine ol_gskip rfl rfl rfl rfl rfl c17 ?_
   refine ol_gskip rfl rfl rfl rfl rfl c17 ?_
   refine ol_gskip rfl rfl rfl rfl rfl c17 ?_
   refine ol_gskip rfl rfl rfl rfl rfl c17 ?_
   refine ol_val (v := .bool false) (xr_pickF rfl rfl c17 rfl) rfl rfl rfl ?_
   refine ol_val (v := .bool false) (xr_move rfl rfl) rfl rfl rfl ?_
   refine ol_gskip rfl rfl rfl rfl rfl rfl ?_
   refine ol_gskip rfl rfl rfl rfl rfl rfl ?_
   refine ol_gskip rfl rfl rfl rfl rfl rfl ?_
   refine ol_gskip rfl rfl rfl rfl rfl rfl ?_
   refine ol_gskip rfl rfl rfl rfl rfl rfl ?_
   refine ol_gskip rfl rfl rfl rfl rfl rfl ?_
   refine ol_gskip rfl rfl rfl rfl rfl rfl ?_
   refine ol_val (v := .bool false) (xr_pickF rfl rfl rfl rfl) rfl rfl rfl ?_
   refine ol_val (v := .bool false) (xr_move rfl rfl) rfl rfl rfl ?_
   refine ol_gskip rfl rfl rfl rfl rfl rfl ?_
   refine ol_gskip rfl rfl rfl rfl rfl rfl ?_
   refine ol_gskip rfl rfl rfl rfl rfl rfl ?_
   refine ol_gskip rfl rfl rfl rfl rfl rfl ?_
   refine ol_gskip rfl rfl rfl rfl rfl rfl ?_
   refine ol_gskip rfl rfl rfl rfl rfl rfl ?_
   refine ol_gskip rfl rfl rfl rfl rfl rfl ?_
   refine ol_val (v := .bool false) (xr_pickF rfl rfl rfl rfl) rfl rfl rfl ?_
   refine ol_val (v := .bool false) (xr_move rfl rfl) rfl rfl rfl ?_
   refine ol_gskip rfl rfl rfl rfl rfl rfl ?_
   refine ol_gskip rfl rfl rfl rfl rfl rfl ?_
   refine ol_gskip rfl rfl rfl rfl rfl rfl ?_
   refine ol_gskip rfl rfl rfl rfl rfl rfl ?_
   refine ol_gskip rfl rfl rfl rfl rfl rfl ?_
   refine ol_val (v := .bool false) (xr_pickF rfl rfl rfl rfl) rfl rfl rfl ?_
   refine ol_val (v := .bool false) (xr_move rfl rfl) rfl rfl rfl ?_
   refine ol_gskip rfl rfl rfl rfl rfl rfl ?_
   refine ol_gskip rfl rfl rfl rfl rfl rfl ?_
   refine ol_gskip rfl rfl rfl rfl rfl rfl ?_
   refine ol_gskip rfl rfl rfl rfl rfl rfl ?_
   refine ol_gskip rfl rfl rfl rfl rfl rfl ?_
   refine ol_val (v := .bool false) (xr_pickF rfl rfl rfl rfl) rfl rfl rfl ?_
   refine ol_val (v := .bool false) (xr_assign rfl rfl) rfl rfl rfl ?_
   refine ol_nil ?_
   obtain rfl := Option.some.inj j15
   refine thn_i ?_
   exact ⟨rfl, Fr.refl _ _⟩
  refine ol_gskip rfl rfl rfl rfl rfl c16 ?_
  refine ol_gskip rfl rfl rfl rfl rfl c16 ?_
  refine ol_gskip rfl rfl rfl rfl rfl c16 ?_
  refine ol_gskip rfl rfl rfl rfl rfl c16 ?_
  refine ol_gskip rfl rfl rfl rfl rfl c16 ?_
  refine ol_gskip rfl rfl rfl rfl rfl c16 ?_
  refine ol_gskip rfl rfl rfl rfl rfl c16 ?_
  refine ol_val (v := .bool false) (xr_pickF rfl rfl c16 rfl) rfl rfl rfl ?_
  refine ol_val (v := .bool false) (xr_move rfl rfl) rfl rfl rfl ?_
  refine ol_gskip rfl rfl rfl rfl rfl rfl ?_
  refine ol_gskip rfl rfl rfl rfl rfl rfl ?_
  refine ol_gskip rfl rfl rfl rfl rfl rfl ?_
  refine ol_gskip rfl rfl rfl rfl rfl rfl ?_
  refine ol_gskip rfl rfl rfl rfl rfl rfl ?_
  refine ol_gskip rfl rfl rfl rfl rfl rfl ?_
  refine ol_gskip rfl rfl rfl rfl rfl rfl ?_
  refine ol_val (v := .bool false) (xr_pickF rfl rfl rfl rfl) rfl rfl rfl ?_
  refine ol_val (v := .bool false) (xr_move rfl rfl) rfl rfl rfl ?_
  refine ol_gskip rfl rfl rfl rfl rfl rfl ?_
  refine ol_gskip rfl rfl rfl rfl rfl rfl ?_
  refine ol_gskip rfl rfl rfl rfl rfl rfl ?_
  refine ol_gskip rfl rfl rfl rfl rfl rfl ?_
  refine ol_gskip rfl rfl rfl rfl rfl rfl ?_
  refine ol_gskip rfl rfl rfl rfl rfl rfl ?_
  refine ol_gskip rfl rfl rfl rfl rfl rfl ?_
  refine ol_val (v := .bool false) (xr_pickF rfl rfl rfl rfl) rfl rfl rfl ?_
  refine ol_val (v := .bool false) (xr_move rfl rfl) rfl rfl rfl ?_
  refine ol_gskip rfl rfl rfl rfl rfl rfl ?_
  refine ol_gskip rfl rfl rfl rfl rfl rfl ?_
  refine ol_gskip rfl rfl rfl rfl rfl rfl ?_
  refine ol_gskip rfl rfl rfl rfl rfl rfl ?_
  refine ol_gskip rfl rfl rfl rfl rfl rfl ?_
  refine ol_gskip rfl rfl rfl rfl rfl rfl ?_
  refine ol_gskip rfl rfl rfl rfl rfl rfl ?_
  refine ol_val (v := .bool false) (xr_pickF rfl rfl rfl rfl) rfl rfl rfl ?_
  refine ol_val (v := .bool false) (xr_move rfl rfl) rfl rfl rfl ?_
  refine ol_gskip rfl rfl rfl rfl rfl rfl ?_
  refine ol_gskip rfl rfl rfl rfl rfl rfl ?_
  refine ol_gskip rfl rfl rfl rfl rfl rfl ?_
  refine ol_gskip rfl rfl rfl rfl rfl rfl ?_
  refine ol_gskip rfl rfl rfl rfl rfl rfl ?_
  refine ol_val (v := .bool false) (xr_pickF rfl rfl rfl rfl) rfl rfl rfl ?_
  refine ol_val (v := .bool false) (xr_move rfl rfl) rfl rfl rfl ?_
  refine ol_gskip rfl rfl rfl rfl rfl rfl ?_
  refine ol_gskip rfl rfl rfl rfl rfl rfl ?_
  refine ol_gskip rfl rfl rfl rfl rfl rfl ?_
  refine ol_gskip rfl rfl rfl rfl rfl rfl ?_
  refine ol_gskip rfl rfl rfl rfl rfl rfl ?_
  refine ol_val (v := .bool false) (xr_pickF rfl rfl rfl rfl) rfl rfl rfl ?_
  refine ol_val (v := .bool false) (xr_assign rfl rfl) rfl rfl rfl ?_
  refine ol_nil ?_
  obtain rfl := Option.some.inj j15
  refine thn_i ?_
  exact ⟨rfl, Fr.refl _ _⟩
 rintro ρ26 w27 ⟨e4, q28⟩
 have fB := fB.gr q28
 refine cw_ret ?_
 repeat (first | with_reducible refine thn_r ?_ | with_reducible refine blk_r ?_)
 obtain rfl := Option.some.inj h
 refine fin_ret1 Try.results74 e4 ?_
 exact ⟨_, rfl, rfl, fB⟩
def rickyardlaw16_Cut_small.f (fu : Nat) (a0 : S_rickyardlaw16_Cut) : Option Bool := some ((if (decide ((List.length a0.Plan : Int) ≤ 40)) = true then (decide ((List.length a0.L : Int) ≤ 40)) else false))
theorem rickyardlaw16_Cut_small.ok (fu : Nat) (w : World) (a0 : S_rickyardlaw16_Cut) (V0_0 : Value) (R0_0 : Rd (kI .i64) w V0_0 a0.Plan) (V0_1 : Value) (R0_1 : Rd (kI .i64) w V0_1 a0.L) (r : Bool) (h : rickyardlaw16_Cut_small.f fu a0 = some r) :
  Calls Try.prog 80 (([aggV [Seg.cell (.int .u8 a0.Steps), Seg.cell V0_0 R0_0.one, Seg.cell V0_1 R0_1.one]] : List Value).toArray) w (fun e w' => ∃ v, e = .returned v ∧ v = .bool r ∧ Gr w w') := by
 unfold rickyardlaw16_Cut_small.f at h
 have fB : Gr w w := Fr.refl _ _
 refine calls_cw Try.func80 rfl Try.ntmps80 rfl ?_
 refine cw_seq ?_
 refine cw_region ?_
 refine ol_op (opv_box (ss := [Seg.cell (.int .u8 a0.Steps), Seg.cell V0_0 R0_0.one, Seg.cell V0_1 R0_1.one]) rfl rfl rfl) rfl rfl rfl ?_
 rintro _ w6 ⟨G1, rfl, b2, q3, z4⟩
 have z4 := Nat.le_trans fB.size z4
 have fB := fB.gr q3
 refine ol_val (v := .bool false) (xr_assign rfl rfl) rfl rfl rfl ?_
 refine ol_nil ?_
 refine cw_seq ?_
 refine cw_mid (fun ρ' w' => ρ' 2 = .bool (if (decide ((List.length a0.Plan : Int) ≤ 40)) = true then (decide ((List.length a0.L : Int) ≤ 40)) else false) ∧ w6 = w') ?_ ?_
 ·skip
  refine cw_region ?_
  refine ol_val (v := (pt G1 1)) (xr_fieldAddr (p := 0) (q := 1) rfl fl129_1 rfl) rfl rfl rfl ?_
  refine ol_val (v := V0_0) (xr_load1 (v := V0_0) rfl ag25 rfl (b2.seg 1 rfl rfl)) rfl rfl rfl ?_
  refine ol_val (v := .int .i64 (List.length a0.Plan : Int)) (xr_lenR rfl Try.underlying25 rfl (R0_0.gr fB)) rfl rfl rfl ?_
  refine ol_val (v := .bool (decide ((List.length a0.Plan : Int) ≤ 40))) (xr_leq rfl rfl rfl) rfl rfl rfl ?_
  refine ol_val (v := .bool (decide ((List.length a0.Plan : Int) ≤ 40))) (xr_move rfl rfl) rfl rfl rfl ?_
  rcases bt (decide ((List.length a0.Plan : Int) ≤ 40)) with c7 | c7
  ·skip
   refine ol_gval (v := (pt G1 2)) (xr_fieldAddr (p := 0) (q := 2) rfl fl129_2 rfl) rfl rfl rfl rfl rfl c7 ?_
   refine ol_gval (v := V0_1) (xr_load1 (v := V0_1) rfl ag25 rfl (b2.seg 2 rfl rfl)) rfl rfl rfl rfl rfl c7 ?_
   refine ol_gval (v := .int .i64 (List.length a0.L : Int)) (xr_lenR rfl Try.underlying25 rfl (R0_1.gr fB)) rfl rfl rfl rfl rfl c7 ?_
   refine ol_gval (v := .bool (decide ((List.length a0.L : Int) ≤ 40))) (xr_leq rfl rfl rfl) rfl rfl rfl rfl rfl c7 ?_
   refine ol_val (v := .bool (decide ((List.length a0.L : Int) ≤ 40))) (xr_pickT rfl rfl c7 rfl) rfl rfl rfl ?_
   refine ol_val (v := .bool (decide ((List.length a0.L : Int) ≤ 40))) (xr_assign rfl rfl) rfl rfl rfl ?_
   refine ol_nil ?_
   refine thn_i ?_
   exact ⟨(rfl).trans (congrArg (fun z => (.bool z : Value)) (show (decide ((List.length a0.L : Int) ≤ 40)) = (if (decide ((List.length a0.Plan : Int) ≤ 40)) = true then (decide ((List.length a0.L : Int) ≤ 40)) else false) from by rw [ite_t c7])), rfl⟩
  refine ol_gskip rfl rfl rfl rfl rfl c7 ?_
  refine ol_gskip rfl rfl rfl rfl rfl c7 ?_
  refine ol_gskip rfl rfl rfl rfl rfl c7 ?_
  refine ol_gskip rfl rfl rfl rfl rfl c7 ?_
  refine ol_val (v := .bool false) (xr_pickF rfl rfl c7 rfl) rfl rfl rfl ?_
  refine ol_val (v := .bool false) (xr_assign rfl rfl) rfl rfl rfl ?_
  refine ol_nil ?_
  refine thn_i ?_
  exact ⟨(rfl).trans (congrArg (fun z => (.bool z : Value)) (show false = (if (decide ((List.length a0.Plan : Int) ≤ 40)) = true then (decide ((List.length a0.L : Int) ≤ 40)) else false) from by rw [ite_f c7])), rfl⟩
 rintro ρ8 _ ⟨e2, rfl⟩
 refine cw_ret ?_
 repeat (first | with_reducible refine thn_r ?_ | with_reducible refine blk_r ?_)
 obtain rfl := Option.some.inj h
 refine fin_ret1 Try.results80 e2 ?_
 exact ⟨_, rfl, rfl, fB⟩
def root_Clear.s0 (fu : Nat) : (Int × (List S_pmem_cell) × (List Int) × Int × Bool × Bool × Int × Int) → Option (Sum (Sum (Int × S_pmem_Device) ((List S_pmem_cell) × (List Int) × Int × Bool × Bool × Int × Int)) (Int × (List S_pmem_cell) × (List Int) × Int × Bool × Bool × Int × Int)) := fun s12 => (if (decide (s12.1 < 2)) = true then ((press_Word.f fu (⟨s12.2.1, (⟨s12.2.2.1, s12.2.2.2.1⟩ : S_pmem_plan), s12.2.2.2.2.1, s12.2.2.2.2.2.1, s12.2.2.2.2.2.2.1, s12.2.2.2.2.2.2.2⟩ : S_pmem_Device) s12.1 0 0).bind fun t37 => (if (!decide (t37.1 = 0)) = true then some (Sum.inl (Sum.inl (t37.1, t37.2))) else some (Sum.inr ((IntKind.i64.wrap (s12.1 + 1)), t37.2.cells, t37.2.plan.list, t37.2.plan.at_, t37.2.off, t37.2.armed, t37.2.left, t37.2.steps)))) else some (Sum.inl (Sum.inr (s12.2.1, s12.2.2.1, s12.2.2.2.1, s12.2.2.2.2.1, s12.2.2.2.2.2.1, s12.2.2.2.2.2.2.1, s12.2.2.2.2.2.2.2))))
def root_Clear.f (fu : Nat) (a0 : S_pmem_Device) : Option (Int × S_pmem_Device) := ((root_may.f fu a0).bind fun t7 => (if (!decide (t7 = 0)) = true then some (t7, a0) else ((loopM (root_Clear.s0 fu) fu (0, a0.cells, a0.plan.list, a0.plan.at_, a0.off, a0.armed, a0.left, a0.steps)).bind fun e13 => match e13 with | Sum.inl p => some p | Sum.inr x16 => ((press_Sure.f fu (⟨x16.1, (⟨x16.2.1, x16.2.2.1⟩ : S_pmem_plan), x16.2.2.2.1, x16.2.2.2.2.1, x16.2.2.2.2.2.1, x16.2.2.2.2.2.2⟩ : S_pmem_Device)).bind fun t53 => some (t53.1, t53.2)))))
theorem root_Clear.ok (fu : Nat) (w : World) (a0 : S_pmem_Device) (G_0 : Nat) (V0_0 : Value) (O0_0 : Own k_pmem_cell 142 w 0 V0_0 a0.cells) (V0_1 : Value) (O0_1 : Own (kI .i64) 3 w 0 V0_1 a0.plan.list) (b_0 : Blk w G_0 139 [Seg.cell V0_0 O0_0.one, Seg.cell V0_1 O0_1.one, (sI a0.plan.at_), Seg.cell (.bool a0.off), Seg.cell (.bool a0.armed), (sI a0.left), (sI a0.steps)]) (r : Int × S_pmem_Device) (h : root_Clear.f fu a0 = some r) :
  Calls Try.prog 81 (([(pt G_0 0)] : List Value).toArray) w (fun e w' => ∃ v, e = .returned v ∧ ∃ u1 : Value, ∃ u4 : Value, ∃ o2 : Own k_pmem_cell 142 w' 0 u1 r.2.cells, ∃ m3 : ∀ g, Value.ownBlock u1 = some g → w.heap.size ≤ g ∨ (g = G_0 ∨ some g = Value.ownBlock V0_0 ∨ some g = Value.ownBlock V0_1), ∃ o5 : Own (kI .i64) 3 w' 0 u4 r.2.plan.list, ∃ m6 : ∀ g, Value.ownBlock u4 = some g → w.heap.size ≤ g ∨ (g = G_0 ∨ some g = Value.ownBlock V0_0 ∨ some g = Value.ownBlock V0_1), v = .int .i64 r.1 ∧ Blk w' G_0 139 [Seg.cell u1 o2.one, Seg.cell u4 o5.one, (sI r.2.plan.at_), Seg.cell (.bool r.2.off), Seg.cell (.bool r.2.armed), (sI r.2.left), (sI r.2.steps)] ∧ Fr (fun j => j = G_0 ∨ some j = Value.ownBlock V0_0 ∨ some j = Value.ownBlock V0_1) w w') := by
 unfold root_Clear.f at h
 have fB : Fr (fun j => j = G_0 ∨ some j = Value.ownBlock V0_0 ∨ some j = Value.ownBlock V0_1) w w := Fr.refl _ _
 have M0_0 : ∀ g, Value.ownBlock V0_0 = some g → w.heap.size ≤ g ∨ (g = G_0 ∨ some g = Value.ownBlock V0_0 ∨ some g = Value.ownBlock V0_1) := fun g hg => .inr (.inr (.inl hg.symm))
 have M0_1 : ∀ g, Value.ownBlock V0_1 = some g → w.heap.size ≤ g ∨ (g = G_0 ∨ some g = Value.ownBlock V0_0 ∨ some g = Value.ownBlock V0_1) := fun g hg => .inr (.inr (.inr hg.symm))
 refine calls_cw Try.func81 rfl Try.ntmps81 rfl ?_
 refine cw_seq ?_
 refine cw_region ?_
 refine ol_val (v := .int .i64 0) (xr_assign rfl rfl) rfl rfl rfl ?_
 refine ol_nil ?_
 refine cw_seq ?_
 refine cw_seq ?_
 refine cw_region ?_
 refine ol_val (v := (pt G_0 0)) (xr_move rfl rfl) rfl rfl rfl ?_
 obtain ⟨t7, k8, h⟩ := bs h
 refine ol_op (opv_call rfl cal119 (ac rfl an) (root_may.ok fu _ a0 G_0 V0_0 (O0_0.rd) V0_1 (O0_1.rd) b_0 _ k8)) rfl rfl rfl ?_
 rintro _ w10 ⟨rfl, q9⟩
 have b_0 := b_0.gr q9
 have O0_0 := O0_0.gr q9
 have O0_1 := O0_1.gr q9
 have fB := fB.gr q9
 refine ol_val (v := .int .i64 t7) (xr_assign rfl rfl) rfl rfl rfl ?_
 refine ol_nil ?_
 refine cw_seq ?_
 refine cw_region ?_
 refine ol_val (v := .int .i64 t7) (xr_move rfl rfl) rfl rfl rfl ?_
 refine ol_val (v := .bool (!decide (t7 = 0))) (xr_neI rfl Try.underlying31 rfl rfl rfl) rfl rfl rfl ?_
 refine ol_nil ?_
 rcases is h with ⟨c11, h⟩ | ⟨c11, h⟩
 ·refine cw_condT rfl c11 ?_
  refine cw_seq ?_
  refine cw_region ?_
  refine ol_val (v := .int .i64 t7) (xr_move rfl rfl) rfl rfl rfl ?_
  refine ol_val (v := .int .i64 t7) (xr_assign rfl rfl) rfl rfl rfl ?_
  refine ol_nil ?_
  refine cw_ret ?_
  repeat (first | with_reducible refine thn_r ?_ | with_reducible refine blk_r ?_)
  obtain rfl := Option.some.inj h
  refine fin_ret1 Try.results81 rfl ?_
  exact ⟨_, rfl, V0_0, V0_1, O0_0, M0_0, O0_1, M0_1, rfl, b_0, fB⟩
 refine cw_condF rfl c11 ?_
 refine cw_skip ?_
 refine cw_seq ?_
 refine cw_seq ?_
 refine cw_region ?_
 refine ol_val (v := .int .i64 0) (xr_move rfl rfl) rfl rfl rfl ?_
 refine ol_nil ?_
 obtain ⟨e13, l14, h15⟩ := bs h
 refine cw_mid (fun ρ' w' => ∃ x16, e13 = Sum.inr x16 ∧ ∃ v17 : Value, ∃ v21 : Value, ∃ o18 : Own k_pmem_cell 142 w' 0 v17 x16.1, ∃ o22 : Own (kI .i64) 3 w' 0 v21 x16.2.1, ∃ m20 : ∀ g, Value.ownBlock v17 = some g → w.heap.size ≤ g ∨ (g = G_0 ∨ some g = Value.ownBlock V0_0 ∨ some g = Value.ownBlock V0_1), ∃ m24 : ∀ g, Value.ownBlock v21 = some g → w.heap.size ≤ g ∨ (g = G_0 ∨ some g = Value.ownBlock V0_0 ∨ some g = Value.ownBlock V0_1), ρ' 0 = (pt G_0 0) ∧ Blk w' G_0 139 [Seg.cell v17 o18.one, Seg.cell v21 o22.one, (sI x16.2.2.1), Seg.cell (.bool x16.2.2.2.1), Seg.cell (.bool x16.2.2.2.2.1), (sI x16.2.2.2.2.2.1), (sI x16.2.2.2.2.2.2)] ∧ Fr (fun j => j = G_0 ∨ some j = Value.ownBlock V0_0 ∨ some j = Value.ownBlock V0_1) w w') ?_ ?_
 ·refine cw_block ?_
  refine cw_round (fun (s12 : Int × (List S_pmem_cell) × (List Int) × Int × Bool × Bool × Int × Int) ρ' w' => ∃ v25 : Value, ∃ v29 : Value, ∃ o26 : Own k_pmem_cell 142 w' 0 v25 s12.2.1, ∃ o30 : Own (kI .i64) 3 w' 0 v29 s12.2.2.1, ∃ m28 : ∀ g, Value.ownBlock v25 = some g → w.heap.size ≤ g ∨ (g = G_0 ∨ some g = Value.ownBlock V0_0 ∨ some g = Value.ownBlock V0_1), ∃ m32 : ∀ g, Value.ownBlock v29 = some g → w.heap.size ≤ g ∨ (g = G_0 ∨ some g = Value.ownBlock V0_0 ∨ some g = Value.ownBlock V0_1), ρ' 0 = (pt G_0 0) ∧ ρ' 11 = .int .i64 s12.1 ∧ Blk w' G_0 139 [Seg.cell v25 o26.one, Seg.cell v29 o30.one, (sI s12.2.2.2.1), Seg.cell (.bool s12.2.2.2.2.1), Seg.cell (.bool s12.2.2.2.2.2.1), (sI s12.2.2.2.2.2.2.1), (sI s12.2.2.2.2.2.2.2)] ∧ Fr (fun j => j = G_0 ∨ some j = Value.ownBlock V0_0 ∨ some j = Value.ownBlock V0_1) w w') l14 ?_ ?_
  ·skip
   exact ⟨V0_0, V0_1, O0_0, O0_1, M0_0, M0_1, rfl, rfl, b_0, fB⟩
  rintro s12 x35 ρ33 w34 ⟨v25, v29, o26, o30, m28, m32, e0, e11, b_0, fB⟩ h
  unfold root_Clear.s0 at h
  refine cw_seq ?_
  refine cw_region ?_
  refine ol_val (v := .bool (decide (s12.1 < 2))) (xr_lss rfl e11 rfl) rfl rfl rfl ?_
  refine ol_nil ?_
  refine cw_seq ?_
  rcases is h with ⟨c36, h⟩ | ⟨c36, h⟩
  ·refine cw_condT rfl c36 ?_
   refine cw_skip ?_
   refine cw_seq ?_
   refine cw_block ?_
   refine cw_seq ?_
   refine cw_region ?_
   refine ol_val (v := .int .i64 s12.1) (xr_move rfl e11) rfl rfl rfl ?_
   refine ol_val (v := .int .i64 s12.1) (xr_assign rfl rfl) rfl rfl rfl ?_
   refine ol_nil ?_
   refine cw_seq ?_
   refine cw_region ?_
   refine ol_val (v := (pt G_0 0)) (xr_move rfl e0) rfl rfl rfl ?_
   refine ol_val (v := .int .i64 s12.1) (xr_move rfl rfl) rfl rfl rfl ?_
   obtain ⟨t37, k38, h⟩ := bs h
   have c48 : ∀ k, (k = G_0 ∨ some k = Value.ownBlock v25 ∨ some k = Value.ownBlock v29) → (w.heap.size ≤ k ∨ (k = G_0 ∨ some k = Value.ownBlock V0_0 ∨ some k = Value.ownBlock V0_1)) := (cv_or (cv_eq (.inr (.inl rfl))) (cv_or (cv_own m28) (cv_own m32)))
   refine ol_op (opv_call rfl cal57 (ac rfl (ac rfl (ac rfl (ac rfl an)))) (press_Word.ok fu _ (⟨s12.2.1, (⟨s12.2.2.1, s12.2.2.2.1⟩ : S_pmem_plan), s12.2.2.2.2.1, s12.2.2.2.2.2.1, s12.2.2.2.2.2.2.1, s12.2.2.2.2.2.2.2⟩ : S_pmem_Device) G_0 v25 (Own.base o26 (Nat.zero_le _)) v29 (Own.base o30 (Nat.zero_le _)) b_0 s12.1 0 0 _ k38)) rfl rfl rfl ?_
   rintro _ w49 ⟨u40, u44, o41, m42, o45, m46, rfl, b_0, q39⟩
   have m42 : ∀ g, Value.ownBlock u40 = some g → w.heap.size ≤ g ∨ (g = G_0 ∨ some g = Value.ownBlock V0_0 ∨ some g = Value.ownBlock V0_1) := fun g hg => (m42 g hg).elim (fun x => .inl (Nat.le_trans fB.size x)) (c48 g)
   have m46 : ∀ g, Value.ownBlock u44 = some g → w.heap.size ≤ g ∨ (g = G_0 ∨ some g = Value.ownBlock V0_0 ∨ some g = Value.ownBlock V0_1) := fun g hg => (m46 g hg).elim (fun x => .inl (Nat.le_trans fB.size x)) (c48 g)
   have fB := fB.call q39 c48
   refine ol_val (v := .int .i64 t37.1) (xr_assign rfl rfl) rfl rfl rfl ?_
   refine ol_nil ?_
   refine cw_seq ?_
   refine cw_region ?_
   refine ol_val (v := .int .i64 t37.1) (xr_move rfl rfl) rfl rfl rfl ?_
   refine ol_val (v := .bool (!decide (t37.1 = 0))) (xr_neI rfl Try.underlying31 rfl rfl rfl) rfl rfl rfl ?_
   refine ol_nil ?_
   rcases is h with ⟨c50, h⟩ | ⟨c50, h⟩
   ·refine cw_condT rfl c50 ?_
    refine cw_seq ?_
    refine cw_region ?_
    refine ol_val (v := .int .i64 t37.1) (xr_move rfl rfl) rfl rfl rfl ?_
    refine ol_val (v := .int .i64 t37.1) (xr_assign rfl rfl) rfl rfl rfl ?_
    refine ol_nil ?_
    refine cw_ret ?_
    repeat (first | with_reducible refine thn_r ?_ | with_reducible refine blk_r ?_)
    obtain rfl := Option.some.inj h
    refine lp_ret ?_
    rintro rfl
    repeat (first | with_reducible refine thn_r ?_ | with_reducible refine blk_r ?_)
    have h := h15
    obtain rfl := Option.some.inj h
    refine fin_ret1 Try.results81 rfl ?_
    exact ⟨_, rfl, u40, u44, o41, m42, o45, m46, rfl, b_0, fB⟩
   refine cw_condF rfl c50 ?_
   refine cw_skip ?_
   refine blk_i ?_
   refine cw_region ?_
   refine ol_val (v := .int .i64 (IntKind.i64.wrap (s12.1 + 1))) (xr_add rfl e11 rfl) rfl rfl rfl ?_
   refine ol_val (v := .int .i64 (IntKind.i64.wrap (s12.1 + 1))) (xr_move rfl rfl) rfl rfl rfl ?_
   refine ol_nil ?_
   obtain rfl := Option.some.inj h
   refine lp_in ?_
   exact ⟨u40, u44, o41, o45, m42, m46, e0, rfl, b_0, fB⟩
  refine cw_condF rfl c36 ?_
  refine cw_exit ?_
  repeat (first | with_reducible refine thn_e ?_ | with_reducible refine blk_e rfl ?_)
  obtain rfl := Option.some.inj h
  refine lp_exit ?_
  rintro rfl
  refine thn_x ?_
  exact ⟨_, rfl, v25, v29, o26, o30, m28, m32, e0, b_0, fB⟩
 rintro ρ51 w52 ⟨x16, rfl, v17, v21, o18, o22, m20, m24, e0, b_0, fB⟩
 have h := h15
 refine cw_seq ?_
 refine cw_region ?_
 refine ol_val (v := (pt G_0 0)) (xr_move rfl e0) rfl rfl rfl ?_
 obtain ⟨t53, k54, h⟩ := bs h
 have c64 : ∀ k, (k = G_0 ∨ some k = Value.ownBlock v17 ∨ some k = Value.ownBlock v21) → (w.heap.size ≤ k ∨ (k = G_0 ∨ some k = Value.ownBlock V0_0 ∨ some k = Value.ownBlock V0_1)) := (cv_or (cv_eq (.inr (.inl rfl))) (cv_or (cv_own m20) (cv_own m24)))
 refine ol_op (opv_call rfl cal54 (ac rfl an) (press_Sure.ok fu _ (⟨x16.1, (⟨x16.2.1, x16.2.2.1⟩ : S_pmem_plan), x16.2.2.2.1, x16.2.2.2.2.1, x16.2.2.2.2.2.1, x16.2.2.2.2.2.2⟩ : S_pmem_Device) G_0 v17 (Own.base o18 (Nat.zero_le _)) v21 (Own.base o22 (Nat.zero_le _)) b_0 _ k54)) rfl rfl rfl ?_
 rintro _ w65 ⟨u56, u60, o57, m58, o61, m62, rfl, b_0, q55⟩
 have m58 : ∀ g, Value.ownBlock u56 = some g → w.heap.size ≤ g ∨ (g = G_0 ∨ some g = Value.ownBlock V0_0 ∨ some g = Value.ownBlock V0_1) := fun g hg => (m58 g hg).elim (fun x => .inl (Nat.le_trans fB.size x)) (c64 g)
 have m62 : ∀ g, Value.ownBlock u60 = some g → w.heap.size ≤ g ∨ (g = G_0 ∨ some g = Value.ownBlock V0_0 ∨ some g = Value.ownBlock V0_1) := fun g hg => (m62 g hg).elim (fun x => .inl (Nat.le_trans fB.size x)) (c64 g)
 have fB := fB.call q55 c64
 refine ol_val (v := .int .i64 t53.1) (xr_assign rfl rfl) rfl rfl rfl ?_
 refine ol_nil ?_
 refine cw_ret ?_
 repeat (first | with_reducible refine thn_r ?_ | with_reducible refine blk_r ?_)
 obtain rfl := Option.some.inj h
 refine fin_ret1 Try.results81 rfl ?_
 exact ⟨_, rfl, u56, u60, o57, m58, o61, m62, rfl, b_0, fB⟩
def rickyardlaw16_RootClears.s0 (fu : Nat) (a0 : List Int) (t83 : Int × S_pmem_Device) (t97 : S_pmem_Device) : Int → Option (Sum (Sum Bool Unit) Int) := fun s111 => (if (decide (s111 < 2)) = true then ((root_Read.f fu t97 s111).bind fun t120 => ((rickyardref16_At.f fu (List.map toB a0) s111).bind fun t141 => (((if t120.2 = true then (if (decide (t83.1 = 0)) = true then some (true) else (if (!t141.2) = true then some (true) else ((rickyardref13_Same.f fu t120.1 t141.1).bind fun t170 => some ((!t170))))) else some (false)) : Option Bool).bind fun x165 => (if x165 = true then some (Sum.inl (Sum.inl (false))) else some (Sum.inr ((IntKind.i64.wrap (s111 + 1)))))))) else some (Sum.inl (Sum.inr ())))
def rickyardlaw16_RootClears.f (fu : Nat) (a0 : List Int) (a1 : S_rickyardlaw16_Cut) : Option Bool := ((((rickyardlaw16_awake.f fu).bind fun t9 => (if (!t9) = true then some (true) else (if (decide ((List.length a0 : Int) > 500)) = true then some (true) else ((rickyardlaw16_Cut_small.f fu a1).bind fun t15 => some ((!t15)))))) : Option Bool).bind fun x7 => (if x7 = true then ((rickyardlaw16_awake.f fu).bind fun t23 => some (t23)) else ((pmem_From.f fu a0).bind fun t27 => (if (decide ((List.length a0 : Int) < 128)) = true then ((root_Clear.f fu t27).bind fun t45 => (if (decide (t45.1 = 2)) = true then ((pmem_Device_Steps.f fu t45.2).bind fun t59 => some ((decide (t59 = 0)))) else some (false))) else ((pmem_Device_Plan.f fu t27 a1.Plan).bind fun t63 => ((pmem_Device_Arm.f fu t63 (Int.tmod (IntKind.i64.wrap a1.Steps) 8)).bind fun t77 => ((root_Clear.f fu (⟨t63.cells, (⟨t63.plan.list, t77.plan.at_⟩ : S_pmem_plan), t77.off, t77.armed, t77.left, t77.steps⟩ : S_pmem_Device)).bind fun t83 => ((pmem_Device_Crash.f fu t83.2 a1.L).bind fun t97 => ((loopM (rickyardlaw16_RootClears.s0 fu a0 t83 t97) fu (0)).bind fun e112 => match e112 with | Sum.inl p => some p | Sum.inr x115 => some ((decide ((decide (t83.1 = 0)) = (decide ((Int.tmod (IntKind.i64.wrap a1.Steps) 8) ≥ 5))))))))))))))
theorem rickyardlaw16_RootClears.ok (fu : Nat) (w : World) (a0 : List Int) (V0_0 : Value) (R0_0 : Rd (kI .u8) w V0_0 a0) (a1 : S_rickyardlaw16_Cut) (V1_0 : Value) (R1_0 : Rd (kI .i64) w V1_0 a1.Plan) (V1_1 : Value) (R1_1 : Rd (kI .i64) w V1_1 a1.L) (r : Bool) (h : rickyardlaw16_RootClears.f fu a0 a1 = some r) :
  Calls Try.prog 23 (([V0_0, aggV [Seg.cell (.int .u8 a1.Steps), Seg.cell V1_0 R1_0.one, Seg.cell V1_1 R1_1.one]] : List Value).toArray) w (fun e w' => ∃ v, e = .returned v ∧ v = .bool r ∧ Gr w w') := by
 unfold rickyardlaw16_RootClears.f at h
 have fB : Gr w w := Fr.refl _ _
 refine calls_cw Try.func23 rfl Try.ntmps23 rfl ?_
 refine cw_seq ?_
 refine cw_region ?_
 refine ol_op (opv_box (ss := [Seg.cell (.int .u8 a1.Steps), Seg.cell V1_0 R1_0.one, Seg.cell V1_1 R1_1.one]) rfl rfl rfl) rfl rfl rfl ?_
 rintro _ w6 ⟨G1, rfl, b2, q3, z4⟩
 have z4 := Nat.le_trans fB.size z4
 have fB := fB.gr q3
 refine ol_val (v := .bool false) (xr_assign rfl rfl) rfl rfl rfl ?_
 refine ol_nil ?_
 refine cw_seq ?_
 refine cw_seq ?_
 obtain ⟨x7, j8, h⟩ := bs h
 refine cw_mid (fun ρ' w' => ρ' 0 = V0_0 ∧ ρ' 3 = (pt G1 0) ∧ ρ' 23 = .bool x7 ∧ Gr w6 w') ?_ ?_
 ·skip
  refine cw_region ?_
  obtain ⟨t9, k10, j8⟩ := bs j8
  refine ol_op (opv_call rfl cal69 an (rickyardlaw16_awake.ok fu _ _ k10)) rfl rfl rfl ?_
  rintro _ w12 ⟨rfl, q11⟩
  have b2 := b2.gr q11
  have fB := fB.gr q11
  refine ol_val (v := .bool (!t9)) (xr_not rfl rfl) rfl rfl rfl ?_
  refine ol_val (v := .bool (!t9)) (xr_move rfl rfl) rfl rfl rfl ?_
  rcases is j8 with ⟨c13, j8⟩ | ⟨c13, j8⟩
  ·skip
   refine ol_gskip rfl rfl rfl rfl rfl c13 ?_
   refine ol_gskip rfl rfl rfl rfl rfl c13 ?_
   refine ol_gskip rfl rfl rfl rfl rfl c13 ?_
   refine ol_val (v := .bool true) (xr_pickT rfl rfl c13 rfl) rfl rfl rfl ?_
   refine ol_val (v := .bool true) (xr_move rfl rfl) rfl rfl rfl ?_
   refine ol_gskip rfl rfl rfl rfl rfl rfl ?_
   refine ol_gskip rfl rfl rfl rfl rfl rfl ?_
   refine ol_gskip rfl rfl rfl rfl rfl rfl ?_
   refine ol_val (v := .bool true) (xr_pickT rfl rfl rfl rfl) rfl rfl rfl ?_
   refine ol_nil ?_
   obtain rfl := Option.some.inj j8
   refine thn_i ?_
   exact ⟨rfl, rfl, rfl, q11⟩
  refine ol_gval (v := V0_0) (xr_move rfl rfl) rfl rfl rfl rfl rfl c13 ?_
  refine ol_gval (v := .int .i64 (List.length a0 : Int)) (xr_lenR rfl Try.underlying43 rfl (R0_0.gr fB)) rfl rfl rfl rfl rfl c13 ?_
  refine ol_gval (v := .bool (decide ((List.length a0 : Int) > 500))) (xr_gtr rfl rfl rfl) rfl rfl rfl rfl rfl c13 ?_
  refine ol_val (v := .bool (decide ((List.length a0 : Int) > 500))) (xr_pickF rfl rfl c13 rfl) rfl rfl rfl ?_
  refine ol_val (v := .bool (decide ((List.length a0 : Int) > 500))) (xr_move rfl rfl) rfl rfl rfl ?_
  rcases is j8 with ⟨c14, j8⟩ | ⟨c14, j8⟩
  ·skip
   refine ol_gskip rfl rfl rfl rfl rfl c14 ?_
   refine ol_gskip rfl rfl rfl rfl rfl c14 ?_
   refine ol_gskip rfl rfl rfl rfl rfl c14 ?_
   refine ol_val (v := .bool true) (xr_pickT rfl rfl c14 rfl) rfl rfl rfl ?_
   refine ol_nil ?_
   obtain rfl := Option.some.inj j8
   refine thn_i ?_
   exact ⟨rfl, rfl, rfl, q11⟩
  refine ol_gval (v := aggV [Seg.cell (.int .u8 a1.Steps), Seg.cell V1_0 R1_0.one, Seg.cell V1_1 R1_1.one]) (xr_loadS (ss := [Seg.cell (.int .u8 a1.Steps), Seg.cell V1_0 R1_0.one, Seg.cell V1_1 R1_1.one]) rfl ag129 sz129 rfl rfl (b2.segs 0 3 rfl)) rfl rfl rfl rfl rfl c14 ?_
  obtain ⟨t15, k16, j8⟩ := bs j8
  refine ol_gop (opv_call rfl cal80 (ac rfl an) (rickyardlaw16_Cut_small.ok fu _ a1 V1_0 (R1_0.gr fB) V1_1 (R1_1.gr fB) _ k16)) rfl rfl rfl rfl rfl c14 ?_
  rintro _ w18 ⟨rfl, q17⟩
  have b2 := b2.gr q17
  have fB := fB.gr q17
  refine ol_gval (v := .bool (!t15)) (xr_not rfl rfl) rfl rfl rfl rfl rfl c14 ?_
  refine ol_val (v := .bool (!t15)) (xr_pickF rfl rfl c14 rfl) rfl rfl rfl ?_
  refine ol_nil ?_
  obtain rfl := Option.some.inj j8
  refine thn_i ?_
  exact ⟨rfl, rfl, rfl, (q11.gr q17)⟩
 rintro ρ19 w20 ⟨e0, e3, e23, q21⟩
 have b2 := b2.gr q21
 have fB := fB.gr q21
 rcases is h with ⟨c22, h⟩ | ⟨c22, h⟩
 ·refine cw_condT e23 c22 ?_
  refine cw_seq ?_
  refine cw_region ?_
  obtain ⟨t23, k24, h⟩ := bs h
  refine ol_op (opv_call rfl cal69 an (rickyardlaw16_awake.ok fu _ _ k24)) rfl rfl rfl ?_
  rintro _ w26 ⟨rfl, q25⟩
  have fB := fB.gr q25
  refine ol_val (v := .bool t23) (xr_assign rfl rfl) rfl rfl rfl ?_
  refine ol_nil ?_
  refine cw_ret ?_
  repeat (first | with_reducible refine thn_r ?_ | with_reducible refine blk_r ?_)
  obtain rfl := Option.some.inj h
  refine fin_ret1 Try.results23 rfl ?_
  exact ⟨_, rfl, rfl, fB⟩
 refine cw_condF e23 c22 ?_
 refine cw_skip ?_
 refine cw_seq ?_
 refine cw_region ?_
 refine ol_val (v := V0_0) (xr_move rfl e0) rfl rfl rfl ?_
 obtain ⟨t27, k28, h⟩ := bs h
 refine ol_op (opv_call rfl cal48 (ac rfl an) (pmem_From.ok fu _ a0 V0_0 (R0_0.gr fB) _ k28)) rfl rfl rfl ?_
 rintro u29 w32 ⟨_, p30, rfl, q31⟩
 obtain ⟨G33, u37, u40, o38, o41, rfl, z34, b35⟩ := p30
 have o38 := Own.base o38 fB.size
 have o41 := Own.base o41 fB.size
 have n43 := b2.ne z34
 have z34 := Nat.le_trans fB.size z34
 have b2 := b2.gr q31
 have fB := fB.gr q31
 refine ol_val (v := (pt G33 0)) (xr_assign rfl rfl) rfl rfl rfl ?_
 refine ol_nil ?_
 refine cw_seq ?_
 refine cw_seq ?_
 refine cw_region ?_
 refine ol_val (v := (pt G33 0)) (xr_move rfl rfl) rfl rfl rfl ?_
 refine ol_val (v := .bool false) (xr_eqP (b := false) rfl Try.underlying30 rfl rfl (by simp) (by simp)) rfl rfl rfl ?_
 refine ol_nil ?_
 refine cw_condF rfl rfl ?_
 refine cw_skip ?_
 refine cw_seq ?_
 refine cw_seq ?_
 refine cw_region ?_
 refine ol_val (v := V0_0) (xr_move rfl e0) rfl rfl rfl ?_
 refine ol_val (v := .int .i64 (List.length a0 : Int)) (xr_lenR rfl Try.underlying43 rfl (R0_0.gr fB)) rfl rfl rfl ?_
 refine ol_val (v := .bool (decide ((List.length a0 : Int) < 128))) (xr_lss rfl rfl rfl) rfl rfl rfl ?_
 refine ol_nil ?_
 rcases is h with ⟨c44, h⟩ | ⟨c44, h⟩
 ·refine cw_condT rfl c44 ?_
  refine cw_seq ?_
  refine cw_region ?_
  refine ol_val (v := (pt G33 0)) (xr_move rfl rfl) rfl rfl rfl ?_
  obtain ⟨t45, k46, h⟩ := bs h
  have c56 : ∀ k, (k = G33 ∨ some k = Value.ownBlock u37 ∨ some k = Value.ownBlock u40) → w.heap.size ≤ k := (cv_or (cv_eq z34) (cv_or (cv_own o38.geO) (cv_own o41.geO)))
  refine ol_op (opv_call rfl cal81 (ac rfl an) (root_Clear.ok fu _ t27 G33 u37 (Own.base o38 (Nat.zero_le _)) u40 (Own.base o41 (Nat.zero_le _)) b35 _ k46)) rfl rfl rfl ?_
  rintro _ w57 ⟨u48, u52, o49, m50, o53, m54, rfl, b35, q47⟩
  have o49 := Own.rebase o49 (fun g hg => (m50 g hg).elim (fun x => Nat.le_trans fB.size x) (c56 g))
  have o53 := Own.rebase o53 (fun g hg => (m54 g hg).elim (fun x => Nat.le_trans fB.size x) (c56 g))
  have fB := fB.call q47 (fun k h => .inl (c56 k h))
  refine ol_val (v := .bool (decide (t45.1 = 2))) (xr_eqI rfl Try.underlying31 rfl rfl rfl) rfl rfl rfl ?_
  refine ol_val (v := .bool (decide (t45.1 = 2))) (xr_move rfl rfl) rfl rfl rfl ?_
  rcases is h with ⟨c58, h⟩ | ⟨c58, h⟩
  ·skip
   refine ol_gval (v := (pt G33 0)) (xr_move rfl rfl) rfl rfl rfl rfl rfl c58 ?_
   obtain ⟨t59, k60, h⟩ := bs h
   refine ol_gop (opv_call rfl cal37 (ac rfl an) (pmem_Device_Steps.ok fu _ t45.2 G33 u48 (o49.rd) u52 (o53.rd) b35 _ k60)) rfl rfl rfl rfl rfl c58 ?_
   rintro _ w62 ⟨rfl, q61⟩
   have fB := fB.gr q61
   refine ol_gval (v := .bool (decide (t59 = 0))) (xr_eqI rfl Try.underlying3 rfl rfl rfl) rfl rfl rfl rfl rfl c58 ?_
   refine ol_val (v := .bool (decide (t59 = 0))) (xr_pickT rfl rfl c58 rfl) rfl rfl rfl ?_
   refine ol_val (v := .bool (decide (t59 = 0))) (xr_assign rfl rfl) rfl rfl rfl ?_
   refine ol_nil ?_
   refine cw_ret ?_
   repeat (first | with_reducible refine thn_r ?_ | with_reducible refine blk_r ?_)
   obtain rfl := Option.some.inj h
   refine fin_ret1 Try.results23 rfl ?_
   exact ⟨_, rfl, rfl, fB⟩
  refine ol_gskip rfl rfl rfl rfl rfl c58 ?_
  refine ol_gskip rfl rfl rfl rfl rfl c58 ?_
  refine ol_gskip rfl rfl rfl rfl rfl c58 ?_
  refine ol_val (v := .bool false) (xr_pickF rfl rfl c58 rfl) rfl rfl rfl ?_
  refine ol_val (v := .bool false) (xr_assign rfl rfl) rfl rfl rfl ?_
  refine ol_nil ?_
  refine cw_ret ?_
  repeat (first | with_reducible refine thn_r ?_ | with_reducible refine blk_r ?_)
  obtain rfl := Option.some.inj h
  refine fin_ret1 Try.results23 rfl ?_
  exact ⟨_, rfl, rfl, fB⟩
 refine cw_condF rfl c44 ?_
 refine cw_skip ?_
 refine cw_seq ?_
 refine cw_region ?_
 refine ol_val (v := (pt G33 0)) (xr_move rfl rfl) rfl rfl rfl ?_
 refine ol_val (v := (pt G1 1)) (xr_fieldAddr (p := 0) (q := 1) rfl fl129_1 e3) rfl rfl rfl ?_
 refine ol_val (v := V1_0) (xr_load1 (v := V1_0) rfl ag25 rfl (b2.seg 1 rfl rfl)) rfl rfl rfl ?_
 obtain ⟨t63, k64, h⟩ := bs h
 have f74 := (nb_or n43 (nb_or (nb_off (off_ty b2 o38 (by decide))) (nb_off (off_ty b2 o41 (by decide)))))
 have c75 : ∀ k, (k = G33 ∨ some k = Value.ownBlock u37 ∨ some k = Value.ownBlock u40) → w.heap.size ≤ k := (cv_or (cv_eq z34) (cv_or (cv_own o38.geO) (cv_own o41.geO)))
 refine ol_op (opv_call rfl cal35 (ac rfl (ac rfl an)) (pmem_Device_Plan.ok fu _ t27 G33 u37 (Own.base o38 (Nat.zero_le _)) u40 (Own.base o41 (Nat.zero_le _)) b35 a1.Plan V1_0 (R1_0.gr fB) (OffR.new R1_0 z34 rfl) (OffRV.call R1_0 o38 rfl) (OffRV.call R1_0 o41 rfl) _ k64)) rfl rfl rfl ?_
 rintro _ w76 ⟨u66, u70, o67, m68, o71, m72, rfl, b35, q65⟩
 have o67 := Own.rebase o67 (fun g hg => (m68 g hg).elim (fun x => Nat.le_trans fB.size x) (c75 g))
 have o71 := Own.rebase o71 (fun g hg => (m72 g hg).elim (fun x => Nat.le_trans fB.size x) (c75 g))
 have b2 := b2.fr q65 f74
 have fB := fB.call q65 (fun k h => .inl (c75 k h))
 refine ol_nil ?_
 refine cw_seq ?_
 refine cw_region ?_
 refine ol_val (v := (pt G33 0)) (xr_move rfl rfl) rfl rfl rfl ?_
 refine ol_val (v := (pt G1 0)) (xr_fieldAddr (p := 0) (q := 0) rfl fl129_0 e3) rfl rfl rfl ?_
 refine ol_val (v := .int .u8 a1.Steps) (xr_load1 (v := .int .u8 a1.Steps) rfl ag5 rfl (b2.seg 0 rfl rfl)) rfl rfl rfl ?_
 refine ol_val (v := .int .i64 (IntKind.i64.wrap a1.Steps)) (xr_conv rfl Try.underlying5 Try.underlying3 rfl) rfl rfl rfl ?_
 refine ol_val (v := .int .i64 (Int.tmod (IntKind.i64.wrap a1.Steps) 8)) (xr_rem rfl rfl rfl (by decide)) rfl rfl rfl ?_
 obtain ⟨t77, k78, h⟩ := bs h
 have f80 := off_ty b35 o67 (by decide)
 have f81 := off_ty b35 o71 (by decide)
 refine ol_op (opv_call rfl cal38 (ac rfl (ac rfl an)) (pmem_Device_Arm.ok fu _ t63 G33 u66 o67.rd (OffR.own o67 (off_ty b35 o67 (by decide))) u70 o71.rd (OffR.own o71 (off_ty b35 o71 (by decide))) b35 (Int.tmod (IntKind.i64.wrap a1.Steps) 8) _ k78)) rfl rfl rfl ?_
 rintro _ w82 ⟨rfl, b35, q79⟩
 have b2 := b2.wr q79 n43
 have o67 := o67.wr q79 f80
 have o71 := o71.wr q79 f81
 have fB := fB.wr q79 z34
 refine ol_nil ?_
 refine cw_seq ?_
 refine cw_region ?_
 refine ol_val (v := (pt G33 0)) (xr_move rfl rfl) rfl rfl rfl ?_
 obtain ⟨t83, k84, h⟩ := bs h
 have f94 := (nb_or n43 (nb_or (nb_off (off_ty b2 o67 (by decide))) (nb_off (off_ty b2 o71 (by decide)))))
 have c95 : ∀ k, (k = G33 ∨ some k = Value.ownBlock u66 ∨ some k = Value.ownBlock u70) → w.heap.size ≤ k := (cv_or (cv_eq z34) (cv_or (cv_own o67.geO) (cv_own o71.geO)))
 refine ol_op (opv_call rfl cal81 (ac rfl an) (root_Clear.ok fu _ (⟨t63.cells, (⟨t63.plan.list, t77.plan.at_⟩ : S_pmem_plan), t77.off, t77.armed, t77.left, t77.steps⟩ : S_pmem_Device) G33 u66 (Own.base o67 (Nat.zero_le _)) u70 (Own.base o71 (Nat.zero_le _)) b35 _ k84)) rfl rfl rfl ?_
 rintro _ w96 ⟨u86, u90, o87, m88, o91, m92, rfl, b35, q85⟩
 have o87 := Own.rebase o87 (fun g hg => (m88 g hg).elim (fun x => Nat.le_trans fB.size x) (c95 g))
 have o91 := Own.rebase o91 (fun g hg => (m92 g hg).elim (fun x => Nat.le_trans fB.size x) (c95 g))
 have b2 := b2.fr q85 f94
 have fB := fB.call q85 (fun k h => .inl (c95 k h))
 refine ol_val (v := .int .i64 t83.1) (xr_assign rfl rfl) rfl rfl rfl ?_
 refine ol_nil ?_
 refine cw_seq ?_
 refine cw_region ?_
 refine ol_val (v := (pt G33 0)) (xr_move rfl rfl) rfl rfl rfl ?_
 refine ol_val (v := (pt G1 2)) (xr_fieldAddr (p := 0) (q := 2) rfl fl129_2 e3) rfl rfl rfl ?_
 refine ol_val (v := V1_1) (xr_load1 (v := V1_1) rfl ag25 rfl (b2.seg 2 rfl rfl)) rfl rfl rfl ?_
 obtain ⟨t97, k98, h⟩ := bs h
 have f108 := (nb_or n43 (nb_or (nb_off (off_ty b2 o87 (by decide))) (nb_off (off_ty b2 o91 (by decide)))))
 have c109 : ∀ k, (k = G33 ∨ some k = Value.ownBlock u86 ∨ some k = Value.ownBlock u90) → w.heap.size ≤ k := (cv_or (cv_eq z34) (cv_or (cv_own o87.geO) (cv_own o91.geO)))
 refine ol_op (opv_call rfl cal32 (ac rfl (ac rfl an)) (pmem_Device_Crash.ok fu _ t83.2 G33 u86 (Own.base o87 (Nat.zero_le _)) u90 (Own.base o91 (Nat.zero_le _)) b35 a1.L V1_1 (R1_1.gr fB) (OffR.new R1_1 z34 rfl) (OffRV.call R1_1 o87 rfl) (OffRV.call R1_1 o91 rfl) _ k98)) rfl rfl rfl ?_
 rintro _ w110 ⟨u100, u104, o101, m102, o105, m106, rfl, b35, q99⟩
 have o101 := Own.rebase o101 (fun g hg => (m102 g hg).elim (fun x => Nat.le_trans fB.size x) (c109 g))
 have o105 := Own.rebase o105 (fun g hg => (m106 g hg).elim (fun x => Nat.le_trans fB.size x) (c109 g))
 have b2 := b2.fr q99 f108
 have fB := fB.call q99 (fun k h => .inl (c109 k h))
 refine ol_nil ?_
 refine cw_seq ?_
 refine cw_seq ?_
 refine cw_region ?_
 refine ol_val (v := .int .i64 0) (xr_assign rfl rfl) rfl rfl rfl ?_
 refine ol_nil ?_
 obtain ⟨e112, l113, h114⟩ := bs h
 refine cw_mid (fun ρ' w' => ∃ x115, e112 = Sum.inr x115 ∧ ρ' 3 = (pt G1 0) ∧ ρ' 6 = .int .i64 t83.1 ∧ Blk w' G1 129 [Seg.cell (.int .u8 a1.Steps), Seg.cell V1_0 R1_0.one, Seg.cell V1_1 R1_1.one] ∧ Gr w w') ?_ ?_
 ·refine cw_block ?_
  refine cw_round (fun (s111 : Int) ρ' w' => ∃ o101 : Own k_pmem_cell 142 w' w.heap.size u100 t97.cells, ∃ o105 : Own (kI .i64) 3 w' w.heap.size u104 t97.plan.list, ρ' 0 = V0_0 ∧ ρ' 3 = (pt G1 0) ∧ ρ' 5 = (pt G33 0) ∧ ρ' 6 = .int .i64 t83.1 ∧ ρ' 7 = .int .i64 s111 ∧ Blk w' G1 129 [Seg.cell (.int .u8 a1.Steps), Seg.cell V1_0 R1_0.one, Seg.cell V1_1 R1_1.one] ∧ Blk w' G33 139 [Seg.cell u100 o101.one, Seg.cell u104 o105.one, (sI t97.plan.at_), Seg.cell (.bool t97.off), Seg.cell (.bool t97.armed), (sI t97.left), (sI t97.steps)] ∧ Gr w w') l113 ?_ ?_
  ·skip
   exact ⟨o101, o105, e0, e3, rfl, rfl, rfl, b2, b35, fB⟩
  rintro s111 x118 ρ116 w117 ⟨o101, o105, e0, e3, e5, e6, e7, b2, b35, fB⟩ h
  unfold rickyardlaw16_RootClears.s0 at h
  refine cw_seq ?_
  refine cw_seq ?_
  refine cw_region ?_
  refine ol_val (v := .int .i64 s111) (xr_move rfl e7) rfl rfl rfl ?_
  refine ol_val (v := .bool (decide (s111 < 2))) (xr_lss rfl rfl rfl) rfl rfl rfl ?_
  refine ol_nil ?_
  rcases is h with ⟨c119, h⟩ | ⟨c119, h⟩
  ·refine cw_condT rfl c119 ?_
   refine cw_skip ?_
   refine cw_seq ?_
   refine cw_block ?_
   refine cw_seq ?_
   refine cw_region ?_
   refine ol_val (v := (pt G33 0)) (xr_move rfl e5) rfl rfl rfl ?_
   refine ol_val (v := .int .i64 s111) (xr_move rfl e7) rfl rfl rfl ?_
   obtain ⟨t120, k121, h⟩ := bs h
   refine ol_op (opv_call rfl cal70 (ac rfl (ac rfl an)) (root_Read.ok fu _ t97 G33 u100 (o101.rd) u104 (o105.rd) b35 s111 _ k121)) rfl rfl rfl ?_
   rintro _ w126 ⟨u122, o123, rfl, q125⟩
   have a127 := OffV.call o105 o123
   have o123 := Own.base o123 fB.size
   have b2 := b2.gr q125
   have b35 := b35.gr q125
   have o101 := o101.gr q125
   have o105 := o105.gr q125
   have fB := fB.gr q125
   refine ol_val (v := .tuple #[aggV [(sI t120.1.Epoch), (sI t120.1.Tickets.Geometry.Blocks), (sI t120.1.Tickets.Geometry.Slots), (sI t120.1.Tickets.Geometry.Gens), (sI t120.1.Tickets.Top), (sI t120.1.Tickets.High), (sI t120.1.Tickets.Free), (sI t120.1.Dir), Seg.cell u122 o123.one], .bool t120.2]) (xr_move rfl rfl) rfl rfl rfl ?_
   refine ol_val (v := aggV [(sI t120.1.Epoch), (sI t120.1.Tickets.Geometry.Blocks), (sI t120.1.Tickets.Geometry.Slots), (sI t120.1.Tickets.Geometry.Gens), (sI t120.1.Tickets.Top), (sI t120.1.Tickets.High), (sI t120.1.Tickets.Free), (sI t120.1.Dir), Seg.cell u122 o123.one]) (xr_extract rfl rfl rfl) rfl rfl rfl ?_
   refine ol_val (v := .bool t120.2) (xr_extract rfl rfl rfl) rfl rfl rfl ?_
   refine ol_op (opv_alloc (ss := [(sI (0 : Int)), (sI (0 : Int)), (sI (0 : Int)), (sI (0 : Int)), (sI (0 : Int)), (sI (0 : Int)), (sI (0 : Int)), (sI (0 : Int)), Seg.cell (.slice none 0 0) (by rfl)]) rfl ze110 rfl) rfl rfl rfl ?_
   rintro _ w133 ⟨G128, rfl, b129, q130, z131⟩
   have n134 := b2.ne z131
   have n135 := b35.ne z131
   have z131 := Nat.le_trans fB.size z131
   have b2 := b2.gr q130
   have b35 := b35.gr q130
   have o101 := o101.gr q130
   have o105 := o105.gr q130
   have o123 := o123.gr q130
   have fB := fB.gr q130
   have f137 := off_ty b129 o101 (by decide)
   have f138 := off_ty b129 o105 (by decide)
   have f139 := off_ty b129 o123 (by decide)
   refine ol_op0 (opv_store (ss' := [(sI t120.1.Epoch), (sI t120.1.Tickets.Geometry.Blocks), (sI t120.1.Tickets.Geometry.Slots), (sI t120.1.Tickets.Geometry.Gens), (sI t120.1.Tickets.Top), (sI t120.1.Tickets.High), (sI t120.1.Tickets.Free), (sI t120.1.Dir), Seg.cell u122 o123.one]) (xs := cellsOf [(sI t120.1.Epoch), (sI t120.1.Tickets.Geometry.Blocks), (sI t120.1.Tickets.Geometry.Slots), (sI t120.1.Tickets.Geometry.Gens), (sI t120.1.Tickets.Top), (sI t120.1.Tickets.High), (sI t120.1.Tickets.Free), (sI t120.1.Dir), Seg.cell u122 o123.one]) rfl sz110 rfl rfl rfl (len_cellsOf _) (one_cellsOf _) b129 (Spl.segs _ 0 9 [(sI t120.1.Epoch), (sI t120.1.Tickets.Geometry.Blocks), (sI t120.1.Tickets.Geometry.Slots), (sI t120.1.Tickets.Geometry.Gens), (sI t120.1.Tickets.Top), (sI t120.1.Tickets.High), (sI t120.1.Tickets.Free), (sI t120.1.Dir), Seg.cell u122 o123.one] rfl rfl)) rfl rfl ?_
   rintro _ w140 ⟨b129, q136⟩
   have b2 := b2.wr q136 n134
   have b35 := b35.wr q136 n135
   have o101 := o101.wr q136 f137
   have o105 := o105.wr q136 f138
   have o123 := o123.wr q136 f139
   have fB := fB.wr q136 z131
   refine ol_val (v := .bool t120.2) (xr_assign rfl rfl) rfl rfl rfl ?_
   refine ol_nil ?_
   refine cw_seq ?_
   refine cw_region ?_
   refine ol_val (v := V0_0) (xr_move rfl e0) rfl rfl rfl ?_
   refine ol_val (v := sv (List.map toB a0)) (xr_toStr rfl Try.underlying43 Try.underlying5 Try.underlying9 rfl (R0_0.gr fB)) rfl rfl rfl ?_
   refine ol_val (v := .int .i64 s111) (xr_move rfl e7) rfl rfl rfl ?_
   obtain ⟨t141, k142, h⟩ := bs h
   refine ol_op (opv_call rfl cal71 (ac rfl (ac rfl an)) (rickyardref16_At.ok fu _ (List.map toB a0) s111 _ k142)) rfl rfl rfl ?_
   rintro _ w147 ⟨u143, o144, rfl, q146⟩
   have a148 := OffV.call o105 o144
   have a149 := OffV.call o123 o144
   have o144 := Own.base o144 fB.size
   have b2 := b2.gr q146
   have b35 := b35.gr q146
   have b129 := b129.gr q146
   have o101 := o101.gr q146
   have o105 := o105.gr q146
   have o123 := o123.gr q146
   have fB := fB.gr q146
   refine ol_val (v := .tuple #[aggV [(sI t141.1.Epoch), (sI t141.1.Tickets.Geometry.Blocks), (sI t141.1.Tickets.Geometry.Slots), (sI t141.1.Tickets.Geometry.Gens), (sI t141.1.Tickets.Top), (sI t141.1.Tickets.High), (sI t141.1.Tickets.Free), (sI t141.1.Dir), Seg.cell u143 o144.one], .bool t141.2]) (xr_move rfl rfl) rfl rfl rfl ?_
   refine ol_val (v := aggV [(sI t141.1.Epoch), (sI t141.1.Tickets.Geometry.Blocks), (sI t141.1.Tickets.Geometry.Slots), (sI t141.1.Tickets.Geometry.Gens), (sI t141.1.Tickets.Top), (sI t141.1.Tickets.High), (sI t141.1.Tickets.Free), (sI t141.1.Dir), Seg.cell u143 o144.one]) (xr_extract rfl rfl rfl) rfl rfl rfl ?_
   refine ol_val (v := .bool t141.2) (xr_extract rfl rfl rfl) rfl rfl rfl ?_
   refine ol_op (opv_alloc (ss := [(sI (0 : Int)), (sI (0 : Int)), (sI (0 : Int)), (sI (0 : Int)), (sI (0 : Int)), (sI (0 : Int)), (sI (0 : Int)), (sI (0 : Int)), Seg.cell (.slice none 0 0) (by rfl)]) rfl ze110 rfl) rfl rfl rfl ?_
   rintro _ w155 ⟨G150, rfl, b151, q152, z153⟩
   have n156 := b2.ne z153
   have n157 := b35.ne z153
   have n158 := b129.ne z153
   have z153 := Nat.le_trans fB.size z153
   have b2 := b2.gr q152
   have b35 := b35.gr q152
   have b129 := b129.gr q152
   have o101 := o101.gr q152
   have o105 := o105.gr q152
   have o123 := o123.gr q152
   have o144 := o144.gr q152
   have fB := fB.gr q152
   have f160 := off_ty b151 o101 (by decide)
   have f161 := off_ty b151 o105 (by decide)
   have f162 := off_ty b151 o123 (by decide)
   have f163 := off_ty b151 o144 (by decide)
   refine ol_op0 (opv_store (ss' := [(sI t141.1.Epoch), (sI t141.1.Tickets.Geometry.Blocks), (sI t141.1.Tickets.Geometry.Slots), (sI t141.1.Tickets.Geometry.Gens), (sI t141.1.Tickets.Top), (sI t141.1.Tickets.High), (sI t141.1.Tickets.Free), (sI t141.1.Dir), Seg.cell u143 o144.one]) (xs := cellsOf [(sI t141.1.Epoch), (sI t141.1.Tickets.Geometry.Blocks), (sI t141.1.Tickets.Geometry.Slots), (sI t141.1.Tickets.Geometry.Gens), (sI t141.1.Tickets.Top), (sI t141.1.Tickets.High), (sI t141.1.Tickets.Free), (sI t141.1.Dir), Seg.cell u143 o144.one]) rfl sz110 rfl rfl rfl (len_cellsOf _) (one_cellsOf _) b151 (Spl.segs _ 0 9 [(sI t141.1.Epoch), (sI t141.1.Tickets.Geometry.Blocks), (sI t141.1.Tickets.Geometry.Slots), (sI t141.1.Tickets.Geometry.Gens), (sI t141.1.Tickets.Top), (sI t141.1.Tickets.High), (sI t141.1.Tickets.Free), (sI t141.1.Dir), Seg.cell u143 o144.one] rfl rfl)) rfl rfl ?_
   rintro _ w164 ⟨b151, q159⟩
   have b2 := b2.wr q159 n156
   have b35 := b35.wr q159 n157
   have b129 := b129.wr q159 n158
   have o101 := o101.wr q159 f160
   have o105 := o105.wr q159 f161
   have o123 := o123.wr q159 f162
   have o144 := o144.wr q159 f163
   have fB := fB.wr q159 z153
   refine ol_val (v := .bool t141.2) (xr_assign rfl rfl) rfl rfl rfl ?_
   refine ol_nil ?_
   refine cw_seq ?_
   obtain ⟨x165, j166, h⟩ := bs h
   refine cw_mid (fun ρ' w' => ρ' 0 = V0_0 ∧ ρ' 3 = (pt G1 0) ∧ ρ' 5 = (pt G33 0) ∧ ρ' 6 = .int .i64 t83.1 ∧ ρ' 7 = .int .i64 s111 ∧ ρ' 87 = .bool x165 ∧ Gr w164 w') ?_ ?_
   ·skip
    refine cw_region ?_
    refine ol_val (v := .bool t120.2) (xr_move rfl rfl) rfl rfl rfl ?_
    refine ol_val (v := .bool t120.2) (xr_move rfl rfl) rfl rfl rfl ?_
    rcases is j166 with ⟨c167, j166⟩ | ⟨c167, j166⟩
    ·skip
     refine ol_gval (v := .int .i64 t83.1) (xr_move rfl e6) rfl rfl rfl rfl rfl c167 ?_
     refine ol_gval (v := .bool (decide (t83.1 = 0))) (xr_eqI rfl Try.underlying31 rfl rfl rfl) rfl rfl rfl rfl rfl c167 ?_
     refine ol_gval (v := .bool (decide (t83.1 = 0))) (xr_move rfl rfl) rfl rfl rfl rfl rfl c167 ?_
     rcases is j166 with ⟨c168, j166⟩ | ⟨c168, j166⟩
     ·skip
      refine ol_gskip rfl rfl rfl rfl rfl c168 ?_
      refine ol_gskip rfl rfl rfl rfl rfl c168 ?_
      refine ol_gval (v := .bool true) (xr_pickT rfl rfl c168 rfl) rfl rfl rfl rfl rfl c167 ?_
      refine ol_gval (v := .bool true) (xr_move rfl rfl) rfl rfl rfl rfl rfl c167 ?_
      refine ol_gskip rfl rfl rfl rfl rfl rfl ?_
      refine ol_gskip rfl rfl rfl rfl rfl rfl ?_
      refine ol_gskip rfl rfl rfl rfl rfl rfl ?_
      refine ol_gskip rfl rfl rfl rfl rfl rfl ?_
      refine ol_gval (v := .bool true) (xr_pickT rfl rfl rfl rfl) rfl rfl rfl rfl rfl c167 ?_
      refine ol_val (v := .bool true) (xr_pickT rfl rfl c167 rfl) rfl rfl rfl ?_
      refine ol_nil ?_
      obtain rfl := Option.some.inj j166
      refine thn_i ?_
      exact ⟨e0, e3, e5, e6, e7, rfl, Fr.refl _ _⟩
     refine ol_gval (v := .bool t141.2) (xr_move rfl rfl) rfl rfl rfl rfl rfl c168 ?_
     refine ol_gval (v := .bool (!t141.2)) (xr_not rfl rfl) rfl rfl rfl rfl rfl c168 ?_
     refine ol_gval (v := .bool (!t141.2)) (xr_pickF rfl rfl c168 rfl) rfl rfl rfl rfl rfl c167 ?_
     refine ol_gval (v := .bool (!t141.2)) (xr_move rfl rfl) rfl rfl rfl rfl rfl c167 ?_
     rcases is j166 with ⟨c169, j166⟩ | ⟨c169, j166⟩
     ·skip
      refine ol_gskip rfl rfl rfl rfl rfl c169 ?_
      refine ol_gskip rfl rfl rfl rfl rfl c169 ?_
      refine ol_gskip rfl rfl rfl rfl rfl c169 ?_
      refine ol_gskip rfl rfl rfl rfl rfl c169 ?_
      refine ol_gval (v := .bool true) (xr_pickT rfl rfl c169 rfl) rfl rfl rfl rfl rfl c167 ?_
      refine ol_val (v := .bool true) (xr_pickT rfl rfl c167 rfl) rfl rfl rfl ?_
      refine ol_nil ?_
      obtain rfl := Option.some.inj j166
      refine thn_i ?_
      exact ⟨e0, e3, e5, e6, e7, rfl, Fr.refl _ _⟩
     refine ol_gval (v := aggV [(sI t120.1.Epoch), (sI t120.1.Tickets.Geometry.Blocks), (sI t120.1.Tickets.Geometry.Slots), (sI t120.1.Tickets.Geometry.Gens), (sI t120.1.Tickets.Top), (sI t120.1.Tickets.High), (sI t120.1.Tickets.Free), (sI t120.1.Dir), Seg.cell u122 o123.one]) (xr_loadS (ss := [(sI t120.1.Epoch), (sI t120.1.Tickets.Geometry.Blocks), (sI t120.1.Tickets.Geometry.Slots), (sI t120.1.Tickets.Geometry.Gens), (sI t120.1.Tickets.Top), (sI t120.1.Tickets.High), (sI t120.1.Tickets.Free), (sI t120.1.Dir), Seg.cell u122 o123.one]) rfl ag110 sz110 rfl rfl (b129.segs 0 9 rfl)) rfl rfl rfl rfl rfl c169 ?_
     refine ol_gval (v := aggV [(sI t141.1.Epoch), (sI t141.1.Tickets.Geometry.Blocks), (sI t141.1.Tickets.Geometry.Slots), (sI t141.1.Tickets.Geometry.Gens), (sI t141.1.Tickets.Top), (sI t141.1.Tickets.High), (sI t141.1.Tickets.Free), (sI t141.1.Dir), Seg.cell u143 o144.one]) (xr_loadS (ss := [(sI t141.1.Epoch), (sI t141.1.Tickets.Geometry.Blocks), (sI t141.1.Tickets.Geometry.Slots), (sI t141.1.Tickets.Geometry.Gens), (sI t141.1.Tickets.Top), (sI t141.1.Tickets.High), (sI t141.1.Tickets.Free), (sI t141.1.Dir), Seg.cell u143 o144.one]) rfl ag110 sz110 rfl rfl (b151.segs 0 9 rfl)) rfl rfl rfl rfl rfl c169 ?_
     obtain ⟨t170, k171, j166⟩ := bs j166
     refine ol_gop (opv_call rfl cal74 (ac rfl (ac rfl an)) (rickyardref13_Same.ok fu _ t120.1 u122 (o123.rd) t141.1 u143 (o144.rd) _ k171)) rfl rfl rfl rfl rfl c169 ?_
     rintro _ w173 ⟨rfl, q172⟩
     have b2 := b2.gr q172
     have b35 := b35.gr q172
     have o101 := o101.gr q172
     have o105 := o105.gr q172
     have o123 := o123.gr q172
     have o144 := o144.gr q172
     have fB := fB.gr q172
     refine ol_gval (v := .bool (!t170)) (xr_not rfl rfl) rfl rfl rfl rfl rfl c169 ?_
     refine ol_gval (v := .bool (!t170)) (xr_pickF rfl rfl c169 rfl) rfl rfl rfl rfl rfl c167 ?_
     refine ol_val (v := .bool (!t170)) (xr_pickT rfl rfl c167 rfl) rfl rfl rfl ?_
     refine ol_nil ?_
     obtain rfl := Option.some.inj j166
     refine thn_i ?_
     exact ⟨e0, e3, e5, e6, e7, rfl, q172⟩
    refine ol_gskip rfl rfl rfl rfl rfl c167 ?_
    refine ol_gskip rfl rfl rfl rfl rfl c167 ?_
    refine ol_gskip rfl rfl rfl rfl rfl c167 ?_
    refine ol_uskip rfl rfl rfl rfl rfl ?_
    refine ol_uskip rfl rfl rfl rfl rfl ?_
    refine ol_gskip rfl rfl rfl rfl rfl c167 ?_
    refine ol_gskip rfl rfl rfl rfl rfl c167 ?_
    refine ol_uskip rfl rfl rfl rfl rfl ?_
    refine ol_uskip rfl rfl rfl rfl rfl ?_
    refine ol_uskip rfl rfl rfl rfl rfl ?_
    refine ol_uskip rfl rfl rfl rfl rfl ?_
    refine ol_gskip rfl rfl rfl rfl rfl c167 ?_
    refine ol_val (v := .bool false) (xr_pickF rfl rfl c167 rfl) rfl rfl rfl ?_
    refine ol_nil ?_
    obtain rfl := Option.some.inj j166
    refine thn_i ?_
    exact ⟨e0, e3, e5, e6, e7, rfl, Fr.refl _ _⟩
   rintro ρ174 w175 ⟨e0, e3, e5, e6, e7, e87, q176⟩
   have b2 := b2.gr q176
   have b35 := b35.gr q176
   have o101 := o101.gr q176
   have o105 := o105.gr q176
   have fB := fB.gr q176
   rcases is h with ⟨c177, h⟩ | ⟨c177, h⟩
   ·refine cw_condT e87 c177 ?_
    refine cw_seq ?_
    refine cw_region ?_
    refine ol_val (v := .bool false) (xr_assign rfl rfl) rfl rfl rfl ?_
    refine ol_nil ?_
    refine cw_ret ?_
    repeat (first | with_reducible refine thn_r ?_ | with_reducible refine blk_r ?_)
    obtain rfl := Option.some.inj h
    refine lp_ret ?_
    rintro rfl
    repeat (first | with_reducible refine thn_r ?_ | with_reducible refine blk_r ?_)
    have h := h114
    obtain rfl := Option.some.inj h
    refine fin_ret1 Try.results23 rfl ?_
    exact ⟨_, rfl, rfl, fB⟩
   refine cw_condF e87 c177 ?_
   refine cw_skip ?_
   refine blk_i ?_
   refine cw_region ?_
   refine ol_val (v := .int .i64 s111) (xr_move rfl e7) rfl rfl rfl ?_
   refine ol_val (v := .int .i64 (IntKind.i64.wrap (s111 + 1))) (xr_add rfl rfl rfl) rfl rfl rfl ?_
   refine ol_val (v := .int .i64 (IntKind.i64.wrap (s111 + 1))) (xr_assign rfl rfl) rfl rfl rfl ?_
   refine ol_nil ?_
   obtain rfl := Option.some.inj h
   refine lp_in ?_
   exact ⟨o101, o105, e0, e3, e5, e6, rfl, b2, b35, fB⟩
  refine cw_condF rfl c119 ?_
  refine cw_exit ?_
  repeat (first | with_reducible refine thn_e ?_ | with_reducible refine blk_e rfl ?_)
  obtain rfl := Option.some.inj h
  refine lp_exit ?_
  rintro rfl
  refine thn_x ?_
  exact ⟨_, rfl, e3, e6, b2, fB⟩
 rintro ρ178 w179 ⟨x115, rfl, e3, e6, b2, fB⟩
 have h := h114
 refine cw_seq ?_
 refine cw_region ?_
 refine ol_val (v := .int .i64 t83.1) (xr_move rfl e6) rfl rfl rfl ?_
 refine ol_val (v := .bool (decide (t83.1 = 0))) (xr_eqI rfl Try.underlying31 rfl rfl rfl) rfl rfl rfl ?_
 refine ol_val (v := (pt G1 0)) (xr_fieldAddr (p := 0) (q := 0) rfl fl129_0 e3) rfl rfl rfl ?_
 refine ol_val (v := .int .u8 a1.Steps) (xr_load1 (v := .int .u8 a1.Steps) rfl ag5 rfl (b2.seg 0 rfl rfl)) rfl rfl rfl ?_
 refine ol_val (v := .int .i64 (IntKind.i64.wrap a1.Steps)) (xr_conv rfl Try.underlying5 Try.underlying3 rfl) rfl rfl rfl ?_
 refine ol_val (v := .int .i64 (Int.tmod (IntKind.i64.wrap a1.Steps) 8)) (xr_rem rfl rfl rfl (by decide)) rfl rfl rfl ?_
 refine ol_val (v := .bool (decide ((Int.tmod (IntKind.i64.wrap a1.Steps) 8) ≥ 5))) (xr_geq rfl rfl rfl) rfl rfl rfl ?_
 refine ol_val (v := .bool (decide ((decide (t83.1 = 0)) = (decide ((Int.tmod (IntKind.i64.wrap a1.Steps) 8) ≥ 5))))) (xr_eqB rfl Try.underlying4 rfl rfl) rfl rfl rfl ?_
 refine ol_val (v := .bool (decide ((decide (t83.1 = 0)) = (decide ((Int.tmod (IntKind.i64.wrap a1.Steps) 8) ≥ 5))))) (xr_assign rfl rfl) rfl rfl rfl ?_
 refine ol_nil ?_
 refine cw_ret ?_
 repeat (first | with_reducible refine thn_r ?_ | with_reducible refine blk_r ?_)
 obtain rfl := Option.some.inj h
 refine fin_ret1 Try.results23 rfl ?_
 exact ⟨_, rfl, rfl, fB⟩
end Go.Proofs.Ytklhbaghbmndeaa
namespace Go.Xw
open Go
variable {P : Program} {w : World}
def Opn {α : Type} (P : Program) (w : World) (T : TypeId) (K : Kd α) (ok : α → Prop) : Prop :=
  ∀ {H : Type} (enc : TypeId × Value → H) (base : Nat) (sp : Nat → Bool) (held : Bool) (fuel : Nat) (cs : List Value) (x : DataW H × List MemPlace), DataW.trod enc P w base sp held fuel T cs = some x → ∃ a : α, cs = K.enc a ∧ ok a
theorem opn_int {T : TypeId} {k : IntKind} (ht : P.underlying T = some (.int k)) : Opn P w T (kI k) (fun n => (Lit.int k n).wf = true) := by
  intro H enc base sp held fuel cs x h
  obtain ⟨n, rfl, _, hw⟩ := DataW.trod_int ht h
  exact ⟨n, rfl, hw⟩
theorem ms_len {α β : Type} {f : α → Option β} : ∀ {l : List α} {ys : List β}, l.mapM f = some ys → ys.length = l.length
  | [], ys, h => by simp at h; subst h; rfl
  | a :: l, ys, h => by
    rw [List.mapM_cons] at h
    obtain ⟨b, _, h⟩ := Option.bind_eq_some_iff.1 h
    obtain ⟨bs, hb, h⟩ := Option.bind_eq_some_iff.1 h
    simp at h
    subst h
    simp [ms_len hb]
theorem ms_get {α β : Type} {f : α → Option β} : ∀ {l : List α} {ys : List β}, l.mapM f = some ys → ∀ (i : Nat) (a : α), l[i]? = some a → ∃ y, ys[i]? = some y ∧ f a = some y
  | [], ys, h, i, a, ha => by simp at ha
  | b :: l, ys, h, i, a, ha => by
    rw [List.mapM_cons] at h
    obtain ⟨c, hc, h⟩ := Option.bind_eq_some_iff.1 h
    obtain ⟨bs, hb, h⟩ := Option.bind_eq_some_iff.1 h
    simp at h
    subst h
    cases i with
    | zero =>
      simp at ha
      subst ha
      exact ⟨c, rfl, hc⟩
    | succ i =>
      simp at ha
      obtain ⟨y, h1, h2⟩ := ms_get hb i a ha
      exact ⟨y, by simpa using h1, h2⟩
theorem fld_cons {cs : List Value} {o n : Nat} {c r : List Value} (h : (cs.drop o).take n = c) (hr : cs.drop (o + n) = r) : cs.drop o = c ++ r := by
  rw [← h, ← hr, ← List.drop_drop, List.take_append_drop]
theorem trod_st {H : Type} {enc : TypeId × Value → H} {base : Nat} {sp : Nat → Bool} {held : Bool} {fuel : Nat} {T : TypeId} {fs : Array Field} {cs : List Value} {x : DataW H × List MemPlace} (ht : P.underlying T = some (.struct fs)) (h : DataW.trod enc P w base sp held fuel T cs = some x) :
    cs.length = P.cellsOf T ∧ ∃ m, ∀ (i : Nat) (f : Field), fs[i]? = some f → ∃ y, DataW.trod enc P w base sp held m f.type ((cs.drop f.offset).take (P.cellsOf f.type)) = some y := by
  obtain ⟨xs, m, _, _, hl, hn, hf⟩ := DataW.trod_struct ht h
  refine ⟨hl, m, fun i f hi => ?_⟩
  have hx : i < xs.length := by rw [hn]; exact (Array.getElem?_eq_some_iff.1 hi).1
  exact ⟨xs[i], by rw [hf i f hi, List.getElem?_eq_getElem hx]⟩
def OpnS {α : Type} (P : Program) (w : World) (T : TypeId) (K : Kd α) (ok : α → Prop) : Prop :=
  ∀ {H : Type} (enc : TypeId × Value → H) (base : Nat) (sp : Nat → Bool) (held : Bool) (fuel : Nat) (cs : List Value) (x : DataW H × List MemPlace), DataW.trod enc P w base sp held fuel T cs = some x → ∃ (l : List α) (V : Value), cs = [V] ∧ Rd K w V l ∧ (∀ a ∈ l, ok a) ∧ l.length ≤ maxLen ∧ (sb V < w.heap.size ∨ l = [])
theorem cells_get {base : Nat} {a : Addr} {n : Nat} {cs : List Value} (h : w.cells? base a n = some cs) : cs.length = n ∧ ∀ j, j < n → w.cell? (a.add j) = cs[j]? := by
  unfold World.cells? at h
  split at h
  · refine ⟨by simpa using ms_len h, fun j hj => ?_⟩
    obtain ⟨y, h1, h2⟩ := ms_get h j j (by simp [hj])
    rw [h1, h2]
  · cases h
theorem opn_slice {α : Type} {K : Kd α} {ok : α → Prop} {T e : TypeId} (ht : P.underlying T = some (.slice e)) (he : P.cellsOf e = K.size) (hk : 0 < K.size) (ho : Opn P w e K ok) : OpnS P w T K ok := by
  intro H enc base sp held fuel cs x h
  rcases DataW.trod_slice ht h with ⟨rfl, _⟩ | ⟨a, len, cap, elems, rest, n, rfl, rfl, _, _, hl, hm, hlen, hel, _, _⟩
  · exact ⟨[], _, rfl, Rd.nil K w, by simp, by simp, .inr rfl⟩
  · have hex : ∀ i, i < len → ∃ b, (∀ j z, (K.enc b)[j]? = some z → w.cell? (a.add (i * K.size + j)) = some z) ∧ ok b := by
      intro i hi
      have h1 := hel i hi
      rw [List.getElem?_eq_getElem (by omega)] at h1
      obtain ⟨cs, h2, h3⟩ := Option.bind_eq_some_iff.1 h1
      obtain ⟨b, rfl, hb⟩ := ho enc base sp held n cs _ h3
      obtain ⟨h4, h5⟩ := cells_get h2
      rw [he] at h4 h5
      refine ⟨b, fun j z hz => ?_, hb⟩
      have hj : j < K.size := by rw [← h4]; exact (List.getElem?_eq_some_iff.1 hz).1
      have := h5 j hj
      rw [hz] at this
      rw [← this]
      congr 1
      unfold Addr.add
      by_cases hi0 : i * K.size = 0
      · by_cases hj0 : j = 0
        · simp [hi0, hj0]
        · simp [hi0, hj0]
      · by_cases hj0 : j = 0
        · simp [hi0, hj0]
        · have : i * K.size + j ≠ 0 := by omega
          simp [hi0, hj0, this, Nat.add_assoc]
    have hlist : ∀ m, m ≤ len → ∃ l : List α, l.length = m ∧ (∀ b ∈ l, ok b) ∧ ∀ j z, (l.flatMap K.enc)[j]? = some z → w.cell? (a.add j) = some z := by
      intro m
      induction m with
      | zero => intro _; exact ⟨[], rfl, by simp, by simp⟩
      | succ m ih =>
        intro hm
        obtain ⟨l, h1, h2, h3⟩ := ih (by omega)
        obtain ⟨b, h4, h5⟩ := hex m (by omega)
        refine ⟨l ++ [b], by simp [h1], ?_, ?_⟩
        · intro c hc
          rcases List.mem_append.1 hc with hc | hc
          · exact h2 c hc
          · obtain rfl := List.mem_singleton.1 hc
            exact h5
        · intro j z hz
          have hL : (l.flatMap K.enc).length = m * K.size := by rw [len_flat, h1]
          simp only [List.flatMap_append, List.flatMap_cons, List.flatMap_nil, List.append_nil] at hz
          by_cases hj : j < m * K.size
          · rw [List.getElem?_append_left (by omega)] at hz
            exact h3 j z hz
          · rw [List.getElem?_append_right (by omega), hL] at hz
            have := h4 (j - m * K.size) z hz
            rwa [show m * K.size + (j - m * K.size) = j from by omega] at this
    obtain ⟨l, h1, h2, h3⟩ := hlist len (Nat.le_refl _)
    have hpos : 0 < l.length → ∃ z, w.cell? a = some z := by
      intro hp
      cases l with
      | nil => simp at hp
      | cons b l =>
        have hb : (K.enc b).length = K.size := K.len b
        have : ∃ z, ((b :: l).flatMap K.enc)[0]? = some z := ⟨_, List.getElem?_eq_getElem (by simp [List.flatMap_cons, hb]; omega)⟩
        obtain ⟨z, hz⟩ := this
        have := h3 0 z hz
        exact ⟨z, by simpa [Addr.add] using this⟩
    refine ⟨l, _, rfl, ⟨some a, cap, by rw [h1], by omega, fun hp => ?_⟩, h2, by omega, ?_⟩
    · obtain ⟨z, hz⟩ := hpos hp
      obtain ⟨b, o, s⟩ := a
      have hs : s = none := by
        unfold World.cell? at hz
        split at hz
        · cases s with
          | none => rfl
          | some _ => simp at hz
        · cases hz
      subst hs
      refine ⟨b, o, rfl, fun j v hv => ?_⟩
      have := h3 j v hv
      rwa [Addr.add_lit] at this
    · rcases Nat.eq_zero_or_pos l.length with h0 | hp
      · exact .inr (List.eq_nil_of_length_eq_zero h0)
      · obtain ⟨z, hz⟩ := hpos hp
        refine .inl ?_
        unfold World.cell? at hz
        split at hz
        · rename_i hh
          exact (Array.getElem?_eq_some_iff.1 hh).1
        · cases hz
theorem agg_of {T : TypeId} {v : Value} {cs : List Value} {base : Nat} (h : aggB P T = some true) (hv : Value.okWide P w .any base T v) (hc : v.cells.toList = cs) : v = .agg cs.toArray := by
  unfold aggB at h
  obtain ⟨d, hu, hd⟩ := Option.map_eq_some_iff.1 h
  unfold Value.okWide at hv
  rw [hu] at hv
  cases d <;> simp at hd <;> (obtain ⟨c2, rfl, _⟩ := hv; subst hc; simp [Value.cells])
end Go.Xw
namespace Go.Proofs.Ytklhbaghbmndeaa
open Go Go.Xw
def ok_rickyardlaw16_Cut (a : S_rickyardlaw16_Cut) : Prop := (Lit.int .u8 a.Steps).wf = true ∧ ((∀ x ∈ a.Plan, (Lit.int .i64 x).wf = true) ∧ List.length a.Plan ≤ maxLen) ∧ ((∀ x ∈ a.L, (Lit.int .i64 x).wf = true) ∧ List.length a.L ≤ maxLen)
theorem opn_rickyardlaw16_Cut {w : World} {H : Type} (enc : TypeId × Value → H) (base : Nat) (sp : Nat → Bool) (held : Bool) (fuel : Nat) (cs : List Value) (x : DataW H × List MemPlace) (h : DataW.trod enc Try.prog w base sp held fuel 129 cs = some x) : ∃ a : S_rickyardlaw16_Cut, ∃ V0 : Value, ∃ V1 : Value, ∃ R0 : Rd (kI .i64) w V0 a.Plan, ∃ R1 : Rd (kI .i64) w V1 a.L, cs = cellsOf [Seg.cell (.int .u8 a.Steps), Seg.cell V0 R0.one, Seg.cell V1 R1.one] ∧ ok_rickyardlaw16_Cut a := by
  obtain ⟨hl, m, hf⟩ := trod_st Try.underlying129 h
  obtain ⟨y0, h0⟩ := hf 0 _ rfl
  have c0 : Try.prog.cellsOf 5 = 1 := by kernel_rfl
  obtain ⟨b0, e0, o0⟩ := (opn_int Try.underlying5) enc base sp held m _ y0 h0
  have e0 : (cs.drop 0).take 1 = (kI .u8).enc b0 := (congrArg (fun n => (cs.drop 0).take n) c0).symm.trans e0
  obtain ⟨y1, h1⟩ := hf 1 _ rfl
  have c1 : Try.prog.cellsOf 25 = 1 := by kernel_rfl
  obtain ⟨b1, W1, e1, r1, o1, l1, _⟩ := (opn_slice (K := (kI .i64)) Try.underlying25 (by kernel_rfl) (by decide) (opn_int Try.underlying3)) enc base sp held m _ y1 h1
  have e1 : (cs.drop 1).take 1 = [W1] := (congrArg (fun n => (cs.drop 1).take n) c1).symm.trans e1
  obtain ⟨y2, h2⟩ := hf 2 _ rfl
  have c2 : Try.prog.cellsOf 25 = 1 := by kernel_rfl
  obtain ⟨b2, W2, e2, r2, o2, l2, _⟩ := (opn_slice (K := (kI .i64)) Try.underlying25 (by kernel_rfl) (by decide) (opn_int Try.underlying3)) enc base sp held m _ y2 h2
  have e2 : (cs.drop 2).take 1 = [W2] := (congrArg (fun n => (cs.drop 2).take n) c2).symm.trans e2
  have hn : cs.drop 3 = [] := List.drop_eq_nil_of_le (by rw [hl]; exact Nat.le_of_eq (by kernel_rfl))
  have hc : cs = (kI .u8).enc b0 ++ ([W1] ++ ([W2] ++ [])) := (fld_cons (o := 0) (n := 1) e0 (fld_cons (o := 1) (n := 1) e1 (fld_cons (o := 2) (n := 1) e2 hn)))
  refine ⟨⟨b0, b1, b2⟩, W1, W2, r1, r2, ?_, o0, ⟨o1, l1⟩, ⟨o2, l2⟩⟩
  rw [hc]
  simp [kA, kI, kB, kS, kT, cellsOf, Seg.cell, Kd.seg, k_api_Fate, k_api_Geometry, k_api_Tickets, segs_api_Fate, segs_api_Geometry, segs_api_Tickets]
end Go.Proofs.Ytklhbaghbmndeaa
namespace Go.Proofs.Ytklhbaghbmndeaa.Pure
open Go Go.Xw
def upd {α : Type} (g : Nat → α → α) (lo j : Nat) (cs : List α) : List α := cs.mapIdx fun i c => if lo ≤ i ∧ i < lo + j then g i c else c
theorem upd_len {α : Type} (g : Nat → α → α) (lo j : Nat) (cs : List α) : (upd g lo j cs).length = cs.length := by simp [upd]
theorem upd_zero {α : Type} (g : Nat → α → α) (lo : Nat) (cs : List α) : upd g lo 0 cs = cs := by
  apply List.ext_getElem (by simp [upd])
  intro i h1 h2
  simp only [upd, List.getElem_mapIdx]
  rw [if_neg (by omega)]
theorem upd_get {α : Type} (g : Nat → α → α) (lo j : Nat) (cs : List α) (i : Nat) (h : i < (upd g lo j cs).length) : (upd g lo j cs)[i] = if lo ≤ i ∧ i < lo + j then g i (cs[i]'(by simpa [upd] using h)) else cs[i]'(by simpa [upd] using h) := by
  simp only [upd, List.getElem_mapIdx]
theorem upd_next {α : Type} (g : Nat → α → α) (lo j : Nat) (cs : List α) (h : lo + j < cs.length) : (upd g lo j cs)[lo + j]'(by rw [upd_len]; exact h) = cs[lo + j] := by
  rw [upd_get, if_neg (by omega)]
theorem upd_set {α : Type} (g : Nat → α → α) (lo j : Nat) (cs : List α) (h : lo + j < cs.length) : (upd g lo j cs).set (lo + j) (g (lo + j) cs[lo + j]) = upd g lo (j + 1) cs := by
  apply List.ext_getElem (by simp [upd])
  intro i h1 h2
  rw [List.getElem_set, upd_get g lo (j + 1)]
  by_cases e : lo + j = i
  · subst e
    rw [if_pos rfl, if_pos (by omega)]
  · rw [if_neg e, upd_get]
    by_cases c : lo ≤ i ∧ i < lo + j
    · rw [if_pos c, if_pos (by omega)]
    · rw [if_neg c, if_neg (by omega)]
theorem upd_same {α : Type} (g : Nat → α → α) (lo j : Nat) (cs : List α) (h : lo + j < cs.length) (e : g (lo + j) cs[lo + j] = cs[lo + j]) : upd g lo j cs = upd g lo (j + 1) cs := by
  apply List.ext_getElem (by simp [upd])
  intro i h1 h2
  rw [upd_get g lo j, upd_get g lo (j + 1)]
  by_cases e' : lo + j = i
  · subst e'
    rw [if_neg (by omega), if_pos (by omega), e]
  · by_cases c : lo ≤ i ∧ i < lo + j
    · rw [if_pos c, if_pos (by omega)]
    · rw [if_neg c, if_neg (by omega)]
theorem upd_all {α : Type} (g : Nat → α → α) (cs : List α) : upd g 0 cs.length cs = cs.mapIdx g := by
  apply List.ext_getElem (by simp [upd])
  intro i h1 h2
  rw [upd_get, if_pos ⟨by omega, by rw [upd_len] at h1; omega⟩, List.getElem_mapIdx]
theorem getD_set {α : Type} (cs : List α) (i k : Nat) (v d : α) (hi : i < cs.length) : (cs.set i v).getD k d = if i = k then v else cs.getD k d := by
  simp only [List.getD_eq_getElem?_getD, List.getElem?_set]
  by_cases h : i = k
  · subst h
    simp [hi]
  · simp [h]
theorem getD_of {α : Type} (cs : List α) (i : Nat) (d : α) (hi : i < cs.length) : cs.getD i d = cs[i] := by
  simp [List.getD_eq_getElem?_getD, List.getElem?_eq_getElem hi]
def I32 (x : BitVec 32) : Int := (x.toNat : Int)
theorem I32_lt (x : BitVec 32) : 0 ≤ I32 x ∧ I32 x ≤ 4294967295 := by
  unfold I32
  have := x.isLt
  omega
theorem ofI (x : BitVec 32) : BitVec.ofInt 32 (I32 x) = x := by
  unfold I32
  rw [BitVec.ofInt_natCast, BitVec.ofNat_toNat, BitVec.setWidth_eq]
theorem I32_of {n : Int} (h0 : 0 ≤ n) (h1 : n ≤ 4294967295) : n = I32 (BitVec.ofNat 32 n.toNat) := by
  unfold I32
  rw [BitVec.toNat_ofNat, Nat.mod_eq_of_lt (by omega)]
  omega
theorem wI32 (x : BitVec 32) : IntKind.u32.wrap (I32 x) = I32 x := wu32 (I32_lt x).1 (I32_lt x).2
theorem bx32 (x y : BitVec 32) : bXor .u32 (I32 x) (I32 y) = I32 (x ^^^ y) := by
  unfold bXor
  show IntKind.u32.wrap (((BitVec.ofInt 32 (I32 x) ^^^ BitVec.ofInt 32 (I32 y)).toNat : Nat) : Int) = _
  rw [ofI, ofI]
  exact wI32 _
theorem ba32 (x y : BitVec 32) : bAnd .u32 (I32 x) (I32 y) = I32 (x &&& y) := by
  unfold bAnd
  show IntKind.u32.wrap (((BitVec.ofInt 32 (I32 x) &&& BitVec.ofInt 32 (I32 y)).toNat : Nat) : Int) = _
  rw [ofI, ofI]
  exact wI32 _
theorem sr32 (x : BitVec 32) (n : Nat) (hn : n ≤ 32) : shR .u32 (I32 x) (n : Int) = I32 (x >>> n) := by
  unfold shR I32
  rw [BitVec.toNat_ushiftRight, Nat.shiftRight_eq_div_pow]
  show Int.fdiv (x.toNat : Int) (2 ^ min ((n : Int).toNat) 32) = _
  rw [Int.toNat_natCast, Nat.min_eq_left hn, Int.fdiv_eq_ediv_of_nonneg _ (Int.le_of_lt (Int.pow_pos (by decide)))]
  simp
def poly : BitVec 32 := 2197175160#32
def stp (x : BitVec 32) : BitVec 32 := (x >>> 1) ^^^ (if x.getLsbD 0 then poly else 0#32)
theorem lsb_and (x : BitVec 32) : (I32 (x &&& 1#32) = 1) ↔ x.getLsbD 0 = true := by
  unfold I32
  rw [BitVec.toNat_and]
  show ((x.toNat &&& 1 : Nat) : Int) = 1 ↔ x.toNat.testBit 0 = true
  rw [Nat.and_one_is_mod, Nat.testBit_zero]
  simp
  omega
theorem rstep_eq (fu : Nat) (x : BitVec 32) : rickyardref02_Step.f fu (I32 x) = some (I32 (stp x)) := by
  unfold rickyardref02_Step.f stp
  have hb := I32_lt x
  have e1 : Int.tmod (I32 x) 2 = I32 (x &&& 1#32) := by
    rw [Int.tmod_eq_emod_of_nonneg hb.1]
    unfold I32
    rw [BitVec.toNat_and]
    show ((x.toNat : Int)) % 2 = ((x.toNat &&& 1 : Nat) : Int)
    rw [Nat.and_one_is_mod]
    omega
  have e2 : Int.tdiv (I32 x) 2 = I32 (x >>> 1) := by
    rw [Int.tdiv_eq_ediv_of_nonneg hb.1]
    unfold I32
    rw [BitVec.toNat_ushiftRight, Nat.shiftRight_eq_div_pow]
    omega
  have e3 : bXor .u32 (I32 (x >>> 1)) 2197175160 = I32 (x >>> 1 ^^^ poly) := bx32 (x >>> 1) poly
  rw [e1, e2, wI32, e3]
  by_cases h : x.getLsbD 0 = true
  · rw [if_pos (by simpa using (lsb_and x).2 h), if_pos h]
  · rw [if_neg (by simpa using fun e => h ((lsb_and x).1 e)), if_neg h]
    simp
theorem xor4 (a b p q : BitVec 32) : (a ^^^ b) ^^^ (p ^^^ q) = (a ^^^ p) ^^^ (b ^^^ q) := by
  rw [BitVec.xor_assoc, ← BitVec.xor_assoc b, BitVec.xor_comm b p, BitVec.xor_assoc p, ← BitVec.xor_assoc]
theorem sel_xor (a b : Bool) (p : BitVec 32) : (if (a ^^ b) = true then p else 0#32) = (if a = true then p else 0#32) ^^^ (if b = true then p else 0#32) := by
  cases a <;> cases b <;> simp
theorem stp_xor (x y : BitVec 32) : stp (x ^^^ y) = stp x ^^^ stp y := by
  unfold stp
  rw [BitVec.ushiftRight_xor_distrib, BitVec.getLsbD_xor, sel_xor, xor4]
def stps : Nat → BitVec 32 → BitVec 32
  | 0, x => x
  | n + 1, x => stps n (stp x)
theorem stps_xor : ∀ (n : Nat) (x y : BitVec 32), stps n (x ^^^ y) = stps n x ^^^ stps n y
  | 0, x, y => rfl
  | n + 1, x, y => by
    unfold stps
    rw [stp_xor, stps_xor n]
theorem stps_add (m : Nat) : ∀ (n : Nat) (x : BitVec 32), stps (n + m) x = stps m (stps n x)
  | 0, x => by simp [stps]
  | n + 1, x => by
    rw [Nat.add_right_comm]
    show stps (n + m) (stp x) = stps m (stps n (stp x))
    exact stps_add m n (stp x)
theorem stps_succ (n : Nat) (x : BitVec 32) : stps (n + 1) x = stp (stps n x) := stps_add 1 n x
theorem stp_even {x : BitVec 32} (h : x.getLsbD 0 = false) : stp x = x >>> 1 := by
  unfold stp
  rw [h]
  simp
theorem stps_high (x : BitVec 32) : ∀ n, (∀ j, j < n → x.getLsbD j = false) → stps n x = x >>> n
  | 0, _ => by simp [stps]
  | n + 1, h => by
    rw [stps_succ, stps_high x n fun j hj => h j (by omega)]
    rw [stp_even (by rw [BitVec.getLsbD_ushiftRight]; exact h (n + 0) (by omega)), ← BitVec.shiftRight_add]
theorem low_bit (n j : Nat) (hj : j < n) (hn : n ≤ 32) : (BitVec.ofNat 32 (2 ^ n - 1)).getLsbD j = true := by
  rw [BitVec.getLsbD_ofNat, Nat.testBit_two_pow_sub_one]
  simp
  omega
theorem high_bit (n j : Nat) (hj : n ≤ j) : (BitVec.ofNat 32 (2 ^ n - 1)).getLsbD j = false := by
  rw [BitVec.getLsbD_ofNat, Nat.testBit_two_pow_sub_one]
  simp
  omega
theorem stps_split (n : Nat) (hn : n ≤ 32) (x : BitVec 32) : stps n x = (x >>> n) ^^^ stps n (x &&& BitVec.ofNat 32 (2 ^ n - 1)) := by
  have e : x = (x &&& ~~~ BitVec.ofNat 32 (2 ^ n - 1)) ^^^ (x &&& BitVec.ofNat 32 (2 ^ n - 1)) := by
    apply BitVec.eq_of_getLsbD_eq
    intro i hi
    rw [BitVec.getLsbD_xor, BitVec.getLsbD_and, BitVec.getLsbD_and, BitVec.getLsbD_not]
    cases x.getLsbD i <;> cases (BitVec.ofNat 32 (2 ^ n - 1)).getLsbD i <;> simp [hi]
  conv => lhs; rw [e]
  rw [stps_xor, stps_high]
  · congr 1
    apply BitVec.eq_of_getLsbD_eq
    intro i hi
    rw [BitVec.getLsbD_ushiftRight, BitVec.getLsbD_ushiftRight, BitVec.getLsbD_and, BitVec.getLsbD_not, high_bit n (n + i) (by omega)]
    by_cases h : n + i < 32
    · simp [h]
    · have : x.getLsbD (n + i) = false := BitVec.getLsbD_of_ge _ _ (by omega)
      simp [this]
  · intro j hj
    rw [BitVec.getLsbD_and, BitVec.getLsbD_not, low_bit n j hj hn]
    simp
def Bytes (l : List Int) : Prop := ∀ x ∈ l, 0 ≤ x ∧ x ≤ 255
def b32 (c : Int) : BitVec 32 := BitVec.ofNat 32 c.toNat
theorem b32_eq {c : Int} (h : 0 ≤ c ∧ c ≤ 255) : IntKind.u32.wrap c = I32 (b32 c) := by
  rw [wu32 h.1 (by omega)]
  exact I32_of h.1 (by omega)
def take8 (x : BitVec 32) (c : Int) : BitVec 32 := stps 8 (x ^^^ b32 c)
def regs (x : BitVec 32) (l : List Int) : BitVec 32 := l.foldl take8 x
def tabL : List Int := (List.range 16).map fun i => I32 (stps 4 (BitVec.ofNat 32 i))
def tabA : Arr 16 Int := ⟨tabL, rfl⟩
theorem table_at (n : Nat) : crc_Table.f (n + 20) = some tabA := by kernel_rfl
theorem table_eq {fu : Nat} (h : 20 ≤ fu) : crc_Table.f fu = some tabA := by
  obtain ⟨n, rfl⟩ : ∃ n, fu = n + 20 := ⟨fu - 20, by omega⟩
  exact table_at n
theorem tab_get : ∀ i : Fin 16, Arr.get tabA ((i : Nat) : Int) = I32 (stps 4 (BitVec.ofNat 32 (i : Nat))) := by decide +kernel
theorem nib (x : BitVec 32) : bXor .u32 (shR .u32 (I32 x) 4) (Arr.get tabA (bAnd .u32 (I32 x) 15)) = I32 (stps 4 x) := by
  have e1 : bAnd .u32 (I32 x) 15 = I32 (x &&& 15#32) := ba32 x 15#32
  have e2 : shR .u32 (I32 x) 4 = I32 (x >>> 4) := sr32 x 4 (by decide)
  have hlt : (x &&& 15#32).toNat < 16 := by
    rw [BitVec.toNat_and]
    exact Nat.lt_of_le_of_lt Nat.and_le_right (by decide)
  have e3 : Arr.get tabA (I32 (x &&& 15#32)) = I32 (stps 4 (x &&& 15#32)) := by
    have := tab_get ⟨(x &&& 15#32).toNat, hlt⟩
    simp only [BitVec.ofNat_toNat, BitVec.setWidth_eq] at this
    exact this
  rw [e1, e2, e3, bx32]
  exact congrArg I32 (stps_split 4 (by decide) x).symm
theorem nib_in (x : BitVec 32) : 0 ≤ bAnd .u32 (I32 x) 15 ∧ bAnd .u32 (I32 x) 15 < 16 := by
  have e1 : bAnd .u32 (I32 x) 15 = I32 (x &&& 15#32) := ba32 x 15#32
  have hlt : (x &&& 15#32).toNat < 16 := by
    rw [BitVec.toNat_and]
    exact Nat.lt_of_le_of_lt Nat.and_le_right (by decide)
  rw [e1]
  unfold I32
  omega
theorem ix_nat {α : Type} [Inhabited α] {l : List α} {j : Nat} (h : j < l.length) : ix l (j : Int) = l[j] := by
  simp [ix, List.getD_eq_getElem?_getD, List.getElem?_eq_getElem h]
theorem take_next {α : Type} {l : List α} {j : Nat} (h : j < l.length) : l.take (j + 1) = l.take j ++ [l[j]] := by
  rw [List.take_add_one, List.getElem?_eq_getElem h]
  rfl
theorem reg_eq {fu : Nat} {x : BitVec 32} {l : List Int} (hb : Bytes l) (hl : l.length ≤ 9000000000000000000) (hf : l.length < fu) : crc_register.f fu tabA (I32 x) l = some (I32 (regs x l)) := by
  unfold crc_register.f
  have : loopM (crc_register.s0 fu tabA l) fu (I32 x, 0) = some (I32 (regs x l)) := by
    refine loopM_run (S := fun j => (I32 (regs x (l.take j)), (j : Int))) l.length (by simp [regs]) ?_ ?_ hf
    · intro j hj
      unfold crc_register.s0
      have h1 : (j : Int) < (l.length : Int) := by omega
      have w3 : IntKind.i64.wrap ((j : Int) + 1) = ((j + 1 : Nat) : Int) := by rw [w64 (by omega) (by omega)]; omega
      have hc := hb _ (List.getElem_mem hj)
      have e1 : bXor .u32 (I32 (regs x (l.take j))) (IntKind.u32.wrap (ix l (j : Int))) = I32 (regs x (l.take j) ^^^ b32 l[j]) := by
        rw [ix_nat hj, b32_eq hc, bx32]
      have e2 : regs x (l.take (j + 1)) = stps 4 (stps 4 (regs x (l.take j) ^^^ b32 l[j])) := by
        rw [take_next hj]
        unfold regs
        rw [List.foldl_append]
        exact stps_add 4 4 _
      simp only [h1, decide_true, if_true, e1, nib, w3, e2]
      rw [if_pos ⟨by omega, trivial⟩, if_pos (nib_in _), if_pos (nib_in _)]
    · unfold crc_register.s0
      simp
  rw [this]
  rfl
def ones : BitVec 32 := 4294967295#32
def crc (l : List Int) : BitVec 32 := regs ones l ^^^ ones
theorem sum_eq {fu : Nat} {l : List Int} (hb : Bytes l) (hl : l.length ≤ 9000000000000000000) (hf : l.length + 20 < fu) : crc_Sum.f fu [l] = some (I32 (crc l)) := by
  unfold crc_Sum.f
  rw [table_eq (by omega)]
  have : loopM (crc_Sum.s0 fu [l] tabA) fu (4294967295, 0) = some (I32 (regs ones l)) := by
    refine loopM_run (S := fun j => (if j = 0 then I32 ones else I32 (regs ones l), (j : Int))) 1 rfl ?_ ?_ (by omega)
    · intro j hj
      obtain rfl : j = 0 := by omega
      unfold crc_Sum.s0
      have e0 : ix [l] ((0 : Nat) : Int) = l := rfl
      have w3 : IntKind.i64.wrap (((0 : Nat) : Int) + 1) = ((0 + 1 : Nat) : Int) := by decide
      simp only [e0, w3, if_true, reg_eq hb hl (by omega : l.length < fu)]
      simp
    · unfold crc_Sum.s0
      simp
  simp only [Option.bind_some]
  rw [this]
  simp only [Option.bind_some]
  exact congrArg some (bx32 _ ones)
theorem rsteps_eq {fu : Nat} {x : BitVec 32} (hf : 8 < fu) : rickyardref02_Steps.f fu (I32 x) 8 = some (I32 (stps 8 x)) := by
  unfold rickyardref02_Steps.f
  have : loopM (rickyardref02_Steps.s0 fu 8) fu (I32 x, 0) = some (I32 (stps 8 x)) := by
    refine loopM_run (S := fun j => (I32 (stps j x), (j : Int))) 8 rfl ?_ ?_ hf
    · intro j hj
      unfold rickyardref02_Steps.s0
      have h1 : (j : Int) < 8 := by omega
      have w3 : IntKind.i64.wrap ((j : Int) + 1) = ((j + 1 : Nat) : Int) := by rw [w64 (by omega) (by omega)]; omega
      simp only [h1, decide_true, if_true, rstep_eq, w3, stps_succ]
      rfl
    · unfold rickyardref02_Steps.s0
      simp
  rw [this]
  rfl
theorem rsum_eq {fu : Nat} {l : List Int} (hb : Bytes l) (hl : l.length ≤ 9000000000000000000) (hf : l.length + 20 < fu) : rickyardref02_Sum.f fu l = some (I32 (crc l)) := by
  unfold rickyardref02_Sum.f
  have : loopM (rickyardref02_Sum.s0 fu l) fu (4294967295, 0) = some (I32 (regs ones l)) := by
    refine loopM_run (S := fun j => (I32 (regs ones (l.take j)), (j : Int))) l.length (by simp [regs]; rfl) ?_ ?_ (by omega)
    · intro j hj
      unfold rickyardref02_Sum.s0
      have h1 : (j : Int) < (l.length : Int) := by omega
      have w3 : IntKind.i64.wrap ((j : Int) + 1) = ((j + 1 : Nat) : Int) := by rw [w64 (by omega) (by omega)]; omega
      have hc := hb _ (List.getElem_mem hj)
      have e1 : bXor .u32 (I32 (regs ones (l.take j))) (IntKind.u32.wrap (ix l (j : Int))) = I32 (regs ones (l.take j) ^^^ b32 l[j]) := by
        rw [ix_nat hj, b32_eq hc, bx32]
      have e2 : regs ones (l.take (j + 1)) = stps 8 (regs ones (l.take j) ^^^ b32 l[j]) := by
        rw [take_next hj]
        unfold regs
        rw [List.foldl_append]
        rfl
      simp only [h1, decide_true, if_true, e1, w3, e2, rsteps_eq (by omega : 8 < fu)]
      rw [if_pos ⟨by omega, trivial⟩]
      rfl
    · unfold rickyardref02_Sum.s0
      simp
  rw [this]
  have e : IntKind.u32.wrap (4294967295 - I32 (regs ones l)) = I32 (crc l) := by
    have hlt := (regs ones l).isLt
    have h2 : (crc l).toNat = 4294967295 - (regs ones l).toNat := by
      unfold crc
      have : regs ones l ^^^ ones = ~~~ (regs ones l) := by
        apply BitVec.eq_of_getLsbD_eq
        intro i hi
        have ho : ones.getLsbD i = true := by
          have := low_bit 32 i hi (by decide)
          exact this
        rw [BitVec.getLsbD_xor, BitVec.getLsbD_not, ho]
        simp [hi]
      rw [this, BitVec.toNat_not]
    unfold I32
    rw [h2, wu32 (by omega) (by omega)]
    omega
  simp only [Option.bind_some, e]
end Go.Proofs.Ytklhbaghbmndeaa.Pure
