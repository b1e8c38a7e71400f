/- RootLays: texts merged, part 6 of 8. The last part proves that the law RootLays holds for every input. -/
import Derived.Test.YtklhbaghbmndeaaPkRootLays5
set_option maxRecDepth 100000
set_option maxHeartbeats 4000000
set_option linter.unusedVariables false
set_option linter.unusedSimpArgs false
namespace Go.Proofs.Ytklhbaghbmndeaa
open Go Go.Xw
def rickyardref07_Fill.f (fu : Nat) (a0 : List UInt8) (a1 : Int) : Option (List UInt8) := (if 0 ≤ (mxI (IntKind.i64.wrap (a1 - (List.length a0 : Int))) 0) ∧ Int.toNat (mxI (IntKind.i64.wrap (a1 - (List.length a0 : Int))) 0) ≤ LIM then (if List.length a0 + List.length (List.map toB (List.replicate (Int.toNat (mxI (IntKind.i64.wrap (a1 - (List.length a0 : Int))) 0)) (0 : Int))) ≤ LIM then some ((a0 ++ (List.map toB (List.replicate (Int.toNat (mxI (IntKind.i64.wrap (a1 - (List.length a0 : Int))) 0)) (0 : Int))))) else none) else none)
theorem rickyardref07_Fill.ok (fu : Nat) (w : World) (a0 : List UInt8) (a1 : Int) (r : (List UInt8)) (h : rickyardref07_Fill.f fu a0 a1 = some r) :
  Calls Try.prog 138 (([sv a0, .int .i64 a1] : List Value).toArray) w (fun e w' => ∃ v, e = .returned v ∧ v = sv r ∧ Gr w w') := by
 unfold rickyardref07_Fill.f at h
 have fB : Gr w w := Fr.refl _ _
 refine calls_cw Try.func138 rfl Try.ntmps138 rfl ?_
 refine cw_seq ?_
 refine cw_region ?_
 refine ol_val (v := sv []) (xr_assign rfl rfl) rfl rfl rfl ?_
 refine ol_nil ?_
 refine cw_seq ?_
 refine cw_region ?_
 refine ol_val (v := sv a0) (xr_move rfl rfl) rfl rfl rfl ?_
 refine ol_val (v := .int .i64 a1) (xr_move rfl rfl) rfl rfl rfl ?_
 refine ol_val (v := sv a0) (xr_move rfl rfl) rfl rfl rfl ?_
 refine ol_val (v := .int .i64 (List.length a0 : Int)) (xr_lenStr rfl Try.underlying9 rfl) rfl rfl rfl ?_
 refine ol_val (v := .int .i64 (IntKind.i64.wrap (a1 - (List.length a0 : Int)))) (xr_sub rfl rfl rfl) rfl rfl rfl ?_
 refine ol_val (v := .int .i64 (mxI (IntKind.i64.wrap (a1 - (List.length a0 : Int))) 0)) (xr_max2 rfl rfl rfl) rfl rfl rfl ?_
 obtain ⟨g1, h⟩ := gs h
 refine ol_op (opv_make (K := (kI .u8)) (z := (0 : Int)) rfl Try.underlying43 el5 rfl rfl rfl g1.1 g1.2 rfl fB.size) rfl rfl rfl ?_
 rintro v2 w7 ⟨o4, q3, z5⟩
 have fB := fB.gr q3
 refine ol_val (v := sv (List.map toB (List.replicate (Int.toNat (mxI (IntKind.i64.wrap (a1 - (List.length a0 : Int))) 0)) (0 : Int)))) (xr_toStr rfl Try.underlying43 Try.underlying5 Try.underlying9 rfl o4.rd) rfl rfl rfl ?_
 obtain ⟨g8, h⟩ := gs h
 refine ol_val (v := sv (a0 ++ (List.map toB (List.replicate (Int.toNat (mxI (IntKind.i64.wrap (a1 - (List.length a0 : Int))) 0)) (0 : Int))))) (xr_addStr rfl rfl rfl g8) rfl rfl rfl ?_
 refine ol_val (v := sv (a0 ++ (List.map toB (List.replicate (Int.toNat (mxI (IntKind.i64.wrap (a1 - (List.length a0 : Int))) 0)) (0 : Int))))) (xr_assign rfl rfl) rfl rfl rfl ?_
 refine ol_nil ?_
 refine cw_ret ?_
 repeat (first | with_reducible refine thn_r ?_ | with_reducible refine blk_r ?_)
 obtain rfl := Option.some.inj h
 refine fin_ret1 Try.results138 rfl ?_
 exact ⟨_, rfl, rfl, fB⟩
def rickyardref02_Step.f (fu : Nat) (a0 : Int) : Option Int := (if (decide ((Int.tmod a0 2) = 1)) = true then some ((bXor .u32 (IntKind.u32.wrap (Int.tdiv a0 2)) 2197175160)) else some ((IntKind.u32.wrap (Int.tdiv a0 2))))
theorem rickyardref02_Step.ok (fu : Nat) (w : World) (a0 : Int) (r : Int) (h : rickyardref02_Step.f fu a0 = some r) :
  Calls Try.prog 153 (([.int .u32 a0] : List Value).toArray) w (fun e w' => ∃ v, e = .returned v ∧ v = .int .u32 r ∧ Gr w w') := by
 unfold rickyardref02_Step.f at h
 have fB : Gr w w := Fr.refl _ _
 refine calls_cw Try.func153 rfl Try.ntmps153 rfl ?_
 refine cw_seq ?_
 refine cw_region ?_
 refine ol_val (v := .int .u32 0) (xr_assign rfl rfl) rfl rfl rfl ?_
 refine ol_nil ?_
 refine cw_seq ?_
 refine cw_seq ?_
 refine cw_region ?_
 refine ol_val (v := .int .u32 a0) (xr_move rfl rfl) rfl rfl rfl ?_
 refine ol_val (v := .int .u32 (Int.tmod a0 2)) (xr_rem rfl rfl rfl (by decide)) rfl rfl rfl ?_
 refine ol_val (v := .bool (decide ((Int.tmod a0 2) = 1))) (xr_eqI rfl Try.underlying191 rfl rfl rfl) rfl rfl rfl ?_
 refine ol_nil ?_
 rcases is h with ⟨c1, h⟩ | ⟨c1, h⟩
 ·refine cw_condT rfl c1 ?_
  refine cw_seq ?_
  refine cw_region ?_
  refine ol_val (v := .int .u32 a0) (xr_move rfl rfl) rfl rfl rfl ?_
  refine ol_val (v := .int .u32 (IntKind.u32.wrap (Int.tdiv a0 2))) (xr_quo rfl rfl rfl (by decide)) rfl rfl rfl ?_
  refine ol_val (v := .int .u32 (bXor .u32 (IntKind.u32.wrap (Int.tdiv a0 2)) 2197175160)) (xr_xor rfl rfl rfl) rfl rfl rfl ?_
  refine ol_val (v := .int .u32 (bXor .u32 (IntKind.u32.wrap (Int.tdiv a0 2)) 2197175160)) (xr_assign rfl rfl) rfl rfl rfl ?_
  refine ol_nil ?_
  refine cw_ret ?_
  repeat (first | with_reducible refine thn_r ?_ | with_reducible refine blk_r ?_)
  obtain rfl := Option.some.inj h
  refine fin_ret1 Try.results153 rfl ?_
  exact ⟨_, rfl, rfl, fB⟩
 refine cw_condF rfl c1 ?_
 refine cw_skip ?_
 refine cw_seq ?_
 refine cw_region ?_
 refine ol_val (v := .int .u32 a0) (xr_move rfl rfl) rfl rfl rfl ?_
 refine ol_val (v := .int .u32 (IntKind.u32.wrap (Int.tdiv a0 2))) (xr_quo rfl rfl rfl (by decide)) rfl rfl rfl ?_
 refine ol_val (v := .int .u32 (IntKind.u32.wrap (Int.tdiv a0 2))) (xr_assign rfl rfl) rfl rfl rfl ?_
 refine ol_nil ?_
 refine cw_ret ?_
 repeat (first | with_reducible refine thn_r ?_ | with_reducible refine blk_r ?_)
 obtain rfl := Option.some.inj h
 refine fin_ret1 Try.results153 rfl ?_
 exact ⟨_, rfl, rfl, fB⟩
def rickyardref02_Steps.s0 (fu : Nat) (a1 : Int) : (Int × Int) → Option (Sum Int (Int × Int)) := fun s1 => (if (decide (s1.2 < a1)) = true then ((rickyardref02_Step.f fu s1.1).bind fun t9 => some (Sum.inr (t9, (IntKind.i64.wrap (s1.2 + 1))))) else some (Sum.inl (s1.1)))
def rickyardref02_Steps.f (fu : Nat) (a0 : Int) (a1 : Int) : Option Int := ((loopM (rickyardref02_Steps.s0 fu a1) fu (a0, 0)).bind fun e2 => some (e2))
theorem rickyardref02_Steps.ok (fu : Nat) (w : World) (a0 : Int) (a1 : Int) (r : Int) (h : rickyardref02_Steps.f fu a0 a1 = some r) :
  Calls Try.prog 148 (([.int .u32 a0, .int .i64 a1] : List Value).toArray) w (fun e w' => ∃ v, e = .returned v ∧ v = .int .u32 r ∧ Gr w w') := by
 unfold rickyardref02_Steps.f at h
 have fB : Gr w w := Fr.refl _ _
 refine calls_cw Try.func148 rfl Try.ntmps148 rfl ?_
 refine cw_seq ?_
 refine cw_region ?_
 refine ol_val (v := .int .u32 0) (xr_assign rfl rfl) rfl rfl rfl ?_
 refine ol_nil ?_
 refine cw_seq ?_
 refine cw_seq ?_
 refine cw_region ?_
 refine ol_val (v := .int .i64 0) (xr_assign rfl rfl) rfl rfl rfl ?_
 refine ol_nil ?_
 obtain ⟨e2, l3, h4⟩ := bs h
 refine cw_mid (fun ρ' w' => ρ' 0 = .int .u32 e2 ∧ Gr w w') ?_ ?_
 ·refine cw_block ?_
  refine cw_round (fun (s1 : Int × Int) ρ' w' => ρ' 0 = .int .u32 s1.1 ∧ ρ' 1 = .int .i64 a1 ∧ ρ' 5 = .int .i64 s1.2 ∧ Gr w w') l3 ?_ ?_
  ·skip
   exact ⟨rfl, rfl, rfl, fB⟩
  rintro s1 x7 ρ5 w6 ⟨e0, e1, e5, fB⟩ h
  unfold rickyardref02_Steps.s0 at h
  refine cw_seq ?_
  refine cw_seq ?_
  refine cw_region ?_
  refine ol_val (v := .int .i64 s1.2) (xr_move rfl e5) rfl rfl rfl ?_
  refine ol_val (v := .int .i64 a1) (xr_move rfl e1) rfl rfl rfl ?_
  refine ol_val (v := .bool (decide (s1.2 < a1))) (xr_lss rfl rfl rfl) rfl rfl rfl ?_
  refine ol_nil ?_
  rcases is h with ⟨c8, h⟩ | ⟨c8, h⟩
  ·refine cw_condT rfl c8 ?_
   refine cw_skip ?_
   refine cw_seq ?_
   refine cw_block ?_
   refine cw_region ?_
   refine ol_val (v := .int .u32 s1.1) (xr_move rfl e0) rfl rfl rfl ?_
   obtain ⟨t9, k10, h⟩ := bs h
   refine ol_op (opv_call rfl cal153 (ac rfl an) (rickyardref02_Step.ok fu _ s1.1 _ k10)) rfl rfl rfl ?_
   rintro _ w12 ⟨rfl, q11⟩
   have fB := fB.gr q11
   refine ol_val (v := .int .u32 t9) (xr_assign rfl rfl) rfl rfl rfl ?_
   refine ol_nil ?_
   refine blk_i ?_
   refine cw_region ?_
   refine ol_val (v := .int .i64 s1.2) (xr_move rfl e5) rfl rfl rfl ?_
   refine ol_val (v := .int .i64 (IntKind.i64.wrap (s1.2 + 1))) (xr_add rfl rfl rfl) rfl rfl rfl ?_
   refine ol_val (v := .int .i64 (IntKind.i64.wrap (s1.2 + 1))) (xr_assign rfl rfl) rfl rfl rfl ?_
   refine ol_nil ?_
   obtain rfl := Option.some.inj h
   refine lp_in ?_
   exact ⟨rfl, e1, rfl, fB⟩
  refine cw_condF rfl c8 ?_
  refine cw_exit ?_
  repeat (first | with_reducible refine thn_e ?_ | with_reducible refine blk_e rfl ?_)
  obtain rfl := Option.some.inj h
  refine lp_exit ?_
  rintro rfl
  refine thn_x ?_
  exact ⟨e0, fB⟩
 rintro ρ13 w14 ⟨e0, fB⟩
 have h := h4
 refine cw_seq ?_
 refine cw_region ?_
 refine ol_val (v := .int .u32 e2) (xr_move rfl e0) rfl rfl rfl ?_
 refine ol_val (v := .int .u32 e2) (xr_assign rfl rfl) rfl rfl rfl ?_
 refine ol_nil ?_
 refine cw_ret ?_
 repeat (first | with_reducible refine thn_r ?_ | with_reducible refine blk_r ?_)
 obtain rfl := Option.some.inj h
 refine fin_ret1 Try.results148 rfl ?_
 exact ⟨_, rfl, rfl, fB⟩
def rickyardref02_Sum.s0 (fu : Nat) (a0 : List Int) : (Int × Int) → Option (Sum Int (Int × Int)) := fun s1 => (if (decide (s1.2 < (List.length a0 : Int))) = true then (if 0 ≤ s1.2 ∧ s1.2 < (List.length a0 : Int) then ((rickyardref02_Steps.f fu (bXor .u32 s1.1 (IntKind.u32.wrap (ix a0 s1.2))) 8).bind fun t10 => some (Sum.inr (t10, (IntKind.i64.wrap (s1.2 + 1))))) else none) else some (Sum.inl (s1.1)))
def rickyardref02_Sum.f (fu : Nat) (a0 : List Int) : Option Int := ((loopM (rickyardref02_Sum.s0 fu a0) fu (4294967295, 0)).bind fun e2 => some ((IntKind.u32.wrap (4294967295 - e2))))
theorem rickyardref02_Sum.ok (fu : Nat) (w : World) (a0 : List Int) (V0_0 : Value) (R0_0 : Rd (kI .u8) w V0_0 a0) (r : Int) (h : rickyardref02_Sum.f fu a0 = some r) :
  Calls Try.prog 139 (([V0_0] : List Value).toArray) w (fun e w' => ∃ v, e = .returned v ∧ v = .int .u32 r ∧ Gr w w') := by
 unfold rickyardref02_Sum.f at h
 have fB : Gr w w := Fr.refl _ _
 refine calls_cw Try.func139 rfl Try.ntmps139 rfl ?_
 refine cw_seq ?_
 refine cw_region ?_
 refine ol_val (v := .int .u32 0) (xr_assign rfl rfl) rfl rfl rfl ?_
 refine ol_nil ?_
 refine cw_seq ?_
 refine cw_region ?_
 refine ol_val (v := .int .u32 4294967295) (xr_assign rfl rfl) rfl rfl rfl ?_
 refine ol_nil ?_
 refine cw_seq ?_
 refine cw_seq ?_
 refine cw_region ?_
 refine ol_val (v := .int .i64 0) (xr_assign rfl rfl) rfl rfl rfl ?_
 refine ol_nil ?_
 obtain ⟨e2, l3, h4⟩ := bs h
 refine cw_mid (fun ρ' w' => ρ' 3 = .int .u32 e2 ∧ Gr w w') ?_ ?_
 ·refine cw_block ?_
  refine cw_round (fun (s1 : Int × Int) ρ' w' => ρ' 0 = V0_0 ∧ ρ' 3 = .int .u32 s1.1 ∧ ρ' 4 = .int .i64 s1.2 ∧ Gr w w') l3 ?_ ?_
  ·skip
   exact ⟨rfl, rfl, rfl, fB⟩
  rintro s1 x7 ρ5 w6 ⟨e0, e3, e4, fB⟩ h
  unfold rickyardref02_Sum.s0 at h
  refine cw_seq ?_
  refine cw_seq ?_
  refine cw_region ?_
  refine ol_val (v := .int .i64 s1.2) (xr_move rfl e4) rfl rfl rfl ?_
  refine ol_val (v := V0_0) (xr_move rfl e0) rfl rfl rfl ?_
  refine ol_val (v := .int .i64 (List.length a0 : Int)) (xr_lenR rfl Try.underlying43 rfl (R0_0.gr fB)) rfl rfl rfl ?_
  refine ol_val (v := .bool (decide (s1.2 < (List.length a0 : Int)))) (xr_lss rfl rfl rfl) rfl rfl rfl ?_
  refine ol_nil ?_
  rcases is h with ⟨c8, h⟩ | ⟨c8, h⟩
  ·refine cw_condT rfl c8 ?_
   refine cw_skip ?_
   refine cw_seq ?_
   refine cw_block ?_
   refine cw_region ?_
   refine ol_val (v := .int .u32 s1.1) (xr_move rfl e3) rfl rfl rfl ?_
   refine ol_val (v := V0_0) (xr_move rfl e0) rfl rfl rfl ?_
   refine ol_val (v := .int .i64 s1.2) (xr_move rfl e4) rfl rfl rfl ?_
   obtain ⟨g9, h⟩ := gs h
   refine ol_val (v := (pt ((sb V0_0)) (so V0_0 + Int.toNat s1.2 * 1))) (xr_indexR (K := (kI .u8)) (v := V0_0) rfl Try.underlying43 sz5 rfl (R0_0.gr fB) rfl g9.1 g9.2) rfl rfl rfl ?_
   refine ol_val (v := .int .u8 (ix a0 s1.2)) (xr_load1 (v := .int .u8 (ix a0 s1.2)) rfl ag5 rfl ((R0_0.gr fB).elem g9.1 g9.2)) rfl rfl rfl ?_
   refine ol_val (v := .int .u32 (IntKind.u32.wrap (ix a0 s1.2))) (xr_conv rfl Try.underlying5 Try.underlying191 rfl) rfl rfl rfl ?_
   refine ol_val (v := .int .u32 (bXor .u32 s1.1 (IntKind.u32.wrap (ix a0 s1.2)))) (xr_xor rfl rfl rfl) rfl rfl rfl ?_
   obtain ⟨t10, k11, h⟩ := bs h
   refine ol_op (opv_call rfl cal148 (ac rfl (ac rfl an)) (rickyardref02_Steps.ok fu _ (bXor .u32 s1.1 (IntKind.u32.wrap (ix a0 s1.2))) 8 _ k11)) rfl rfl rfl ?_
   rintro _ w13 ⟨rfl, q12⟩
   have fB := fB.gr q12
   refine ol_val (v := .int .u32 t10) (xr_assign rfl rfl) rfl rfl rfl ?_
   refine ol_nil ?_
   refine blk_i ?_
   refine cw_region ?_
   refine ol_val (v := .int .i64 s1.2) (xr_move rfl e4) rfl rfl rfl ?_
   refine ol_val (v := .int .i64 (IntKind.i64.wrap (s1.2 + 1))) (xr_add rfl rfl rfl) rfl rfl rfl ?_
   refine ol_val (v := .int .i64 (IntKind.i64.wrap (s1.2 + 1))) (xr_assign rfl rfl) rfl rfl rfl ?_
   refine ol_nil ?_
   obtain rfl := Option.some.inj h
   refine lp_in ?_
   exact ⟨e0, rfl, rfl, fB⟩
  refine cw_condF rfl c8 ?_
  refine cw_exit ?_
  repeat (first | with_reducible refine thn_e ?_ | with_reducible refine blk_e rfl ?_)
  obtain rfl := Option.some.inj h
  refine lp_exit ?_
  rintro rfl
  refine thn_x ?_
  exact ⟨e3, fB⟩
 rintro ρ14 w15 ⟨e3, fB⟩
 have h := h4
 refine cw_seq ?_
 refine cw_region ?_
 refine ol_val (v := .int .u32 e2) (xr_move rfl e3) rfl rfl rfl ?_
 refine ol_val (v := .int .u32 (IntKind.u32.wrap (4294967295 - e2))) (xr_sub rfl rfl rfl) rfl rfl rfl ?_
 refine ol_val (v := .int .u32 (IntKind.u32.wrap (4294967295 - e2))) (xr_assign rfl rfl) rfl rfl rfl ?_
 refine ol_nil ?_
 refine cw_ret ?_
 repeat (first | with_reducible refine thn_r ?_ | with_reducible refine blk_r ?_)
 obtain rfl := Option.some.inj h
 refine fin_ret1 Try.results139 rfl ?_
 exact ⟨_, rfl, rfl, fB⟩
def rickyardref07_Seal.f (fu : Nat) (a0 : Int) (a1 : Int) (a2 : List UInt8) : Option (List UInt8) := ((rickyardref07_Fill.f fu a2 56).bind fun t6 => (if List.length (List.map toB [(IntKind.u8.wrap a0), (IntKind.u8.wrap a1), 0, 0]) + List.length t6 ≤ LIM then ((rickyardref02_Sum.f fu (List.map ofB ((List.map toB [(IntKind.u8.wrap a0), (IntKind.u8.wrap a1), 0, 0]) ++ t6))).bind fun t17 => ((rickyardref01_Lay.f fu (IntKind.u64.wrap t17) 4).bind fun t21 => (if List.length t21 + List.length ((List.map toB [(IntKind.u8.wrap a0), (IntKind.u8.wrap a1), 0, 0]) ++ t6) ≤ LIM then some ((t21 ++ ((List.map toB [(IntKind.u8.wrap a0), (IntKind.u8.wrap a1), 0, 0]) ++ t6))) else none))) else none))
theorem rickyardref07_Seal.ok (fu : Nat) (w : World) (a0 : Int) (a1 : Int) (a2 : List UInt8) (r : (List UInt8)) (h : rickyardref07_Seal.f fu a0 a1 a2 = some r) :
  Calls Try.prog 118 (([.int .i64 a0, .int .i64 a1, sv a2] : List Value).toArray) w (fun e w' => ∃ v, e = .returned v ∧ v = sv r ∧ Gr w w') := by
 unfold rickyardref07_Seal.f at h
 have fB : Gr w w := Fr.refl _ _
 refine calls_cw Try.func118 rfl Try.ntmps118 rfl ?_
 refine cw_seq ?_
 refine cw_region ?_
 refine ol_val (v := sv []) (xr_assign rfl rfl) rfl rfl rfl ?_
 refine ol_nil ?_
 refine cw_seq ?_
 obtain ⟨t6, k7, h⟩ := bs h
 refine cw_drawL 8 [fun vz wz => vz = (.int .i64 a0 : Value), fun vz wz => vz = (.int .u8 (IntKind.u8.wrap a0) : Value), fun vz wz => vz = (.int .i64 a1 : Value), fun vz wz => vz = (.int .u8 (IntKind.u8.wrap a1) : Value), fun vz wz => ∃ v1 : Value, ∃ o3 : Own (kI .u8) 5 wz w.heap.size v1 [(IntKind.u8.wrap a0), (IntKind.u8.wrap a1), 0, 0], vz = (v1 : Value), fun vz wz => vz = (sv (List.map toB [(IntKind.u8.wrap a0), (IntKind.u8.wrap a1), 0, 0]) : Value), fun vz wz => vz = (sv a2 : Value), fun vz wz => vz = (sv t6 : Value)] mo rfl ⟨fun _ _ _ h _ => h, fun _ _ _ h _ => h, fun _ _ _ h _ => h, fun _ _ _ h _ => h, fun _ _ _ ⟨v1, o3, h⟩ q => ⟨v1, o3.gr q, h⟩, fun _ _ _ h _ => h, fun _ _ _ h _ => h, fun _ _ _ h _ => h, trivial⟩ ?_ ?_
 ·refine ⟨?_, ?_, ?_, ?_, ?_, ?_, ?_, ?_, trivial⟩
  ·intro ρz wz hz hk hd
   exact sk_val (v := .int .i64 a0) (xr_move rfl ((hk 0 rfl).trans rfl)) rfl rfl
  ·intro ρz wz hz hk hd
   exact sk_val (v := .int .u8 (IntKind.u8.wrap a0)) (xr_conv rfl Try.underlying3 Try.underlying5 (hd 0 rfl 8 rfl)) rfl rfl
  ·intro ρz wz hz hk hd
   exact sk_val (v := .int .i64 a1) (xr_move rfl ((hk 1 rfl).trans rfl)) rfl rfl
  ·intro ρz wz hz hk hd
   exact sk_val (v := .int .u8 (IntKind.u8.wrap a1)) (xr_conv rfl Try.underlying3 Try.underlying5 (hd 2 rfl 10 rfl)) rfl rfl
  ·intro ρz wz hz hk hd
   refine sk_op (opv_buildSlice (K := (kI .u8)) (xs := [(IntKind.u8.wrap a0), (IntKind.u8.wrap a1), 0, 0]) (vals := [.int .u8 (IntKind.u8.wrap a0), .int .u8 (IntKind.u8.wrap a1), .int .u8 0, .int .u8 0]) rfl Try.underlying43 el5 rfl rfl ⟨rfl, (hd 1 rfl 9 rfl), ⟨rfl, (hd 3 rfl 11 rfl), ⟨rfl, rfl, ⟨rfl, rfl, trivial⟩⟩⟩⟩ rfl rfl rfl (Nat.le_trans fB.size hz.size)) rfl ?_
   rintro v1 wy ⟨o3, q2, z4⟩
   exact ⟨⟨v1, o3, rfl⟩, q2⟩
  ·intro ρz wz hz hk hd
   obtain ⟨v1, o3, d12⟩ := hd 4 rfl 12 rfl
   exact sk_val (xr_toStr rfl Try.underlying43 Try.underlying5 Try.underlying9 d12 o3.rd) rfl rfl
  ·intro ρz wz hz hk hd
   exact sk_val (v := sv a2) (xr_move rfl ((hk 2 rfl).trans rfl)) rfl rfl
  intro ρz wz hz hk hd
  refine sk_op (opv_call rfl cal138 (ac (hd 6 rfl 14 rfl) (ac rfl an)) (rickyardref07_Fill.ok fu _ a2 56 _ k7)) rfl ?_
  rintro _ wy ⟨rfl, q8⟩
  exact ⟨rfl, q8⟩
 intro ρ9 w10 q11 hk hd
 have e13 := hd 5 rfl 13 rfl
 have e15 := hd 7 rfl 15 rfl
 have fB := fB.gr q11
 obtain ⟨g12, h⟩ := gs h
 refine ol_val (v := sv ((List.map toB [(IntKind.u8.wrap a0), (IntKind.u8.wrap a1), 0, 0]) ++ t6)) (xr_addStr rfl e13 e15 g12) rfl rfl rfl ?_
 refine ol_val (v := sv ((List.map toB [(IntKind.u8.wrap a0), (IntKind.u8.wrap a1), 0, 0]) ++ t6)) (xr_assign rfl rfl) rfl rfl rfl ?_
 refine ol_nil ?_
 refine cw_seq ?_
 refine cw_region ?_
 refine ol_val (v := sv ((List.map toB [(IntKind.u8.wrap a0), (IntKind.u8.wrap a1), 0, 0]) ++ t6)) (xr_move rfl rfl) rfl rfl rfl ?_
 refine ol_op (opv_toBytes rfl Try.underlying9 Try.underlying43 Try.underlying5 rfl) rfl rfl rfl ?_
 rintro v13 w16 ⟨r15, q14⟩
 have fB := fB.gr q14
 obtain ⟨t17, k18, h⟩ := bs h
 refine ol_op (opv_call rfl cal139 (ac rfl an) (rickyardref02_Sum.ok fu _ (List.map ofB ((List.map toB [(IntKind.u8.wrap a0), (IntKind.u8.wrap a1), 0, 0]) ++ t6)) v13 (r15) _ k18)) rfl rfl rfl ?_
 rintro _ w20 ⟨rfl, q19⟩
 have fB := fB.gr q19
 refine ol_val (v := .int .u64 (IntKind.u64.wrap t17)) (xr_conv rfl Try.underlying191 Try.underlying22 rfl) rfl rfl rfl ?_
 obtain ⟨t21, k22, h⟩ := bs h
 refine ol_op (opv_call rfl cal117 (ac rfl (ac rfl an)) (rickyardref01_Lay.ok fu _ (IntKind.u64.wrap t17) 4 _ k22)) rfl rfl rfl ?_
 rintro _ w24 ⟨rfl, q23⟩
 have fB := fB.gr q23
 refine ol_val (v := sv ((List.map toB [(IntKind.u8.wrap a0), (IntKind.u8.wrap a1), 0, 0]) ++ t6)) (xr_move rfl rfl) rfl rfl rfl ?_
 obtain ⟨g25, h⟩ := gs h
 refine ol_val (v := sv (t21 ++ ((List.map toB [(IntKind.u8.wrap a0), (IntKind.u8.wrap a1), 0, 0]) ++ t6))) (xr_addStr rfl rfl rfl g25) rfl rfl rfl ?_
 refine ol_val (v := sv (t21 ++ ((List.map toB [(IntKind.u8.wrap a0), (IntKind.u8.wrap a1), 0, 0]) ++ t6))) (xr_assign rfl rfl) rfl rfl rfl ?_
 refine ol_nil ?_
 refine cw_ret ?_
 repeat (first | with_reducible refine thn_r ?_ | with_reducible refine blk_r ?_)
 obtain rfl := Option.some.inj h
 refine fin_ret1 Try.results118 rfl ?_
 exact ⟨_, rfl, rfl, fB⟩
def rickyardref13_Put.s0 (fu : Nat) (a0 : S_api_Super) : ((List UInt8) × Int) → Option (Sum (List UInt8) ((List UInt8) × Int)) := fun s44 => (if (decide (s44.2 < (List.length a0.Charts : Int))) = true then (if 0 ≤ s44.2 ∧ s44.2 < (List.length a0.Charts : Int) then ((rickyardref01_Lay.f fu (IntKind.u64.wrap (ix a0.Charts s44.2)) 2).bind fun t53 => (if List.length s44.1 + List.length t53 ≤ LIM then some (Sum.inr ((s44.1 ++ t53), (IntKind.i64.wrap (s44.2 + 1)))) else none)) else none) else some (Sum.inl (s44.1)))
def rickyardref13_Put.f (fu : Nat) (a0 : S_api_Super) : Option (List UInt8) := ((rickyardref01_Lay.f fu (IntKind.u64.wrap a0.Epoch) 8).bind fun t7 => ((rickyardref01_Lay.f fu (IntKind.u64.wrap a0.Tickets.Geometry.Blocks) 4).bind fun t10 => (if List.length t7 + List.length t10 ≤ LIM then ((rickyardref01_Lay.f fu (IntKind.u64.wrap a0.Tickets.Geometry.Slots) 4).bind fun t14 => (if List.length (t7 ++ t10) + List.length t14 ≤ LIM then ((rickyardref01_Lay.f fu (IntKind.u64.wrap a0.Tickets.Geometry.Gens) 4).bind fun t18 => (if List.length ((t7 ++ t10) ++ t14) + List.length t18 ≤ LIM then ((rickyardref01_Lay.f fu (IntKind.u64.wrap a0.Tickets.High) 4).bind fun t22 => (if List.length (((t7 ++ t10) ++ t14) ++ t18) + List.length t22 ≤ LIM then ((rickyardref01_Lay.f fu (IntKind.u64.wrap a0.Tickets.Free) 4).bind fun t26 => (if List.length ((((t7 ++ t10) ++ t14) ++ t18) ++ t22) + List.length t26 ≤ LIM then ((rickyardref01_Lay.f fu (IntKind.u64.wrap a0.Tickets.Top) 2).bind fun t33 => (if List.length (((((t7 ++ t10) ++ t14) ++ t18) ++ t22) ++ t26) + List.length t33 ≤ LIM then ((rickyardref01_Lay.f fu (IntKind.u64.wrap a0.Dir) 2).bind fun t37 => (if List.length ((((((t7 ++ t10) ++ t14) ++ t18) ++ t22) ++ t26) ++ t33) + List.length t37 ≤ LIM then ((loopM (rickyardref13_Put.s0 fu a0) fu ((((((((t7 ++ t10) ++ t14) ++ t18) ++ t22) ++ t26) ++ t33) ++ t37), 0)).bind fun e45 => ((rickyardref07_Seal.f fu 7 (List.length a0.Charts : Int) e45).bind fun t60 => some (t60))) else none)) else none)) else none)) else none)) else none)) else none)) else none)))
theorem rickyardref13_Put.ok (fu : Nat) (w : World) (a0 : S_api_Super) (V0_0 : Value) (R0_0 : Rd (kI .i64) w V0_0 a0.Charts) (r : (List UInt8)) (h : rickyardref13_Put.f fu a0 = some r) :
  Calls Try.prog 76 (([aggV [(sI a0.Epoch), (sI a0.Tickets.Geometry.Blocks), (sI a0.Tickets.Geometry.Slots), (sI a0.Tickets.Geometry.Gens), (sI a0.Tickets.Top), (sI a0.Tickets.High), (sI a0.Tickets.Free), (sI a0.Dir), Seg.cell V0_0 R0_0.one]] : List Value).toArray) w (fun e w' => ∃ v, e = .returned v ∧ v = sv r ∧ Gr w w') := by
 unfold rickyardref13_Put.f at h
 have fB : Gr w w := Fr.refl _ _
 refine calls_cw Try.func76 rfl Try.ntmps76 rfl ?_
 refine cw_seq ?_
 refine cw_region ?_
 refine ol_op (opv_box (ss := [(sI a0.Epoch), (sI a0.Tickets.Geometry.Blocks), (sI a0.Tickets.Geometry.Slots), (sI a0.Tickets.Geometry.Gens), (sI a0.Tickets.Top), (sI a0.Tickets.High), (sI a0.Tickets.Free), (sI a0.Dir), Seg.cell V0_0 R0_0.one]) rfl rfl rfl) rfl rfl rfl ?_
 rintro _ w6 ⟨G1, rfl, b2, q3, z4⟩
 have z4 := Nat.le_trans fB.size z4
 have fB := fB.gr q3
 refine ol_val (v := sv []) (xr_assign rfl rfl) rfl rfl rfl ?_
 refine ol_nil ?_
 refine cw_seq ?_
 obtain ⟨t7, k8, h⟩ := bs h
 obtain ⟨t10, k11, h⟩ := bs h
 obtain ⟨g13, h⟩ := gs h
 obtain ⟨t14, k15, h⟩ := bs h
 obtain ⟨g17, h⟩ := gs h
 obtain ⟨t18, k19, h⟩ := bs h
 obtain ⟨g21, h⟩ := gs h
 obtain ⟨t22, k23, h⟩ := bs h
 obtain ⟨g25, h⟩ := gs h
 obtain ⟨t26, k27, h⟩ := bs h
 refine cw_drawL 36 [fun vz wz => vz = ((pt G1 0) : Value), fun vz wz => vz = (.int .i64 a0.Epoch : Value), fun vz wz => vz = (.int .u64 (IntKind.u64.wrap a0.Epoch) : Value), fun vz wz => vz = (sv t7 : Value), fun vz wz => vz = ((pt G1 1) : Value), fun vz wz => vz = ((pt G1 1) : Value), fun vz wz => vz = ((pt G1 1) : Value), fun vz wz => vz = (.int .i64 a0.Tickets.Geometry.Blocks : Value), fun vz wz => vz = (.int .u64 (IntKind.u64.wrap a0.Tickets.Geometry.Blocks) : Value), fun vz wz => vz = (sv t10 : Value), fun vz wz => vz = (sv (t7 ++ t10) : Value), fun vz wz => vz = ((pt G1 1) : Value), fun vz wz => vz = ((pt G1 1) : Value), fun vz wz => vz = ((pt G1 2) : Value), fun vz wz => vz = (.int .i64 a0.Tickets.Geometry.Slots : Value), fun vz wz => vz = (.int .u64 (IntKind.u64.wrap a0.Tickets.Geometry.Slots) : Value), fun vz wz => vz = (sv t14 : Value), fun vz wz => vz = (sv ((t7 ++ t10) ++ t14) : Value), fun vz wz => vz = ((pt G1 1) : Value), fun vz wz => vz = ((pt G1 1) : Value), fun vz wz => vz = ((pt G1 3) : Value), fun vz wz => vz = (.int .i64 a0.Tickets.Geometry.Gens : Value), fun vz wz => vz = (.int .u64 (IntKind.u64.wrap a0.Tickets.Geometry.Gens) : Value), fun vz wz => vz = (sv t18 : Value), fun vz wz => vz = (sv (((t7 ++ t10) ++ t14) ++ t18) : Value), fun vz wz => vz = ((pt G1 1) : Value), fun vz wz => vz = ((pt G1 5) : Value), fun vz wz => vz = (.int .i64 a0.Tickets.High : Value), fun vz wz => vz = (.int .u64 (IntKind.u64.wrap a0.Tickets.High) : Value), fun vz wz => vz = (sv t22 : Value), fun vz wz => vz = (sv ((((t7 ++ t10) ++ t14) ++ t18) ++ t22) : Value), fun vz wz => vz = ((pt G1 1) : Value), fun vz wz => vz = ((pt G1 6) : Value), fun vz wz => vz = (.int .i64 a0.Tickets.Free : Value), fun vz wz => vz = (.int .u64 (IntKind.u64.wrap a0.Tickets.Free) : Value), fun vz wz => vz = (sv t26 : Value)] mo rfl ⟨fun _ _ _ h _ => h, fun _ _ _ h _ => h, fun _ _ _ h _ => h, fun _ _ _ h _ => h, fun _ _ _ h _ => h, fun _ _ _ h _ => h, fun _ _ _ h _ => h, fun _ _ _ h _ => h, fun _ _ _ h _ => h, fun _ _ _ h _ => h, fun _ _ _ h _ => h, fun _ _ _ h _ => h, fun _ _ _ h _ => h, fun _ _ _ h _ => h, fun _ _ _ h _ => h, fun _ _ _ h _ => h, fun _ _ _ h _ => h, fun _ _ _ h _ => h, fun _ _ _ h _ => h, fun _ _ _ h _ => h, fun _ _ _ h _ => h, fun _ _ _ h _ => h, fun _ _ _ h _ => h, fun _ _ _ h _ => h, fun _ _ _ h _ => h, fun _ _ _ h _ => h, fun _ _ _ h _ => h, fun _ _ _ h _ => h, fun _ _ _ h _ => h, fun _ _ _ h _ => h, fun _ _ _ h _ => h, fun _ _ _ h _ => h, fun _ _ _ h _ => h, fun _ _ _ h _ => h, fun _ _ _ h _ => h, fun _ _ _ h _ => h, trivial⟩ ?_ ?_
 ·refine ⟨?_, ?_, ?_, ?_, ?_, ?_, ?_, ?_, ?_, ?_, ?_, ?_, ?_, ?_, ?_, ?_, ?_, ?_, ?_, ?_, ?_, ?_, ?_, ?_, ?_, ?_, ?_, ?_, ?_, ?_, ?_, ?_, ?_, ?_, ?_, ?_, trivial⟩
  ·intro ρz wz hz hk hd
   exact sk_val (v := (pt G1 0)) (xr_fieldAddr (p := 0) (q := 0) rfl fl110_0 ((hk 1 rfl).trans rfl)) rfl rfl
  ·intro ρz wz hz hk hd
   exact sk_val (v := .int .i64 a0.Epoch) (xr_load1 (v := .int .i64 a0.Epoch) rfl ag3 (hd 0 rfl 5 rfl) ((b2.gr hz).seg 0 rfl rfl)) rfl rfl
  ·intro ρz wz hz hk hd
   exact sk_val (v := .int .u64 (IntKind.u64.wrap a0.Epoch)) (xr_conv rfl Try.underlying3 Try.underlying22 (hd 1 rfl 6 rfl)) rfl rfl
  ·intro ρz wz hz hk hd
   refine sk_op (opv_call rfl cal117 (ac (hd 2 rfl 7 rfl) (ac rfl an)) (rickyardref01_Lay.ok fu _ (IntKind.u64.wrap a0.Epoch) 8 _ k8)) rfl ?_
   rintro _ wy ⟨rfl, q9⟩
   exact ⟨rfl, q9⟩
  ·intro ρz wz hz hk hd
   exact sk_val (v := (pt G1 1)) (xr_fieldAddr (p := 0) (q := 1) rfl fl110_1 ((hk 1 rfl).trans rfl)) rfl rfl
  ·intro ρz wz hz hk hd
   exact sk_val (v := (pt G1 1)) (xr_fieldAddr (p := 1) (q := 0) rfl fl108_0 (hd 4 rfl 9 rfl)) rfl rfl
  ·intro ρz wz hz hk hd
   exact sk_val (v := (pt G1 1)) (xr_fieldAddr (p := 1) (q := 0) rfl fl106_0 (hd 5 rfl 10 rfl)) rfl rfl
  ·intro ρz wz hz hk hd
   exact sk_val (v := .int .i64 a0.Tickets.Geometry.Blocks) (xr_load1 (v := .int .i64 a0.Tickets.Geometry.Blocks) rfl ag3 (hd 6 rfl 11 rfl) ((b2.gr hz).seg 1 rfl rfl)) rfl rfl
  ·intro ρz wz hz hk hd
   exact sk_val (v := .int .u64 (IntKind.u64.wrap a0.Tickets.Geometry.Blocks)) (xr_conv rfl Try.underlying3 Try.underlying22 (hd 7 rfl 12 rfl)) rfl rfl
  ·intro ρz wz hz hk hd
   refine sk_op (opv_call rfl cal117 (ac (hd 8 rfl 13 rfl) (ac rfl an)) (rickyardref01_Lay.ok fu _ (IntKind.u64.wrap a0.Tickets.Geometry.Blocks) 4 _ k11)) rfl ?_
   rintro _ wy ⟨rfl, q12⟩
   exact ⟨rfl, q12⟩
  ·intro ρz wz hz hk hd
   exact sk_val (v := sv (t7 ++ t10)) (xr_addStr rfl (hd 3 rfl 8 rfl) (hd 9 rfl 14 rfl) g13) rfl rfl
  ·intro ρz wz hz hk hd
   exact sk_val (v := (pt G1 1)) (xr_fieldAddr (p := 0) (q := 1) rfl fl110_1 ((hk 1 rfl).trans rfl)) rfl rfl
  ·intro ρz wz hz hk hd
   exact sk_val (v := (pt G1 1)) (xr_fieldAddr (p := 1) (q := 0) rfl fl108_0 (hd 11 rfl 16 rfl)) rfl rfl
  ·intro ρz wz hz hk hd
   exact sk_val (v := (pt G1 2)) (xr_fieldAddr (p := 1) (q := 1) rfl fl106_1 (hd 12 rfl 17 rfl)) rfl rfl
  ·intro ρz wz hz hk hd
   exact sk_val (v := .int .i64 a0.Tickets.Geometry.Slots) (xr_load1 (v := .int .i64 a0.Tickets.Geometry.Slots) rfl ag3 (hd 13 rfl 18 rfl) ((b2.gr hz).seg 2 rfl rfl)) rfl rfl
  ·intro ρz wz hz hk hd
   exact sk_val (v := .int .u64 (IntKind.u64.wrap a0.Tickets.Geometry.Slots)) (xr_conv rfl Try.underlying3 Try.underlying22 (hd 14 rfl 19 rfl)) rfl rfl
  ·intro ρz wz hz hk hd
   refine sk_op (opv_call rfl cal117 (ac (hd 15 rfl 20 rfl) (ac rfl an)) (rickyardref01_Lay.ok fu _ (IntKind.u64.wrap a0.Tickets.Geometry.Slots) 4 _ k15)) rfl ?_
   rintro _ wy ⟨rfl, q16⟩
   exact ⟨rfl, q16⟩
  ·intro ρz wz hz hk hd
   exact sk_val (v := sv ((t7 ++ t10) ++ t14)) (xr_addStr rfl (hd 10 rfl 15 rfl) (hd 16 rfl 21 rfl) g17) rfl rfl
  ·intro ρz wz hz hk hd
   exact sk_val (v := (pt G1 1)) (xr_fieldAddr (p := 0) (q := 1) rfl fl110_1 ((hk 1 rfl).trans rfl)) rfl rfl
  ·intro ρz wz hz hk hd
   exact sk_val (v := (pt G1 1)) (xr_fieldAddr (p := 1) (q := 0) rfl fl108_0 (hd 18 rfl 23 rfl)) rfl rfl
  ·intro ρz wz hz hk hd
   exact sk_val (v := (pt G1 3)) (xr_fieldAddr (p := 1) (q := 2) rfl fl106_2 (hd 19 rfl 24 rfl)) rfl rfl
  ·intro ρz wz hz hk hd
   exact sk_val (v := .int .i64 a0.Tickets.Geometry.Gens) (xr_load1 (v := .int .i64 a0.Tickets.Geometry.Gens) rfl ag3 (hd 20 rfl 25 rfl) ((b2.gr hz).seg 3 rfl rfl)) rfl rfl
  ·intro ρz wz hz hk hd
   exact sk_val (v := .int .u64 (IntKind.u64.wrap a0.Tickets.Geometry.Gens)) (xr_conv rfl Try.underlying3 Try.underlying22 (hd 21 rfl 26 rfl)) rfl rfl
  ·intro ρz wz hz hk hd
   refine sk_op (opv_call rfl cal117 (ac (hd 22 rfl 27 rfl) (ac rfl an)) (rickyardref01_Lay.ok fu _ (IntKind.u64.wrap a0.Tickets.Geometry.Gens) 4 _ k19)) rfl ?_
   rintro _ wy ⟨rfl, q20⟩
   exact ⟨rfl, q20⟩
  ·intro ρz wz hz hk hd
   exact sk_val (v := sv (((t7 ++ t10) ++ t14) ++ t18)) (xr_addStr rfl (hd 17 rfl 22 rfl) (hd 23 rfl 28 rfl) g21) rfl rfl
  ·intro ρz wz hz hk hd
   exact sk_val (v := (pt G1 1)) (xr_fieldAddr (p := 0) (q := 1) rfl fl110_1 ((hk 1 rfl).trans rfl)) rfl rfl
  ·intro ρz wz hz hk hd
   exact sk_val (v := (pt G1 5)) (xr_fieldAddr (p := 1) (q := 4) rfl fl108_2 (hd 25 rfl 30 rfl)) rfl rfl
  ·intro ρz wz hz hk hd
   exact sk_val (v := .int .i64 a0.Tickets.High) (xr_load1 (v := .int .i64 a0.Tickets.High) rfl ag3 (hd 26 rfl 31 rfl) ((b2.gr hz).seg 5 rfl rfl)) rfl rfl
  ·intro ρz wz hz hk hd
   exact sk_val (v := .int .u64 (IntKind.u64.wrap a0.Tickets.High)) (xr_conv rfl Try.underlying3 Try.underlying22 (hd 27 rfl 32 rfl)) rfl rfl
  ·intro ρz wz hz hk hd
   refine sk_op (opv_call rfl cal117 (ac (hd 28 rfl 33 rfl) (ac rfl an)) (rickyardref01_Lay.ok fu _ (IntKind.u64.wrap a0.Tickets.High) 4 _ k23)) rfl ?_
   rintro _ wy ⟨rfl, q24⟩
   exact ⟨rfl, q24⟩
  ·intro ρz wz hz hk hd
   exact sk_val (v := sv ((((t7 ++ t10) ++ t14) ++ t18) ++ t22)) (xr_addStr rfl (hd 24 rfl 29 rfl) (hd 29 rfl 34 rfl) g25) rfl rfl
  ·intro ρz wz hz hk hd
   exact sk_val (v := (pt G1 1)) (xr_fieldAddr (p := 0) (q := 1) rfl fl110_1 ((hk 1 rfl).trans rfl)) rfl rfl
  ·intro ρz wz hz hk hd
   exact sk_val (v := (pt G1 6)) (xr_fieldAddr (p := 1) (q := 5) rfl fl108_3 (hd 31 rfl 36 rfl)) rfl rfl
  ·intro ρz wz hz hk hd
   exact sk_val (v := .int .i64 a0.Tickets.Free) (xr_load1 (v := .int .i64 a0.Tickets.Free) rfl ag3 (hd 32 rfl 37 rfl) ((b2.gr hz).seg 6 rfl rfl)) rfl rfl
  ·intro ρz wz hz hk hd
   exact sk_val (v := .int .u64 (IntKind.u64.wrap a0.Tickets.Free)) (xr_conv rfl Try.underlying3 Try.underlying22 (hd 33 rfl 38 rfl)) rfl rfl
  intro ρz wz hz hk hd
  refine sk_op (opv_call rfl cal117 (ac (hd 34 rfl 39 rfl) (ac rfl an)) (rickyardref01_Lay.ok fu _ (IntKind.u64.wrap a0.Tickets.Free) 4 _ k27)) rfl ?_
  rintro _ wy ⟨rfl, q28⟩
  exact ⟨rfl, q28⟩
 intro ρ29 w30 q31 hk hd
 have e1 := (hk 1 rfl).trans rfl
 have e35 := hd 30 rfl 35 rfl
 have e40 := hd 35 rfl 40 rfl
 have b2 := b2.gr q31
 have fB := fB.gr q31
 obtain ⟨g32, h⟩ := gs h
 refine ol_val (v := sv (((((t7 ++ t10) ++ t14) ++ t18) ++ t22) ++ t26)) (xr_addStr rfl e35 e40 g32) rfl rfl rfl ?_
 refine ol_val (v := sv (((((t7 ++ t10) ++ t14) ++ t18) ++ t22) ++ t26)) (xr_assign rfl rfl) rfl rfl rfl ?_
 refine ol_nil ?_
 refine cw_seq ?_
 obtain ⟨t33, k34, h⟩ := bs h
 obtain ⟨g36, h⟩ := gs h
 obtain ⟨t37, k38, h⟩ := bs h
 refine cw_drawL 11 [fun vz wz => vz = (sv (((((t7 ++ t10) ++ t14) ++ t18) ++ t22) ++ t26) : Value), fun vz wz => vz = ((pt G1 1) : Value), fun vz wz => vz = ((pt G1 4) : Value), fun vz wz => vz = (.int .i64 a0.Tickets.Top : Value), fun vz wz => vz = (.int .u64 (IntKind.u64.wrap a0.Tickets.Top) : Value), fun vz wz => vz = (sv t33 : Value), fun vz wz => vz = (sv ((((((t7 ++ t10) ++ t14) ++ t18) ++ t22) ++ t26) ++ t33) : Value), fun vz wz => vz = ((pt G1 7) : Value), fun vz wz => vz = (.int .i64 a0.Dir : Value), fun vz wz => vz = (.int .u64 (IntKind.u64.wrap a0.Dir) : Value), fun vz wz => vz = (sv t37 : Value)] mo rfl ⟨fun _ _ _ h _ => h, fun _ _ _ h _ => h, fun _ _ _ h _ => h, fun _ _ _ h _ => h, fun _ _ _ h _ => h, fun _ _ _ h _ => h, fun _ _ _ h _ => h, fun _ _ _ h _ => h, fun _ _ _ h _ => h, fun _ _ _ h _ => h, fun _ _ _ h _ => h, trivial⟩ ?_ ?_
 ·refine ⟨?_, ?_, ?_, ?_, ?_, ?_, ?_, ?_, ?_, ?_, ?_, trivial⟩
  ·intro ρz wz hz hk hd
   exact sk_val (v := sv (((((t7 ++ t10) ++ t14) ++ t18) ++ t22) ++ t26)) (xr_move rfl ((hk 3 rfl).trans rfl)) rfl rfl
  ·intro ρz wz hz hk hd
   exact sk_val (v := (pt G1 1)) (xr_fieldAddr (p := 0) (q := 1) rfl fl110_1 ((hk 1 rfl).trans e1)) rfl rfl
  ·intro ρz wz hz hk hd
   exact sk_val (v := (pt G1 4)) (xr_fieldAddr (p := 1) (q := 3) rfl fl108_1 (hd 1 rfl 43 rfl)) rfl rfl
  ·intro ρz wz hz hk hd
   exact sk_val (v := .int .i64 a0.Tickets.Top) (xr_load1 (v := .int .i64 a0.Tickets.Top) rfl ag3 (hd 2 rfl 44 rfl) ((b2.gr hz).seg 4 rfl rfl)) rfl rfl
  ·intro ρz wz hz hk hd
   exact sk_val (v := .int .u64 (IntKind.u64.wrap a0.Tickets.Top)) (xr_conv rfl Try.underlying3 Try.underlying22 (hd 3 rfl 45 rfl)) rfl rfl
  ·intro ρz wz hz hk hd
   refine sk_op (opv_call rfl cal117 (ac (hd 4 rfl 46 rfl) (ac rfl an)) (rickyardref01_Lay.ok fu _ (IntKind.u64.wrap a0.Tickets.Top) 2 _ k34)) rfl ?_
   rintro _ wy ⟨rfl, q35⟩
   exact ⟨rfl, q35⟩
  ·intro ρz wz hz hk hd
   exact sk_val (v := sv ((((((t7 ++ t10) ++ t14) ++ t18) ++ t22) ++ t26) ++ t33)) (xr_addStr rfl (hd 0 rfl 42 rfl) (hd 5 rfl 47 rfl) g36) rfl rfl
  ·intro ρz wz hz hk hd
   exact sk_val (v := (pt G1 7)) (xr_fieldAddr (p := 0) (q := 7) rfl fl110_2 ((hk 1 rfl).trans e1)) rfl rfl
  ·intro ρz wz hz hk hd
   exact sk_val (v := .int .i64 a0.Dir) (xr_load1 (v := .int .i64 a0.Dir) rfl ag3 (hd 7 rfl 49 rfl) ((b2.gr hz).seg 7 rfl rfl)) rfl rfl
  ·intro ρz wz hz hk hd
   exact sk_val (v := .int .u64 (IntKind.u64.wrap a0.Dir)) (xr_conv rfl Try.underlying3 Try.underlying22 (hd 8 rfl 50 rfl)) rfl rfl
  intro ρz wz hz hk hd
  refine sk_op (opv_call rfl cal117 (ac (hd 9 rfl 51 rfl) (ac rfl an)) (rickyardref01_Lay.ok fu _ (IntKind.u64.wrap a0.Dir) 2 _ k38)) rfl ?_
  rintro _ wy ⟨rfl, q39⟩
  exact ⟨rfl, q39⟩
 intro ρ40 w41 q42 hk hd
 have e1 := (hk 1 rfl).trans e1
 have e48 := hd 6 rfl 48 rfl
 have e52 := hd 10 rfl 52 rfl
 have b2 := b2.gr q42
 have fB := fB.gr q42
 obtain ⟨g43, h⟩ := gs h
 refine ol_val (v := sv (((((((t7 ++ t10) ++ t14) ++ t18) ++ t22) ++ t26) ++ t33) ++ t37)) (xr_addStr rfl e48 e52 g43) rfl rfl rfl ?_
 refine ol_val (v := sv (((((((t7 ++ t10) ++ t14) ++ t18) ++ t22) ++ t26) ++ t33) ++ t37)) (xr_assign rfl rfl) rfl rfl rfl ?_
 refine ol_nil ?_
 refine cw_seq ?_
 refine cw_seq ?_
 refine cw_region ?_
 refine ol_val (v := .int .i64 0) (xr_assign rfl rfl) rfl rfl rfl ?_
 refine ol_nil ?_
 obtain ⟨e45, l46, h47⟩ := bs h
 refine cw_mid (fun ρ' w' => ρ' 1 = (pt G1 0) ∧ ρ' 3 = sv e45 ∧ Blk w' G1 110 [(sI a0.Epoch), (sI a0.Tickets.Geometry.Blocks), (sI a0.Tickets.Geometry.Slots), (sI a0.Tickets.Geometry.Gens), (sI a0.Tickets.Top), (sI a0.Tickets.High), (sI a0.Tickets.Free), (sI a0.Dir), Seg.cell V0_0 R0_0.one] ∧ Gr w w') ?_ ?_
 ·refine cw_block ?_
  refine cw_round (fun (s44 : (List UInt8) × Int) ρ' w' => ρ' 1 = (pt G1 0) ∧ ρ' 3 = sv s44.1 ∧ ρ' 4 = .int .i64 s44.2 ∧ Blk w' G1 110 [(sI a0.Epoch), (sI a0.Tickets.Geometry.Blocks), (sI a0.Tickets.Geometry.Slots), (sI a0.Tickets.Geometry.Gens), (sI a0.Tickets.Top), (sI a0.Tickets.High), (sI a0.Tickets.Free), (sI a0.Dir), Seg.cell V0_0 R0_0.one] ∧ Gr w w') l46 ?_ ?_
  ·skip
   exact ⟨e1, rfl, rfl, b2, fB⟩
  rintro s44 x50 ρ48 w49 ⟨e1, e3, e4, b2, fB⟩ h
  unfold rickyardref13_Put.s0 at h
  refine cw_seq ?_
  refine cw_seq ?_
  refine cw_region ?_
  refine ol_val (v := .int .i64 s44.2) (xr_move rfl e4) rfl rfl rfl ?_
  refine ol_val (v := (pt G1 8)) (xr_fieldAddr (p := 0) (q := 8) rfl fl110_3 e1) rfl rfl rfl ?_
  refine ol_val (v := V0_0) (xr_load1 (v := V0_0) rfl ag25 rfl (b2.seg 8 rfl rfl)) rfl rfl rfl ?_
  refine ol_val (v := .int .i64 (List.length a0.Charts : Int)) (xr_lenR rfl Try.underlying25 rfl (R0_0.gr fB)) rfl rfl rfl ?_
  refine ol_val (v := .bool (decide (s44.2 < (List.length a0.Charts : Int)))) (xr_lss rfl rfl rfl) rfl rfl rfl ?_
  refine ol_nil ?_
  rcases is h with ⟨c51, h⟩ | ⟨c51, h⟩
  ·refine cw_condT rfl c51 ?_
   refine cw_skip ?_
   refine cw_seq ?_
   refine cw_block ?_
   refine cw_region ?_
   refine ol_val (v := sv s44.1) (xr_move rfl e3) rfl rfl rfl ?_
   refine ol_val (v := (pt G1 8)) (xr_fieldAddr (p := 0) (q := 8) rfl fl110_3 e1) rfl rfl rfl ?_
   refine ol_val (v := V0_0) (xr_load1 (v := V0_0) rfl ag25 rfl (b2.seg 8 rfl rfl)) rfl rfl rfl ?_
   refine ol_val (v := .int .i64 s44.2) (xr_move rfl e4) rfl rfl rfl ?_
   obtain ⟨g52, h⟩ := gs h
   refine ol_val (v := (pt ((sb V0_0)) (so V0_0 + Int.toNat s44.2 * 1))) (xr_indexR (K := (kI .i64)) (v := V0_0) rfl Try.underlying25 sz3 rfl (R0_0.gr fB) rfl g52.1 g52.2) rfl rfl rfl ?_
   refine ol_val (v := .int .i64 (ix a0.Charts s44.2)) (xr_load1 (v := .int .i64 (ix a0.Charts s44.2)) rfl ag3 rfl ((R0_0.gr fB).elem g52.1 g52.2)) rfl rfl rfl ?_
   refine ol_val (v := .int .u64 (IntKind.u64.wrap (ix a0.Charts s44.2))) (xr_conv rfl Try.underlying3 Try.underlying22 rfl) rfl rfl rfl ?_
   obtain ⟨t53, k54, h⟩ := bs h
   refine ol_op (opv_call rfl cal117 (ac rfl (ac rfl an)) (rickyardref01_Lay.ok fu _ (IntKind.u64.wrap (ix a0.Charts s44.2)) 2 _ k54)) rfl rfl rfl ?_
   rintro _ w56 ⟨rfl, q55⟩
   have b2 := b2.gr q55
   have fB := fB.gr q55
   obtain ⟨g57, h⟩ := gs h
   refine ol_val (v := sv (s44.1 ++ t53)) (xr_addStr rfl rfl rfl g57) rfl rfl rfl ?_
   refine ol_val (v := sv (s44.1 ++ t53)) (xr_assign rfl rfl) rfl rfl rfl ?_
   refine ol_nil ?_
   refine blk_i ?_
   refine cw_region ?_
   refine ol_val (v := .int .i64 s44.2) (xr_move rfl e4) rfl rfl rfl ?_
   refine ol_val (v := .int .i64 (IntKind.i64.wrap (s44.2 + 1))) (xr_add rfl rfl rfl) rfl rfl rfl ?_
   refine ol_val (v := .int .i64 (IntKind.i64.wrap (s44.2 + 1))) (xr_assign rfl rfl) rfl rfl rfl ?_
   refine ol_nil ?_
   obtain rfl := Option.some.inj h
   refine lp_in ?_
   exact ⟨e1, rfl, rfl, b2, fB⟩
  refine cw_condF rfl c51 ?_
  refine cw_exit ?_
  repeat (first | with_reducible refine thn_e ?_ | with_reducible refine blk_e rfl ?_)
  obtain rfl := Option.some.inj h
  refine lp_exit ?_
  rintro rfl
  refine thn_x ?_
  exact ⟨e1, e3, b2, fB⟩
 rintro ρ58 w59 ⟨e1, e3, b2, fB⟩
 have h := h47
 refine cw_seq ?_
 refine cw_region ?_
 refine ol_val (v := (pt G1 8)) (xr_fieldAddr (p := 0) (q := 8) rfl fl110_3 e1) rfl rfl rfl ?_
 refine ol_val (v := V0_0) (xr_load1 (v := V0_0) rfl ag25 rfl (b2.seg 8 rfl rfl)) rfl rfl rfl ?_
 refine ol_val (v := .int .i64 (List.length a0.Charts : Int)) (xr_lenR rfl Try.underlying25 rfl (R0_0.gr fB)) rfl rfl rfl ?_
 refine ol_val (v := sv e45) (xr_move rfl e3) rfl rfl rfl ?_
 obtain ⟨t60, k61, h⟩ := bs h
 refine ol_op (opv_call rfl cal118 (ac rfl (ac rfl (ac rfl an))) (rickyardref07_Seal.ok fu _ 7 (List.length a0.Charts : Int) e45 _ k61)) rfl rfl rfl ?_
 rintro _ w63 ⟨rfl, q62⟩
 have fB := fB.gr q62
 refine ol_val (v := sv t60) (xr_assign rfl rfl) rfl rfl rfl ?_
 refine ol_nil ?_
 refine cw_ret ?_
 repeat (first | with_reducible refine thn_r ?_ | with_reducible refine blk_r ?_)
 obtain rfl := Option.some.inj h
 refine fin_ret1 Try.results76 rfl ?_
 exact ⟨_, rfl, rfl, fB⟩
def rickyardref05_Device_error.f (fu : Nat) (a0 : S_rickyardref05_Device) (a1 : Int) (a2 : Int) : Option Int := (if (decide (a0.Left = 0)) = true then some (3) else (if (if (decide (a1 < 0)) = true then true else (decide (a1 ≥ a2))) = true then some (2) else some (0)))
theorem rickyardref05_Device_error.ok (fu : Nat) (w : World) (a0 : S_rickyardref05_Device) (G_0 : Nat) (V0_0 : Value) (R0_0 : Rd (kI .u64) w V0_0 a0.Lasts) (V0_1 : Value) (R0_1 : Rd (kI .u64) w V0_1 a0.Stored) (V0_2 : Value) (R0_2 : Rd (kI .u64) w V0_2 a0.Sent) (V0_3 : Value) (R0_3 : Rd kB w V0_3 a0.Flushed) (V0_4 : Value) (R0_4 : Rd (kI .i64) w V0_4 a0.Plan) (b_0 : Blk w G_0 65 [Seg.cell V0_0 R0_0.one, Seg.cell V0_1 R0_1.one, Seg.cell V0_2 R0_2.one, Seg.cell V0_3 R0_3.one, Seg.cell V0_4 R0_4.one, (sI a0.Since), (sI a0.Left), (sI a0.Steps)]) (a1 : Int) (a2 : Int) (r : Int) (h : rickyardref05_Device_error.f fu a0 a1 a2 = some r) :
  Calls Try.prog 124 (([(pt G_0 0), .int .i64 a1, .int .i64 a2] : List Value).toArray) w (fun e w' => ∃ v, e = .returned v ∧ v = .int .i64 r ∧ Gr w w') := by
 unfold rickyardref05_Device_error.f at h
 have fB : Gr w w := Fr.refl _ _
 refine calls_cw Try.func124 rfl Try.ntmps124 rfl ?_
 refine cw_seq ?_
 refine cw_region ?_
 refine ol_val (v := .int .i64 0) (xr_assign rfl rfl) rfl rfl rfl ?_
 refine ol_nil ?_
 refine cw_seq ?_
 refine cw_seq ?_
 refine cw_region ?_
 refine ol_val (v := (pt G_0 0)) (xr_move rfl rfl) rfl rfl rfl ?_
 refine ol_val (v := (pt G_0 0)) (xr_nilCheck rfl rfl) rfl rfl rfl ?_
 refine ol_val (v := (pt G_0 6)) (xr_fieldAddr (p := 0) (q := 6) rfl fl65_6 rfl) rfl rfl rfl ?_
 refine ol_val (v := .int .i64 a0.Left) (xr_load1 (v := .int .i64 a0.Left) rfl ag3 rfl (b_0.seg 6 rfl rfl)) rfl rfl rfl ?_
 refine ol_val (v := .bool (decide (a0.Left = 0))) (xr_eqI rfl Try.underlying3 rfl rfl rfl) rfl rfl rfl ?_
 refine ol_nil ?_
 rcases is h with ⟨c1, h⟩ | ⟨c1, h⟩
 ·refine cw_condT rfl c1 ?_
  refine cw_seq ?_
  refine cw_region ?_
  refine ol_val (v := .int .i64 3) (xr_assign rfl rfl) rfl rfl rfl ?_
  refine ol_nil ?_
  refine cw_ret ?_
  repeat (first | with_reducible refine thn_r ?_ | with_reducible refine blk_r ?_)
  obtain rfl := Option.some.inj h
  refine fin_ret1 Try.results124 rfl ?_
  exact ⟨_, rfl, rfl, fB⟩
 refine cw_condF rfl c1 ?_
 refine cw_skip ?_
 refine cw_seq ?_
 refine cw_seq ?_
 refine cw_mid (fun ρ' w' => ρ' 18 = .bool (if (decide (a1 < 0)) = true then true else (decide (a1 ≥ a2))) ∧ w = w') ?_ ?_
 ·skip
  refine cw_region ?_
  refine ol_val (v := .int .i64 a1) (xr_move rfl rfl) rfl rfl rfl ?_
  refine ol_val (v := .bool (decide (a1 < 0))) (xr_lss rfl rfl rfl) rfl rfl rfl ?_
  refine ol_val (v := .bool (decide (a1 < 0))) (xr_move rfl rfl) rfl rfl rfl ?_
  rcases bt (decide (a1 < 0)) with c2 | c2
  ·skip
   refine ol_gskip rfl rfl rfl rfl rfl c2 ?_
   refine ol_gskip rfl rfl rfl rfl rfl c2 ?_
   refine ol_gskip rfl rfl rfl rfl rfl c2 ?_
   refine ol_val (v := .bool true) (xr_pickT rfl rfl c2 rfl) rfl rfl rfl ?_
   refine ol_nil ?_
   refine thn_i ?_
   exact ⟨(rfl).trans (congrArg (fun z => (.bool z : Value)) (show true = (if (decide (a1 < 0)) = true then true else (decide (a1 ≥ a2))) from by rw [ite_t c2])), rfl⟩
  refine ol_gval (v := .int .i64 a1) (xr_move rfl rfl) rfl rfl rfl rfl rfl c2 ?_
  refine ol_gval (v := .int .i64 a2) (xr_move rfl rfl) rfl rfl rfl rfl rfl c2 ?_
  refine ol_gval (v := .bool (decide (a1 ≥ a2))) (xr_geq rfl rfl rfl) rfl rfl rfl rfl rfl c2 ?_
  refine ol_val (v := .bool (decide (a1 ≥ a2))) (xr_pickF rfl rfl c2 rfl) rfl rfl rfl ?_
  refine ol_nil ?_
  refine thn_i ?_
  exact ⟨(rfl).trans (congrArg (fun z => (.bool z : Value)) (show (decide (a1 ≥ a2)) = (if (decide (a1 < 0)) = true then true else (decide (a1 ≥ a2))) from by rw [ite_f c2])), rfl⟩
 rintro ρ3 _ ⟨e18, rfl⟩
 rcases is h with ⟨c4, h⟩ | ⟨c4, h⟩
 ·refine cw_condT e18 c4 ?_
  refine cw_seq ?_
  refine cw_region ?_
  refine ol_val (v := .int .i64 2) (xr_assign rfl rfl) rfl rfl rfl ?_
  refine ol_nil ?_
  refine cw_ret ?_
  repeat (first | with_reducible refine thn_r ?_ | with_reducible refine blk_r ?_)
  obtain rfl := Option.some.inj h
  refine fin_ret1 Try.results124 rfl ?_
  exact ⟨_, rfl, rfl, fB⟩
 refine cw_condF e18 c4 ?_
 refine cw_skip ?_
 refine cw_seq ?_
 refine cw_region ?_
 refine ol_val (v := .int .i64 0) (xr_assign rfl rfl) rfl rfl rfl ?_
 refine ol_nil ?_
 refine cw_ret ?_
 repeat (first | with_reducible refine thn_r ?_ | with_reducible refine blk_r ?_)
 obtain rfl := Option.some.inj h
 refine fin_ret1 Try.results124 rfl ?_
 exact ⟨_, rfl, rfl, fB⟩
def rickyardref05_Device_last.f (fu : Nat) (a0 : S_rickyardref05_Device) (a1 : Int) (a2 : Int) : Option S_rickyardref05_Device := (if 0 ≤ a1 ∧ a1 < (List.length a0.Lasts : Int) then (if 0 ≤ a1 ∧ a1 < (List.length a0.Sent : Int) then (if 0 ≤ a1 ∧ a1 < (List.length a0.Flushed : Int) then some ((⟨(List.set a0.Lasts (Int.toNat a1) a2), a0.Stored, (List.set a0.Sent (Int.toNat a1) 0), (List.set a0.Flushed (Int.toNat a1) false), a0.Plan, a0.Since, a0.Left, a0.Steps⟩ : S_rickyardref05_Device)) else none) else none) else none)
theorem rickyardref05_Device_last.ok (fu : Nat) (w : World) (a0 : S_rickyardref05_Device) (G_0 : Nat) (V0_0 : Value) (O0_0 : Own (kI .u64) 22 w 0 V0_0 a0.Lasts) (V0_1 : Value) (O0_1 : Own (kI .u64) 22 w 0 V0_1 a0.Stored) (V0_2 : Value) (O0_2 : Own (kI .u64) 22 w 0 V0_2 a0.Sent) (V0_3 : Value) (O0_3 : Own kB 4 w 0 V0_3 a0.Flushed) (V0_4 : Value) (O0_4 : Own (kI .i64) 3 w 0 V0_4 a0.Plan) (b_0 : Blk w G_0 65 [Seg.cell V0_0 O0_0.one, Seg.cell V0_1 O0_1.one, Seg.cell V0_2 O0_2.one, Seg.cell V0_3 O0_3.one, Seg.cell V0_4 O0_4.one, (sI a0.Since), (sI a0.Left), (sI a0.Steps)]) (a1 : Int) (a2 : Int) (A_R0_0_R0_1 : OffV V0_0 V0_1) (A_R0_0_R0_2 : OffV V0_0 V0_2) (A_R0_1_R0_2 : OffV V0_1 V0_2) (r : S_rickyardref05_Device) (h : rickyardref05_Device_last.f fu a0 a1 a2 = some r) :
  Calls Try.prog 126 (([(pt G_0 0), .int .i64 a1, .int .u64 a2] : List Value).toArray) w (fun e w' => ∃ v, e = .returned v ∧ ∃ u1 : Value, ∃ u4 : Value, ∃ u7 : Value, ∃ u10 : Value, ∃ u13 : Value, ∃ o2 : Own (kI .u64) 22 w' 0 u1 r.Lasts, ∃ m3 : ∀ g, Value.ownBlock u1 = some g → w.heap.size ≤ g ∨ (g = G_0 ∨ some g = Value.ownBlock V0_0 ∨ some g = Value.ownBlock V0_1 ∨ some g = Value.ownBlock V0_2 ∨ some g = Value.ownBlock V0_3 ∨ some g = Value.ownBlock V0_4), ∃ o5 : Own (kI .u64) 22 w' 0 u4 r.Stored, ∃ m6 : ∀ g, Value.ownBlock u4 = some g → w.heap.size ≤ g ∨ (g = G_0 ∨ some g = Value.ownBlock V0_0 ∨ some g = Value.ownBlock V0_1 ∨ some g = Value.ownBlock V0_2 ∨ some g = Value.ownBlock V0_3 ∨ some g = Value.ownBlock V0_4), ∃ o8 : Own (kI .u64) 22 w' 0 u7 r.Sent, ∃ m9 : ∀ g, Value.ownBlock u7 = some g → w.heap.size ≤ g ∨ (g = G_0 ∨ some g = Value.ownBlock V0_0 ∨ some g = Value.ownBlock V0_1 ∨ some g = Value.ownBlock V0_2 ∨ some g = Value.ownBlock V0_3 ∨ some g = Value.ownBlock V0_4), ∃ o11 : Own kB 4 w' 0 u10 r.Flushed, ∃ m12 : ∀ g, Value.ownBlock u10 = some g → w.heap.size ≤ g ∨ (g = G_0 ∨ some g = Value.ownBlock V0_0 ∨ some g = Value.ownBlock V0_1 ∨ some g = Value.ownBlock V0_2 ∨ some g = Value.ownBlock V0_3 ∨ some g = Value.ownBlock V0_4), ∃ o14 : Own (kI .i64) 3 w' 0 u13 r.Plan, ∃ m15 : ∀ g, Value.ownBlock u13 = some g → w.heap.size ≤ g ∨ (g = G_0 ∨ some g = Value.ownBlock V0_0 ∨ some g = Value.ownBlock V0_1 ∨ some g = Value.ownBlock V0_2 ∨ some g = Value.ownBlock V0_3 ∨ some g = Value.ownBlock V0_4), ∃ a16 : OffV u1 u4, ∃ a17 : OffV u1 u7, ∃ a18 : OffV u4 u7, v = .tuple #[] ∧ Blk w' G_0 65 [Seg.cell u1 o2.one, Seg.cell u4 o5.one, Seg.cell u7 o8.one, Seg.cell u10 o11.one, Seg.cell u13 o14.one, (sI r.Since), (sI r.Left), (sI r.Steps)] ∧ Fr (fun j => j = G_0 ∨ some j = Value.ownBlock V0_0 ∨ some j = Value.ownBlock V0_1 ∨ some j = Value.ownBlock V0_2 ∨ some j = Value.ownBlock V0_3 ∨ some j = Value.ownBlock V0_4) w w') := by
 unfold rickyardref05_Device_last.f at h
 have fB : Fr (fun j => j = G_0 ∨ some j = Value.ownBlock V0_0 ∨ some j = Value.ownBlock V0_1 ∨ some j = Value.ownBlock V0_2 ∨ some j = Value.ownBlock V0_3 ∨ some j = Value.ownBlock V0_4) w w := Fr.refl _ _
 have M0_0 : ∀ g, Value.ownBlock V0_0 = some g → w.heap.size ≤ g ∨ (g = G_0 ∨ some g = Value.ownBlock V0_0 ∨ some g = Value.ownBlock V0_1 ∨ some g = Value.ownBlock V0_2 ∨ some g = Value.ownBlock V0_3 ∨ some g = Value.ownBlock V0_4) := fun g hg => .inr (.inr (.inl hg.symm))
 have M0_1 : ∀ g, Value.ownBlock V0_1 = some g → w.heap.size ≤ g ∨ (g = G_0 ∨ some g = Value.ownBlock V0_0 ∨ some g = Value.ownBlock V0_1 ∨ some g = Value.ownBlock V0_2 ∨ some g = Value.ownBlock V0_3 ∨ some g = Value.ownBlock V0_4) := fun g hg => .inr (.inr (.inr (.inl hg.symm)))
 have M0_2 : ∀ g, Value.ownBlock V0_2 = some g → w.heap.size ≤ g ∨ (g = G_0 ∨ some g = Value.ownBlock V0_0 ∨ some g = Value.ownBlock V0_1 ∨ some g = Value.ownBlock V0_2 ∨ some g = Value.ownBlock V0_3 ∨ some g = Value.ownBlock V0_4) := fun g hg => .inr (.inr (.inr (.inr (.inl hg.symm))))
 have M0_3 : ∀ g, Value.ownBlock V0_3 = some g → w.heap.size ≤ g ∨ (g = G_0 ∨ some g = Value.ownBlock V0_0 ∨ some g = Value.ownBlock V0_1 ∨ some g = Value.ownBlock V0_2 ∨ some g = Value.ownBlock V0_3 ∨ some g = Value.ownBlock V0_4) := fun g hg => .inr (.inr (.inr (.inr (.inr (.inl hg.symm)))))
 have M0_4 : ∀ g, Value.ownBlock V0_4 = some g → w.heap.size ≤ g ∨ (g = G_0 ∨ some g = Value.ownBlock V0_0 ∨ some g = Value.ownBlock V0_1 ∨ some g = Value.ownBlock V0_2 ∨ some g = Value.ownBlock V0_3 ∨ some g = Value.ownBlock V0_4) := fun g hg => .inr (.inr (.inr (.inr (.inr (.inr hg.symm)))))
 refine calls_cw Try.func126 rfl Try.ntmps126 rfl ?_
 refine cw_seq ?_
 refine cw_region ?_
 refine ol_val (v := (pt G_0 0)) (xr_move rfl rfl) rfl rfl rfl ?_
 refine ol_val (v := (pt G_0 0)) (xr_nilCheck rfl rfl) rfl rfl rfl ?_
 refine ol_val (v := (pt G_0 0)) (xr_fieldAddr (p := 0) (q := 0) rfl fl65_0 rfl) rfl rfl rfl ?_
 refine ol_val (v := V0_0) (xr_load1 (v := V0_0) rfl ag46 rfl (b_0.seg 0 rfl rfl)) rfl rfl rfl ?_
 refine ol_val (v := .int .i64 a1) (xr_move rfl rfl) rfl rfl rfl ?_
 refine ol_val (v := .int .u64 a2) (xr_move rfl rfl) rfl rfl rfl ?_
 obtain ⟨g19, h⟩ := gs h
 refine ol_val (v := (pt ((sb V0_0)) (so V0_0 + Int.toNat a1 * 1))) (xr_indexR (K := (kI .u64)) (v := V0_0) rfl Try.underlying46 sz22 rfl O0_0.rd rfl g19.1 g19.2) rfl rfl rfl ?_
 have f21 := off_ty b_0 O0_0 (by decide)
 have f22 := A_R0_0_R0_1.symm
 have f23 := A_R0_0_R0_2.symm
 have f24 := OffV.ty O0_3 O0_0 (by decide)
 have f25 := OffV.ty O0_4 O0_0 (by decide)
 refine ol_op0 (opv_storeRow (z := a2) (xs := cellsOf [Seg.cell (.int .u64 a2)]) rfl sz22 rfl rfl rfl (len_cellsOf _) (one_cellsOf _) O0_0 g19.1 g19.2 (Spl.whole ((Kd.len _ _).trans (Kd.len _ _).symm)) rfl) rfl rfl ?_
 rintro _ w27 ⟨O0_0, q20⟩
 have b_0 := b_0.wrO q20 f21
 have O0_1 := O0_1.wrV q20 f22
 have O0_2 := O0_2.wrV q20 f23
 have O0_3 := O0_3.wrV q20 f24
 have O0_4 := O0_4.wrV q20 f25
 have fB := fB.wrM q20 M0_0
 refine ol_nil ?_
 refine cw_seq ?_
 refine cw_region ?_
 refine ol_val (v := (pt G_0 0)) (xr_move rfl rfl) rfl rfl rfl ?_
 refine ol_val (v := (pt G_0 0)) (xr_nilCheck rfl rfl) rfl rfl rfl ?_
 refine ol_val (v := (pt G_0 2)) (xr_fieldAddr (p := 0) (q := 2) rfl fl65_2 rfl) rfl rfl rfl ?_
 refine ol_val (v := V0_2) (xr_load1 (v := V0_2) rfl ag46 rfl (b_0.seg 2 rfl rfl)) rfl rfl rfl ?_
 refine ol_val (v := .int .i64 a1) (xr_move rfl rfl) rfl rfl rfl ?_
 obtain ⟨g28, h⟩ := gs h
 refine ol_val (v := (pt ((sb V0_2)) (so V0_2 + Int.toNat a1 * 1))) (xr_indexR (K := (kI .u64)) (v := V0_2) rfl Try.underlying46 sz22 rfl O0_2.rd rfl g28.1 g28.2) rfl rfl rfl ?_
 have f30 := off_ty b_0 O0_2 (by decide)
 have f31 := A_R0_0_R0_2
 have f32 := A_R0_1_R0_2
 have f33 := OffV.ty O0_3 O0_2 (by decide)
 have f34 := OffV.ty O0_4 O0_2 (by decide)
 refine ol_op0 (opv_storeRow (z := 0) (xs := cellsOf [Seg.cell (.int .u64 0)]) rfl sz22 rfl rfl rfl (len_cellsOf _) (one_cellsOf _) O0_2 g28.1 g28.2 (Spl.whole ((Kd.len _ _).trans (Kd.len _ _).symm)) rfl) rfl rfl ?_
 rintro _ w36 ⟨O0_2, q29⟩
 have b_0 := b_0.wrO q29 f30
 have O0_0 := O0_0.wrV q29 f31
 have O0_1 := O0_1.wrV q29 f32
 have O0_3 := O0_3.wrV q29 f33
 have O0_4 := O0_4.wrV q29 f34
 have fB := fB.wrM q29 M0_2
 refine ol_nil ?_
 refine cw_region ?_
 refine ol_val (v := (pt G_0 0)) (xr_move rfl rfl) rfl rfl rfl ?_
 refine ol_val (v := (pt G_0 0)) (xr_nilCheck rfl rfl) rfl rfl rfl ?_
 refine ol_val (v := (pt G_0 3)) (xr_fieldAddr (p := 0) (q := 3) rfl fl65_3 rfl) rfl rfl rfl ?_
 refine ol_val (v := V0_3) (xr_load1 (v := V0_3) rfl ag63 rfl (b_0.seg 3 rfl rfl)) rfl rfl rfl ?_
 refine ol_val (v := .int .i64 a1) (xr_move rfl rfl) rfl rfl rfl ?_
 obtain ⟨g37, h⟩ := gs h
 refine ol_val (v := (pt ((sb V0_3)) (so V0_3 + Int.toNat a1 * 1))) (xr_indexR (K := kB) (v := V0_3) rfl Try.underlying63 sz4 rfl O0_3.rd rfl g37.1 g37.2) rfl rfl rfl ?_
 have f39 := off_ty b_0 O0_3 (by decide)
 have f40 := OffV.ty O0_0 O0_3 (by decide)
 have f41 := OffV.ty O0_1 O0_3 (by decide)
 have f42 := OffV.ty O0_2 O0_3 (by decide)
 have f43 := OffV.ty O0_4 O0_3 (by decide)
 refine ol_op0 (opv_storeRow (z := false) (xs := cellsOf [Seg.cell (.bool false)]) rfl sz4 rfl rfl rfl (len_cellsOf _) (one_cellsOf _) O0_3 g37.1 g37.2 (Spl.whole ((Kd.len _ _).trans (Kd.len _ _).symm)) rfl) rfl rfl ?_
 rintro _ w45 ⟨O0_3, q38⟩
 have b_0 := b_0.wrO q38 f39
 have O0_0 := O0_0.wrV q38 f40
 have O0_1 := O0_1.wrV q38 f41
 have O0_2 := O0_2.wrV q38 f42
 have O0_4 := O0_4.wrV q38 f43
 have fB := fB.wrM q38 M0_3
 refine ol_nil ?_
 obtain rfl := Option.some.inj h
 refine fin_end0 Try.results126 ?_
 exact ⟨_, rfl, V0_0, V0_1, V0_2, V0_3, V0_4, O0_0, M0_0, O0_1, M0_1, O0_2, M0_2, O0_3, M0_3, O0_4, M0_4, A_R0_0_R0_1, A_R0_0_R0_2, A_R0_1_R0_2, rfl, b_0, fB⟩
def rickyardref05_Device_step.f (fu : Nat) (a0 : S_rickyardref05_Device) : Option S_rickyardref05_Device := (((if (if (decide ((List.length a0.Plan : Int) > 0)) = true then (decide ((List.length a0.Lasts : Int) > 0)) else false) = true then (if (List.length a0.Plan : Int) ≠ 0 then (if 0 ≤ (Int.tmod a0.Since (List.length a0.Plan : Int)) ∧ (Int.tmod a0.Since (List.length a0.Plan : Int)) < (List.length a0.Plan : Int) then (((if (decide ((ix a0.Plan (Int.tmod a0.Since (List.length a0.Plan : Int))) ≥ 0)) = true then (if (List.length a0.Lasts : Int) ≠ 0 then (if (List.length a0.Lasts : Int) ≠ 0 then (if 0 ≤ (Int.tmod (ix a0.Plan (Int.tmod a0.Since (List.length a0.Plan : Int))) (List.length a0.Lasts : Int)) ∧ (Int.tmod (ix a0.Plan (Int.tmod a0.Since (List.length a0.Plan : Int))) (List.length a0.Lasts : Int)) < (List.length a0.Stored : Int) then ((rickyardref05_Device_last.f fu a0 (Int.tmod (ix a0.Plan (Int.tmod a0.Since (List.length a0.Plan : Int))) (List.length a0.Lasts : Int)) (ix a0.Stored (Int.tmod (ix a0.Plan (Int.tmod a0.Since (List.length a0.Plan : Int))) (List.length a0.Lasts : Int)))).bind fun t86 => some (t86.Lasts, t86.Stored, t86.Sent, t86.Flushed, t86.Plan, t86.Since, t86.Left, t86.Steps)) else none) else none) else none) else some (a0.Lasts, a0.Stored, a0.Sent, a0.Flushed, a0.Plan, a0.Since, a0.Left, a0.Steps)) : Option ((List Int) × (List Int) × (List Int) × (List Bool) × (List Int) × Int × Int × Int)).bind fun x53 => some (x53.1, x53.2.1, x53.2.2.1, x53.2.2.2.1, x53.2.2.2.2.1, x53.2.2.2.2.2.1, x53.2.2.2.2.2.2.1, x53.2.2.2.2.2.2.2)) else none) else none) else some (a0.Lasts, a0.Stored, a0.Sent, a0.Flushed, a0.Plan, a0.Since, a0.Left, a0.Steps)) : Option ((List Int) × (List Int) × (List Int) × (List Bool) × (List Int) × Int × Int × Int)).bind fun x21 => (((if (decide (x21.2.2.2.2.2.2.1 > 0)) = true then some ((IntKind.i64.wrap (x21.2.2.2.2.2.2.1 - 1))) else some (x21.2.2.2.2.2.2.1)) : Option Int).bind fun x132 => some ((⟨x21.1, x21.2.1, x21.2.2.1, x21.2.2.2.1, x21.2.2.2.2.1, (IntKind.i64.wrap (x21.2.2.2.2.2.1 + 1)), x132, (IntKind.i64.wrap (x21.2.2.2.2.2.2.2 + 1))⟩ : S_rickyardref05_Device))))
theorem rickyardref05_Device_step.ok (fu : Nat) (w : World) (a0 : S_rickyardref05_Device) (G_0 : Nat) (V0_0 : Value) (O0_0 : Own (kI .u64) 22 w 0 V0_0 a0.Lasts) (V0_1 : Value) (O0_1 : Own (kI .u64) 22 w 0 V0_1 a0.Stored) (V0_2 : Value) (O0_2 : Own (kI .u64) 22 w 0 V0_2 a0.Sent) (V0_3 : Value) (O0_3 : Own kB 4 w 0 V0_3 a0.Flushed) (V0_4 : Value) (O0_4 : Own (kI .i64) 3 w 0 V0_4 a0.Plan) (b_0 : Blk w G_0 65 [Seg.cell V0_0 O0_0.one, Seg.cell V0_1 O0_1.one, Seg.cell V0_2 O0_2.one, Seg.cell V0_3 O0_3.one, Seg.cell V0_4 O0_4.one, (sI a0.Since), (sI a0.Left), (sI a0.Steps)]) (A_R0_0_R0_1 : OffV V0_0 V0_1) (A_R0_0_R0_2 : OffV V0_0 V0_2) (A_R0_1_R0_2 : OffV V0_1 V0_2) (r : S_rickyardref05_Device) (h : rickyardref05_Device_step.f fu a0 = some r) :
  Calls Try.prog 125 (([(pt G_0 0)] : List Value).toArray) w (fun e w' => ∃ v, e = .returned v ∧ ∃ u1 : Value, ∃ u4 : Value, ∃ u7 : Value, ∃ u10 : Value, ∃ u13 : Value, ∃ o2 : Own (kI .u64) 22 w' 0 u1 r.Lasts, ∃ m3 : ∀ g, Value.ownBlock u1 = some g → w.heap.size ≤ g ∨ (g = G_0 ∨ some g = Value.ownBlock V0_0 ∨ some g = Value.ownBlock V0_1 ∨ some g = Value.ownBlock V0_2 ∨ some g = Value.ownBlock V0_3 ∨ some g = Value.ownBlock V0_4), ∃ o5 : Own (kI .u64) 22 w' 0 u4 r.Stored, ∃ m6 : ∀ g, Value.ownBlock u4 = some g → w.heap.size ≤ g ∨ (g = G_0 ∨ some g = Value.ownBlock V0_0 ∨ some g = Value.ownBlock V0_1 ∨ some g = Value.ownBlock V0_2 ∨ some g = Value.ownBlock V0_3 ∨ some g = Value.ownBlock V0_4), ∃ o8 : Own (kI .u64) 22 w' 0 u7 r.Sent, ∃ m9 : ∀ g, Value.ownBlock u7 = some g → w.heap.size ≤ g ∨ (g = G_0 ∨ some g = Value.ownBlock V0_0 ∨ some g = Value.ownBlock V0_1 ∨ some g = Value.ownBlock V0_2 ∨ some g = Value.ownBlock V0_3 ∨ some g = Value.ownBlock V0_4), ∃ o11 : Own kB 4 w' 0 u10 r.Flushed, ∃ m12 : ∀ g, Value.ownBlock u10 = some g → w.heap.size ≤ g ∨ (g = G_0 ∨ some g = Value.ownBlock V0_0 ∨ some g = Value.ownBlock V0_1 ∨ some g = Value.ownBlock V0_2 ∨ some g = Value.ownBlock V0_3 ∨ some g = Value.ownBlock V0_4), ∃ o14 : Own (kI .i64) 3 w' 0 u13 r.Plan, ∃ m15 : ∀ g, Value.ownBlock u13 = some g → w.heap.size ≤ g ∨ (g = G_0 ∨ some g = Value.ownBlock V0_0 ∨ some g = Value.ownBlock V0_1 ∨ some g = Value.ownBlock V0_2 ∨ some g = Value.ownBlock V0_3 ∨ some g = Value.ownBlock V0_4), ∃ a16 : OffV u1 u4, ∃ a17 : OffV u1 u7, ∃ a18 : OffV u4 u7, v = .tuple #[] ∧ Blk w' G_0 65 [Seg.cell u1 o2.one, Seg.cell u4 o5.one, Seg.cell u7 o8.one, Seg.cell u10 o11.one, Seg.cell u13 o14.one, (sI r.Since), (sI r.Left), (sI r.Steps)] ∧ Fr (fun j => j = G_0 ∨ some j = Value.ownBlock V0_0 ∨ some j = Value.ownBlock V0_1 ∨ some j = Value.ownBlock V0_2 ∨ some j = Value.ownBlock V0_3 ∨ some j = Value.ownBlock V0_4) w w') := by
 unfold rickyardref05_Device_step.f at h
 have fB : Fr (fun j => j = G_0 ∨ some j = Value.ownBlock V0_0 ∨ some j = Value.ownBlock V0_1 ∨ some j = Value.ownBlock V0_2 ∨ some j = Value.ownBlock V0_3 ∨ some j = Value.ownBlock V0_4) w w := Fr.refl _ _
 have M0_0 : ∀ g, Value.ownBlock V0_0 = some g → w.heap.size ≤ g ∨ (g = G_0 ∨ some g = Value.ownBlock V0_0 ∨ some g = Value.ownBlock V0_1 ∨ some g = Value.ownBlock V0_2 ∨ some g = Value.ownBlock V0_3 ∨ some g = Value.ownBlock V0_4) := fun g hg => .inr (.inr (.inl hg.symm))
 have M0_1 : ∀ g, Value.ownBlock V0_1 = some g → w.heap.size ≤ g ∨ (g = G_0 ∨ some g = Value.ownBlock V0_0 ∨ some g = Value.ownBlock V0_1 ∨ some g = Value.ownBlock V0_2 ∨ some g = Value.ownBlock V0_3 ∨ some g = Value.ownBlock V0_4) := fun g hg => .inr (.inr (.inr (.inl hg.symm)))
 have M0_2 : ∀ g, Value.ownBlock V0_2 = some g → w.heap.size ≤ g ∨ (g = G_0 ∨ some g = Value.ownBlock V0_0 ∨ some g = Value.ownBlock V0_1 ∨ some g = Value.ownBlock V0_2 ∨ some g = Value.ownBlock V0_3 ∨ some g = Value.ownBlock V0_4) := fun g hg => .inr (.inr (.inr (.inr (.inl hg.symm))))
 have M0_3 : ∀ g, Value.ownBlock V0_3 = some g → w.heap.size ≤ g ∨ (g = G_0 ∨ some g = Value.ownBlock V0_0 ∨ some g = Value.ownBlock V0_1 ∨ some g = Value.ownBlock V0_2 ∨ some g = Value.ownBlock V0_3 ∨ some g = Value.ownBlock V0_4) := fun g hg => .inr (.inr (.inr (.inr (.inr (.inl hg.symm)))))
 have M0_4 : ∀ g, Value.ownBlock V0_4 = some g → w.heap.size ≤ g ∨ (g = G_0 ∨ some g = Value.ownBlock V0_0 ∨ some g = Value.ownBlock V0_1 ∨ some g = Value.ownBlock V0_2 ∨ some g = Value.ownBlock V0_3 ∨ some g = Value.ownBlock V0_4) := fun g hg => .inr (.inr (.inr (.inr (.inr (.inr hg.symm)))))
 refine calls_cw Try.func125 rfl Try.ntmps125 rfl ?_
 refine cw_seq ?_
 refine cw_region ?_
 refine ol_val (v := (pt G_0 0)) (xr_move rfl rfl) rfl rfl rfl ?_
 refine ol_val (v := (pt G_0 0)) (xr_nilCheck rfl rfl) rfl rfl rfl ?_
 refine ol_val (v := (pt G_0 0)) (xr_fieldAddr (p := 0) (q := 0) rfl fl65_0 rfl) rfl rfl rfl ?_
 refine ol_val (v := V0_0) (xr_load1 (v := V0_0) rfl ag46 rfl (b_0.seg 0 rfl rfl)) rfl rfl rfl ?_
 refine ol_val (v := .int .i64 (List.length a0.Lasts : Int)) (xr_lenR rfl Try.underlying46 rfl O0_0.rd) rfl rfl rfl ?_
 refine ol_val (v := .int .i64 (List.length a0.Lasts : Int)) (xr_assign rfl rfl) rfl rfl rfl ?_
 refine ol_nil ?_
 refine cw_seq ?_
 refine cw_seq ?_
 refine cw_mid (fun ρ' w' => ρ' 0 = (pt G_0 0) ∧ ρ' 2 = .int .i64 (List.length a0.Lasts : Int) ∧ ρ' 18 = .bool (if (decide ((List.length a0.Plan : Int) > 0)) = true then (decide ((List.length a0.Lasts : Int) > 0)) else false) ∧ w = w') ?_ ?_
 ·skip
  refine cw_region ?_
  refine ol_val (v := (pt G_0 0)) (xr_move rfl rfl) rfl rfl rfl ?_
  refine ol_val (v := (pt G_0 0)) (xr_nilCheck rfl rfl) rfl rfl rfl ?_
  refine ol_val (v := (pt G_0 4)) (xr_fieldAddr (p := 0) (q := 4) rfl fl65_4 rfl) rfl rfl rfl ?_
  refine ol_val (v := V0_4) (xr_load1 (v := V0_4) rfl ag25 rfl (b_0.seg 4 rfl rfl)) rfl rfl rfl ?_
  refine ol_val (v := .int .i64 (List.length a0.Plan : Int)) (xr_lenR rfl Try.underlying25 rfl O0_4.rd) rfl rfl rfl ?_
  refine ol_val (v := .bool (decide ((List.length a0.Plan : Int) > 0))) (xr_gtr rfl rfl rfl) rfl rfl rfl ?_
  refine ol_val (v := .bool (decide ((List.length a0.Plan : Int) > 0))) (xr_move rfl rfl) rfl rfl rfl ?_
  rcases bt (decide ((List.length a0.Plan : Int) > 0)) with c19 | c19
  ·skip
   refine ol_gval (v := .int .i64 (List.length a0.Lasts : Int)) (xr_move rfl rfl) rfl rfl rfl rfl rfl c19 ?_
   refine ol_gval (v := .bool (decide ((List.length a0.Lasts : Int) > 0))) (xr_gtr rfl rfl rfl) rfl rfl rfl rfl rfl c19 ?_
   refine ol_val (v := .bool (decide ((List.length a0.Lasts : Int) > 0))) (xr_pickT rfl rfl c19 rfl) rfl rfl rfl ?_
   refine ol_nil ?_
   refine thn_i ?_
   exact ⟨rfl, rfl, (rfl).trans (congrArg (fun z => (.bool z : Value)) (show (decide ((List.length a0.Lasts : Int) > 0)) = (if (decide ((List.length a0.Plan : Int) > 0)) = true then (decide ((List.length a0.Lasts : Int) > 0)) else false) from by rw [ite_t c19])), rfl⟩
  refine ol_gskip rfl rfl rfl rfl rfl c19 ?_
  refine ol_gskip rfl rfl rfl rfl rfl c19 ?_
  refine ol_val (v := .bool false) (xr_pickF rfl rfl c19 rfl) rfl rfl rfl ?_
  refine ol_nil ?_
  refine thn_i ?_
  exact ⟨rfl, rfl, (rfl).trans (congrArg (fun z => (.bool z : Value)) (show false = (if (decide ((List.length a0.Plan : Int) > 0)) = true then (decide ((List.length a0.Lasts : Int) > 0)) else false) from by rw [ite_f c19])), rfl⟩
 rintro ρ20 _ ⟨e0, e2, e18, rfl⟩
 obtain ⟨x21, j22, h23⟩ := bs h
 refine cw_mid (fun ρ' w' => ∃ v24 : Value, ∃ v28 : Value, ∃ v32 : Value, ∃ v36 : Value, ∃ v40 : Value, ∃ o25 : Own (kI .u64) 22 w' 0 v24 x21.1, ∃ o29 : Own (kI .u64) 22 w' 0 v28 x21.2.1, ∃ o33 : Own (kI .u64) 22 w' 0 v32 x21.2.2.1, ∃ o37 : Own kB 4 w' 0 v36 x21.2.2.2.1, ∃ o41 : Own (kI .i64) 3 w' 0 v40 x21.2.2.2.2.1, ∃ m27 : ∀ g, Value.ownBlock v24 = some g → w.heap.size ≤ g ∨ (g = G_0 ∨ some g = Value.ownBlock V0_0 ∨ some g = Value.ownBlock V0_1 ∨ some g = Value.ownBlock V0_2 ∨ some g = Value.ownBlock V0_3 ∨ some g = Value.ownBlock V0_4), ∃ m31 : ∀ g, Value.ownBlock v28 = some g → w.heap.size ≤ g ∨ (g = G_0 ∨ some g = Value.ownBlock V0_0 ∨ some g = Value.ownBlock V0_1 ∨ some g = Value.ownBlock V0_2 ∨ some g = Value.ownBlock V0_3 ∨ some g = Value.ownBlock V0_4), ∃ m35 : ∀ g, Value.ownBlock v32 = some g → w.heap.size ≤ g ∨ (g = G_0 ∨ some g = Value.ownBlock V0_0 ∨ some g = Value.ownBlock V0_1 ∨ some g = Value.ownBlock V0_2 ∨ some g = Value.ownBlock V0_3 ∨ some g = Value.ownBlock V0_4), ∃ m39 : ∀ g, Value.ownBlock v36 = some g → w.heap.size ≤ g ∨ (g = G_0 ∨ some g = Value.ownBlock V0_0 ∨ some g = Value.ownBlock V0_1 ∨ some g = Value.ownBlock V0_2 ∨ some g = Value.ownBlock V0_3 ∨ some g = Value.ownBlock V0_4), ∃ m43 : ∀ g, Value.ownBlock v40 = some g → w.heap.size ≤ g ∨ (g = G_0 ∨ some g = Value.ownBlock V0_0 ∨ some g = Value.ownBlock V0_1 ∨ some g = Value.ownBlock V0_2 ∨ some g = Value.ownBlock V0_3 ∨ some g = Value.ownBlock V0_4), OffV v24 v28 ∧ OffV v24 v32 ∧ OffV v28 v32 ∧ ρ' 0 = (pt G_0 0) ∧ Blk w' G_0 65 [Seg.cell v24 o25.one, Seg.cell v28 o29.one, Seg.cell v32 o33.one, Seg.cell v36 o37.one, Seg.cell v40 o41.one, (sI x21.2.2.2.2.2.1), (sI x21.2.2.2.2.2.2.1), (sI x21.2.2.2.2.2.2.2)] ∧ Fr (fun j => j = G_0 ∨ some j = Value.ownBlock V0_0 ∨ some j = Value.ownBlock V0_1 ∨ some j = Value.ownBlock V0_2 ∨ some j = Value.ownBlock V0_3 ∨ some j = Value.ownBlock V0_4) w w') ?_ ?_
 ·have h := j22
  rcases is h with ⟨c47, h⟩ | ⟨c47, h⟩
  ·refine cw_condT e18 c47 ?_
   refine cw_seq ?_
   obtain ⟨g48, h⟩ := gs h
   refine cw_drawL 14 [fun vz wz => vz = ((pt G_0 0) : Value), fun vz wz => vz = ((pt G_0 0) : Value), fun vz wz => vz = ((pt G_0 4) : Value), fun vz wz => vz = (V0_4 : Value), fun vz wz => vz = ((pt G_0 0) : Value), fun vz wz => vz = ((pt G_0 0) : Value), fun vz wz => vz = ((pt G_0 5) : Value), fun vz wz => vz = (.int .i64 a0.Since : Value), fun vz wz => vz = ((pt G_0 0) : Value), fun vz wz => vz = ((pt G_0 0) : Value), fun vz wz => vz = ((pt G_0 4) : Value), fun vz wz => vz = (V0_4 : Value), fun vz wz => vz = (.int .i64 (List.length a0.Plan : Int) : Value), fun vz wz => vz = (.int .i64 (Int.tmod a0.Since (List.length a0.Plan : Int)) : Value)] mo rfl ⟨fun _ _ _ h _ => h, fun _ _ _ h _ => h, fun _ _ _ h _ => h, fun _ _ _ h _ => h, fun _ _ _ h _ => h, fun _ _ _ h _ => h, fun _ _ _ h _ => h, fun _ _ _ h _ => h, fun _ _ _ h _ => h, fun _ _ _ h _ => h, fun _ _ _ h _ => h, fun _ _ _ h _ => h, fun _ _ _ h _ => h, fun _ _ _ h _ => h, trivial⟩ ?_ ?_
   ·refine ⟨?_, ?_, ?_, ?_, ?_, ?_, ?_, ?_, ?_, ?_, ?_, ?_, ?_, ?_, trivial⟩
    ·intro ρz wz hz hk hd
     exact sk_val (v := (pt G_0 0)) (xr_move rfl ((hk 0 rfl).trans e0)) rfl rfl
    ·intro ρz wz hz hk hd
     exact sk_val (v := (pt G_0 0)) (xr_nilCheck rfl (hd 0 rfl 19 rfl)) rfl rfl
    ·intro ρz wz hz hk hd
     exact sk_val (v := (pt G_0 4)) (xr_fieldAddr (p := 0) (q := 4) rfl fl65_4 (hd 1 rfl 20 rfl)) rfl rfl
    ·intro ρz wz hz hk hd
     exact sk_val (v := V0_4) (xr_load1 (v := V0_4) rfl ag25 (hd 2 rfl 21 rfl) ((b_0.gr hz).seg 4 rfl rfl)) rfl rfl
    ·intro ρz wz hz hk hd
     exact sk_val (v := (pt G_0 0)) (xr_move rfl ((hk 0 rfl).trans e0)) rfl rfl
    ·intro ρz wz hz hk hd
     exact sk_val (v := (pt G_0 0)) (xr_nilCheck rfl (hd 4 rfl 23 rfl)) rfl rfl
    ·intro ρz wz hz hk hd
     exact sk_val (v := (pt G_0 5)) (xr_fieldAddr (p := 0) (q := 5) rfl fl65_5 (hd 5 rfl 24 rfl)) rfl rfl
    ·intro ρz wz hz hk hd
     exact sk_val (v := .int .i64 a0.Since) (xr_load1 (v := .int .i64 a0.Since) rfl ag3 (hd 6 rfl 25 rfl) ((b_0.gr hz).seg 5 rfl rfl)) rfl rfl
    ·intro ρz wz hz hk hd
     exact sk_val (v := (pt G_0 0)) (xr_move rfl ((hk 0 rfl).trans e0)) rfl rfl
    ·intro ρz wz hz hk hd
     exact sk_val (v := (pt G_0 0)) (xr_nilCheck rfl (hd 8 rfl 27 rfl)) rfl rfl
    ·intro ρz wz hz hk hd
     exact sk_val (v := (pt G_0 4)) (xr_fieldAddr (p := 0) (q := 4) rfl fl65_4 (hd 9 rfl 28 rfl)) rfl rfl
    ·intro ρz wz hz hk hd
     exact sk_val (v := V0_4) (xr_load1 (v := V0_4) rfl ag25 (hd 10 rfl 29 rfl) ((b_0.gr hz).seg 4 rfl rfl)) rfl rfl
    ·intro ρz wz hz hk hd
     exact sk_val (v := .int .i64 (List.length a0.Plan : Int)) (xr_lenR rfl Try.underlying25 (hd 11 rfl 30 rfl) (O0_4.gr hz).rd) rfl rfl
    intro ρz wz hz hk hd
    exact sk_val (v := .int .i64 (Int.tmod a0.Since (List.length a0.Plan : Int))) (xr_rem rfl (hd 7 rfl 26 rfl) (hd 12 rfl 31 rfl) g48) rfl rfl
   intro ρ49 w50 q51 hk hd
   have e0 := (hk 0 rfl).trans e0
   have e2 := (hk 2 rfl).trans e2
   have e22 := hd 3 rfl 22 rfl
   have e32 := hd 13 rfl 32 rfl
   have b_0 := b_0.gr q51
   have O0_0 := O0_0.gr q51
   have O0_1 := O0_1.gr q51
   have O0_2 := O0_2.gr q51
   have O0_3 := O0_3.gr q51
   have O0_4 := O0_4.gr q51
   have fB := fB.gr q51
   obtain ⟨g52, h⟩ := gs h
   refine ol_val (v := (pt ((sb V0_4)) (so V0_4 + Int.toNat (Int.tmod a0.Since (List.length a0.Plan : Int)) * 1))) (xr_indexR (K := (kI .i64)) (v := V0_4) rfl Try.underlying25 sz3 e22 O0_4.rd e32 g52.1 g52.2) rfl rfl rfl ?_
   refine ol_val (v := .int .i64 (ix a0.Plan (Int.tmod a0.Since (List.length a0.Plan : Int)))) (xr_load1 (v := .int .i64 (ix a0.Plan (Int.tmod a0.Since (List.length a0.Plan : Int)))) rfl ag3 rfl (O0_4.rd.elem g52.1 g52.2)) rfl rfl rfl ?_
   refine ol_val (v := .int .i64 (ix a0.Plan (Int.tmod a0.Since (List.length a0.Plan : Int)))) (xr_assign rfl rfl) rfl rfl rfl ?_
   refine ol_nil ?_
   refine cw_seq ?_
   refine cw_region ?_
   refine ol_val (v := .int .i64 (ix a0.Plan (Int.tmod a0.Since (List.length a0.Plan : Int)))) (xr_move rfl rfl) rfl rfl rfl ?_
   refine ol_val (v := .bool (decide ((ix a0.Plan (Int.tmod a0.Since (List.length a0.Plan : Int))) ≥ 0))) (xr_geq rfl rfl rfl) rfl rfl rfl ?_
   refine ol_nil ?_
   obtain ⟨x53, j54, h55⟩ := bs h
   refine cw_mid (fun ρ' w' => ∃ v56 : Value, ∃ v60 : Value, ∃ v64 : Value, ∃ v68 : Value, ∃ v72 : Value, ∃ o57 : Own (kI .u64) 22 w' 0 v56 x53.1, ∃ o61 : Own (kI .u64) 22 w' 0 v60 x53.2.1, ∃ o65 : Own (kI .u64) 22 w' 0 v64 x53.2.2.1, ∃ o69 : Own kB 4 w' 0 v68 x53.2.2.2.1, ∃ o73 : Own (kI .i64) 3 w' 0 v72 x53.2.2.2.2.1, ∃ m59 : ∀ g, Value.ownBlock v56 = some g → w.heap.size ≤ g ∨ (g = G_0 ∨ some g = Value.ownBlock V0_0 ∨ some g = Value.ownBlock V0_1 ∨ some g = Value.ownBlock V0_2 ∨ some g = Value.ownBlock V0_3 ∨ some g = Value.ownBlock V0_4), ∃ m63 : ∀ g, Value.ownBlock v60 = some g → w.heap.size ≤ g ∨ (g = G_0 ∨ some g = Value.ownBlock V0_0 ∨ some g = Value.ownBlock V0_1 ∨ some g = Value.ownBlock V0_2 ∨ some g = Value.ownBlock V0_3 ∨ some g = Value.ownBlock V0_4), ∃ m67 : ∀ g, Value.ownBlock v64 = some g → w.heap.size ≤ g ∨ (g = G_0 ∨ some g = Value.ownBlock V0_0 ∨ some g = Value.ownBlock V0_1 ∨ some g = Value.ownBlock V0_2 ∨ some g = Value.ownBlock V0_3 ∨ some g = Value.ownBlock V0_4), ∃ m71 : ∀ g, Value.ownBlock v68 = some g → w.heap.size ≤ g ∨ (g = G_0 ∨ some g = Value.ownBlock V0_0 ∨ some g = Value.ownBlock V0_1 ∨ some g = Value.ownBlock V0_2 ∨ some g = Value.ownBlock V0_3 ∨ some g = Value.ownBlock V0_4), ∃ m75 : ∀ g, Value.ownBlock v72 = some g → w.heap.size ≤ g ∨ (g = G_0 ∨ some g = Value.ownBlock V0_0 ∨ some g = Value.ownBlock V0_1 ∨ some g = Value.ownBlock V0_2 ∨ some g = Value.ownBlock V0_3 ∨ some g = Value.ownBlock V0_4), OffV v56 v60 ∧ OffV v56 v64 ∧ OffV v60 v64 ∧ ρ' 0 = (pt G_0 0) ∧ Blk w' G_0 65 [Seg.cell v56 o57.one, Seg.cell v60 o61.one, Seg.cell v64 o65.one, Seg.cell v68 o69.one, Seg.cell v72 o73.one, (sI x53.2.2.2.2.2.1), (sI x53.2.2.2.2.2.2.1), (sI x53.2.2.2.2.2.2.2)] ∧ Fr (fun j => j = G_0 ∨ some j = Value.ownBlock V0_0 ∨ some j = Value.ownBlock V0_1 ∨ some j = Value.ownBlock V0_2 ∨ some j = Value.ownBlock V0_3 ∨ some j = Value.ownBlock V0_4) w w') ?_ ?_
   ·have h := j54
    rcases is h with ⟨c79, h⟩ | ⟨c79, h⟩
    ·refine cw_condT rfl c79 ?_
     obtain ⟨g80, h⟩ := gs h
     obtain ⟨g81, h⟩ := gs h
     obtain ⟨g82, h⟩ := gs h
     refine cw_drawL 13 [fun vz wz => vz = ((pt G_0 0) : Value), fun vz wz => vz = (.int .i64 (ix a0.Plan (Int.tmod a0.Since (List.length a0.Plan : Int))) : Value), fun vz wz => vz = (.int .i64 (List.length a0.Lasts : Int) : Value), fun vz wz => vz = (.int .i64 (Int.tmod (ix a0.Plan (Int.tmod a0.Since (List.length a0.Plan : Int))) (List.length a0.Lasts : Int)) : Value), fun vz wz => vz = ((pt G_0 0) : Value), fun vz wz => vz = ((pt G_0 0) : Value), fun vz wz => vz = ((pt G_0 1) : Value), fun vz wz => vz = (V0_1 : Value), fun vz wz => vz = (.int .i64 (ix a0.Plan (Int.tmod a0.Since (List.length a0.Plan : Int))) : Value), fun vz wz => vz = (.int .i64 (List.length a0.Lasts : Int) : Value), fun vz wz => vz = (.int .i64 (Int.tmod (ix a0.Plan (Int.tmod a0.Since (List.length a0.Plan : Int))) (List.length a0.Lasts : Int)) : Value), fun vz wz => vz = ((pt ((sb V0_1)) (so V0_1 + Int.toNat (Int.tmod (ix a0.Plan (Int.tmod a0.Since (List.length a0.Plan : Int))) (List.length a0.Lasts : Int)) * 1)) : Value), fun vz wz => vz = (.int .u64 (ix a0.Stored (Int.tmod (ix a0.Plan (Int.tmod a0.Since (List.length a0.Plan : Int))) (List.length a0.Lasts : Int))) : Value)] mo rfl ⟨fun _ _ _ h _ => h, fun _ _ _ h _ => h, fun _ _ _ h _ => h, fun _ _ _ h _ => h, fun _ _ _ h _ => h, fun _ _ _ h _ => h, fun _ _ _ h _ => h, fun _ _ _ h _ => h, fun _ _ _ h _ => h, fun _ _ _ h _ => h, fun _ _ _ h _ => h, fun _ _ _ h _ => h, fun _ _ _ h _ => h, trivial⟩ ?_ ?_
     ·refine ⟨?_, ?_, ?_, ?_, ?_, ?_, ?_, ?_, ?_, ?_, ?_, ?_, ?_, trivial⟩
      ·intro ρz wz hz hk hd
       exact sk_val (v := (pt G_0 0)) (xr_move rfl ((hk 0 rfl).trans e0)) rfl rfl
      ·intro ρz wz hz hk hd
       exact sk_val (xr_move rfl ((hk 3 rfl).trans rfl)) rfl rfl
      ·intro ρz wz hz hk hd
       exact sk_val (v := .int .i64 (List.length a0.Lasts : Int)) (xr_move rfl ((hk 2 rfl).trans e2)) rfl rfl
      ·intro ρz wz hz hk hd
       exact sk_val (xr_rem rfl (hd 1 rfl 38 rfl) (hd 2 rfl 39 rfl) g80) rfl rfl
      ·intro ρz wz hz hk hd
       exact sk_val (v := (pt G_0 0)) (xr_move rfl ((hk 0 rfl).trans e0)) rfl rfl
      ·intro ρz wz hz hk hd
       exact sk_val (v := (pt G_0 0)) (xr_nilCheck rfl (hd 4 rfl 41 rfl)) rfl rfl
      ·intro ρz wz hz hk hd
       exact sk_val (v := (pt G_0 1)) (xr_fieldAddr (p := 0) (q := 1) rfl fl65_1 (hd 5 rfl 42 rfl)) rfl rfl
      ·intro ρz wz hz hk hd
       exact sk_val (v := V0_1) (xr_load1 (v := V0_1) rfl ag46 (hd 6 rfl 43 rfl) ((b_0.gr hz).seg 1 rfl rfl)) rfl rfl
      ·intro ρz wz hz hk hd
       exact sk_val (xr_move rfl ((hk 3 rfl).trans rfl)) rfl rfl
      ·intro ρz wz hz hk hd
       exact sk_val (v := .int .i64 (List.length a0.Lasts : Int)) (xr_move rfl ((hk 2 rfl).trans e2)) rfl rfl
      ·intro ρz wz hz hk hd
       exact sk_val (xr_rem rfl (hd 8 rfl 45 rfl) (hd 9 rfl 46 rfl) g81) rfl rfl
      ·intro ρz wz hz hk hd
       exact sk_val (xr_indexR (K := (kI .u64)) (v := V0_1) rfl Try.underlying46 sz22 (hd 7 rfl 44 rfl) (O0_1.gr hz).rd (hd 10 rfl 47 rfl) g82.1 g82.2) rfl rfl
      intro ρz wz hz hk hd
      exact sk_val (xr_load1 (v := .int .u64 (ix a0.Stored (Int.tmod (ix a0.Plan (Int.tmod a0.Since (List.length a0.Plan : Int))) (List.length a0.Lasts : Int)))) rfl ag22 (hd 11 rfl 48 rfl) ((O0_1.gr hz).rd.elem g82.1 g82.2)) rfl rfl
     intro ρ83 w84 q85 hk hd
     have e0 := (hk 0 rfl).trans e0
     have e37 := hd 0 rfl 37 rfl
     have e40 := hd 3 rfl 40 rfl
     have e49 := hd 12 rfl 49 rfl
     have b_0 := b_0.gr q85
     have O0_0 := O0_0.gr q85
     have O0_1 := O0_1.gr q85
     have O0_2 := O0_2.gr q85
     have O0_3 := O0_3.gr q85
     have O0_4 := O0_4.gr q85
     have fB := fB.gr q85
     obtain ⟨t86, k87, h⟩ := bs h
     have c112 : ∀ k, (k = G_0 ∨ some k = Value.ownBlock V0_0 ∨ some k = Value.ownBlock V0_1 ∨ some k = Value.ownBlock V0_2 ∨ some k = Value.ownBlock V0_3 ∨ some k = Value.ownBlock V0_4) → (w.heap.size ≤ k ∨ (k = G_0 ∨ some k = Value.ownBlock V0_0 ∨ some k = Value.ownBlock V0_1 ∨ some k = Value.ownBlock V0_2 ∨ some k = Value.ownBlock V0_3 ∨ some k = Value.ownBlock V0_4)) := (cv_or (cv_eq (.inr (.inl rfl))) (cv_or (cv_own M0_0) (cv_or (cv_own M0_1) (cv_or (cv_own M0_2) (cv_or (cv_own M0_3) (cv_own M0_4))))))
     refine ol_op (opv_call rfl cal126 (ac e37 (ac e40 (ac e49 an))) (rickyardref05_Device_last.ok fu _ a0 G_0 V0_0 (Own.base O0_0 (Nat.zero_le _)) V0_1 (Own.base O0_1 (Nat.zero_le _)) V0_2 (Own.base O0_2 (Nat.zero_le _)) V0_3 (Own.base O0_3 (Nat.zero_le _)) V0_4 (Own.base O0_4 (Nat.zero_le _)) b_0 (Int.tmod (ix a0.Plan (Int.tmod a0.Since (List.length a0.Plan : Int))) (List.length a0.Lasts : Int)) (ix a0.Stored (Int.tmod (ix a0.Plan (Int.tmod a0.Since (List.length a0.Plan : Int))) (List.length a0.Lasts : Int))) A_R0_0_R0_1 A_R0_0_R0_2 A_R0_1_R0_2 _ k87)) rfl rfl rfl ?_
     rintro _ w113 ⟨u89, u93, u97, u101, u105, o90, m91, o94, m95, o98, m99, o102, m103, o106, m107, a109, a110, a111, rfl, b_0, q88⟩
     have m91 : ∀ g, Value.ownBlock u89 = some g → w.heap.size ≤ g ∨ (g = G_0 ∨ some g = Value.ownBlock V0_0 ∨ some g = Value.ownBlock V0_1 ∨ some g = Value.ownBlock V0_2 ∨ some g = Value.ownBlock V0_3 ∨ some g = Value.ownBlock V0_4) := fun g hg => (m91 g hg).elim (fun x => .inl (Nat.le_trans fB.size x)) (c112 g)
     have m95 : ∀ g, Value.ownBlock u93 = some g → w.heap.size ≤ g ∨ (g = G_0 ∨ some g = Value.ownBlock V0_0 ∨ some g = Value.ownBlock V0_1 ∨ some g = Value.ownBlock V0_2 ∨ some g = Value.ownBlock V0_3 ∨ some g = Value.ownBlock V0_4) := fun g hg => (m95 g hg).elim (fun x => .inl (Nat.le_trans fB.size x)) (c112 g)
     have m99 : ∀ g, Value.ownBlock u97 = some g → w.heap.size ≤ g ∨ (g = G_0 ∨ some g = Value.ownBlock V0_0 ∨ some g = Value.ownBlock V0_1 ∨ some g = Value.ownBlock V0_2 ∨ some g = Value.ownBlock V0_3 ∨ some g = Value.ownBlock V0_4) := fun g hg => (m99 g hg).elim (fun x => .inl (Nat.le_trans fB.size x)) (c112 g)
     have m103 : ∀ g, Value.ownBlock u101 = some g → w.heap.size ≤ g ∨ (g = G_0 ∨ some g = Value.ownBlock V0_0 ∨ some g = Value.ownBlock V0_1 ∨ some g = Value.ownBlock V0_2 ∨ some g = Value.ownBlock V0_3 ∨ some g = Value.ownBlock V0_4) := fun g hg => (m103 g hg).elim (fun x => .inl (Nat.le_trans fB.size x)) (c112 g)
     have m107 : ∀ g, Value.ownBlock u105 = some g → w.heap.size ≤ g ∨ (g = G_0 ∨ some g = Value.ownBlock V0_0 ∨ some g = Value.ownBlock V0_1 ∨ some g = Value.ownBlock V0_2 ∨ some g = Value.ownBlock V0_3 ∨ some g = Value.ownBlock V0_4) := fun g hg => (m107 g hg).elim (fun x => .inl (Nat.le_trans fB.size x)) (c112 g)
     have fB := fB.call q88 c112
     refine ol_nil ?_
     obtain rfl := Option.some.inj h
     refine thn_i ?_
     exact ⟨u89, u93, u97, u101, u105, o90, o94, o98, o102, o106, m91, m95, m99, m103, m107, a109, a110, a111, e0, b_0, fB⟩
    refine cw_condF rfl c79 ?_
    refine cw_skip ?_
    obtain rfl := Option.some.inj h
    refine thn_i ?_
    exact ⟨V0_0, V0_1, V0_2, V0_3, V0_4, O0_0, O0_1, O0_2, O0_3, O0_4, M0_0, M0_1, M0_2, M0_3, M0_4, A_R0_0_R0_1, A_R0_0_R0_2, A_R0_1_R0_2, e0, b_0, fB⟩
   rintro ρ114 w115 ⟨v56, v60, v64, v68, v72, o57, o61, o65, o69, o73, m59, m63, m67, m71, m75, a76, a77, a78, e0, b_0, fB⟩
   have h := h55
   obtain rfl := Option.some.inj h
   refine thn_i ?_
   exact ⟨v56, v60, v64, v68, v72, o57, o61, o65, o69, o73, m59, m63, m67, m71, m75, a76, a77, a78, e0, b_0, fB⟩
  refine cw_condF e18 c47 ?_
  refine cw_skip ?_
  obtain rfl := Option.some.inj h
  refine thn_i ?_
  exact ⟨V0_0, V0_1, V0_2, V0_3, V0_4, O0_0, O0_1, O0_2, O0_3, O0_4, M0_0, M0_1, M0_2, M0_3, M0_4, A_R0_0_R0_1, A_R0_0_R0_2, A_R0_1_R0_2, e0, b_0, fB⟩
 rintro ρ116 w117 ⟨v24, v28, v32, v36, v40, o25, o29, o33, o37, o41, m27, m31, m35, m39, m43, a44, a45, a46, e0, b_0, fB⟩
 have h := h23
 refine cw_seq ?_
 refine cw_region ?_
 refine ol_val (v := (pt G_0 0)) (xr_move rfl e0) rfl rfl rfl ?_
 refine ol_val (v := (pt G_0 0)) (xr_nilCheck rfl rfl) rfl rfl rfl ?_
 refine ol_val (v := (pt G_0 5)) (xr_fieldAddr (p := 0) (q := 5) rfl fl65_5 rfl) rfl rfl rfl ?_
 refine ol_val (v := .int .i64 x21.2.2.2.2.2.1) (xr_load1 (v := .int .i64 x21.2.2.2.2.2.1) rfl ag3 rfl (b_0.seg 5 rfl rfl)) rfl rfl rfl ?_
 refine ol_val (v := .int .i64 (IntKind.i64.wrap (x21.2.2.2.2.2.1 + 1))) (xr_add rfl rfl rfl) rfl rfl rfl ?_
 refine ol_val (v := (pt G_0 0)) (xr_nilCheck rfl rfl) rfl rfl rfl ?_
 refine ol_val (v := (pt G_0 5)) (xr_fieldAddr (p := 0) (q := 5) rfl fl65_5 rfl) rfl rfl rfl ?_
 have f119 := off_ty b_0 o25 (by decide)
 have f120 := off_ty b_0 o29 (by decide)
 have f121 := off_ty b_0 o33 (by decide)
 have f122 := off_ty b_0 o37 (by decide)
 have f123 := off_ty b_0 o41 (by decide)
 refine ol_op0 (opv_store (ss' := [Seg.cell v24 o25.one, Seg.cell v28 o29.one, Seg.cell v32 o33.one, Seg.cell v36 o37.one, Seg.cell v40 o41.one, (sI (IntKind.i64.wrap (x21.2.2.2.2.2.1 + 1))), (sI x21.2.2.2.2.2.2.1), (sI x21.2.2.2.2.2.2.2)]) (xs := cellsOf [(sI (IntKind.i64.wrap (x21.2.2.2.2.2.1 + 1)))]) rfl sz3 rfl rfl rfl (len_cellsOf _) (one_cellsOf _) b_0 (Spl.segs _ 5 1 [(sI (IntKind.i64.wrap (x21.2.2.2.2.2.1 + 1)))] rfl rfl)) rfl rfl ?_
 rintro _ w124 ⟨b_0, q118⟩
 have o25 := o25.wr q118 f119
 have o29 := o29.wr q118 f120
 have o33 := o33.wr q118 f121
 have o37 := o37.wr q118 f122
 have o41 := o41.wr q118 f123
 have fB := fB.wrS q118 (.inl rfl)
 refine ol_nil ?_
 refine cw_seq ?_
 refine cw_region ?_
 refine ol_val (v := (pt G_0 0)) (xr_move rfl e0) rfl rfl rfl ?_
 refine ol_val (v := (pt G_0 0)) (xr_nilCheck rfl rfl) rfl rfl rfl ?_
 refine ol_val (v := (pt G_0 7)) (xr_fieldAddr (p := 0) (q := 7) rfl fl65_7 rfl) rfl rfl rfl ?_
 refine ol_val (v := .int .i64 x21.2.2.2.2.2.2.2) (xr_load1 (v := .int .i64 x21.2.2.2.2.2.2.2) rfl ag3 rfl (b_0.seg 7 rfl rfl)) rfl rfl rfl ?_
 refine ol_val (v := .int .i64 (IntKind.i64.wrap (x21.2.2.2.2.2.2.2 + 1))) (xr_add rfl rfl rfl) rfl rfl rfl ?_
 refine ol_val (v := (pt G_0 0)) (xr_nilCheck rfl rfl) rfl rfl rfl ?_
 refine ol_val (v := (pt G_0 7)) (xr_fieldAddr (p := 0) (q := 7) rfl fl65_7 rfl) rfl rfl rfl ?_
 have f126 := off_ty b_0 o25 (by decide)
 have f127 := off_ty b_0 o29 (by decide)
 have f128 := off_ty b_0 o33 (by decide)
 have f129 := off_ty b_0 o37 (by decide)
 have f130 := off_ty b_0 o41 (by decide)
 refine ol_op0 (opv_store (ss' := [Seg.cell v24 o25.one, Seg.cell v28 o29.one, Seg.cell v32 o33.one, Seg.cell v36 o37.one, Seg.cell v40 o41.one, (sI (IntKind.i64.wrap (x21.2.2.2.2.2.1 + 1))), (sI x21.2.2.2.2.2.2.1), (sI (IntKind.i64.wrap (x21.2.2.2.2.2.2.2 + 1)))]) (xs := cellsOf [(sI (IntKind.i64.wrap (x21.2.2.2.2.2.2.2 + 1)))]) rfl sz3 rfl rfl rfl (len_cellsOf _) (one_cellsOf _) b_0 (Spl.segs _ 7 1 [(sI (IntKind.i64.wrap (x21.2.2.2.2.2.2.2 + 1)))] rfl rfl)) rfl rfl ?_
 rintro _ w131 ⟨b_0, q125⟩
 have o25 := o25.wr q125 f126
 have o29 := o29.wr q125 f127
 have o33 := o33.wr q125 f128
 have o37 := o37.wr q125 f129
 have o41 := o41.wr q125 f130
 have fB := fB.wrS q125 (.inl rfl)
 refine ol_nil ?_
 refine cw_seq ?_
 refine cw_region ?_
 refine ol_val (v := (pt G_0 0)) (xr_move rfl e0) rfl rfl rfl ?_
 refine ol_val (v := (pt G_0 0)) (xr_nilCheck rfl rfl) rfl rfl rfl ?_
 refine ol_val (v := (pt G_0 6)) (xr_fieldAddr (p := 0) (q := 6) rfl fl65_6 rfl) rfl rfl rfl ?_
 refine ol_val (v := .int .i64 x21.2.2.2.2.2.2.1) (xr_load1 (v := .int .i64 x21.2.2.2.2.2.2.1) rfl ag3 rfl (b_0.seg 6 rfl rfl)) rfl rfl rfl ?_
 refine ol_val (v := .bool (decide (x21.2.2.2.2.2.2.1 > 0))) (xr_gtr rfl rfl rfl) rfl rfl rfl ?_
 refine ol_nil ?_
 obtain ⟨x132, j133, h134⟩ := bs h
 refine cw_mid (fun ρ' w' => ∃ o25 : Own (kI .u64) 22 w' 0 v24 x21.1, ∃ o29 : Own (kI .u64) 22 w' 0 v28 x21.2.1, ∃ o33 : Own (kI .u64) 22 w' 0 v32 x21.2.2.1, ∃ o37 : Own kB 4 w' 0 v36 x21.2.2.2.1, ∃ o41 : Own (kI .i64) 3 w' 0 v40 x21.2.2.2.2.1, ∃ m27 : ∀ g, Value.ownBlock v24 = some g → w.heap.size ≤ g ∨ (g = G_0 ∨ some g = Value.ownBlock V0_0 ∨ some g = Value.ownBlock V0_1 ∨ some g = Value.ownBlock V0_2 ∨ some g = Value.ownBlock V0_3 ∨ some g = Value.ownBlock V0_4), ∃ m31 : ∀ g, Value.ownBlock v28 = some g → w.heap.size ≤ g ∨ (g = G_0 ∨ some g = Value.ownBlock V0_0 ∨ some g = Value.ownBlock V0_1 ∨ some g = Value.ownBlock V0_2 ∨ some g = Value.ownBlock V0_3 ∨ some g = Value.ownBlock V0_4), ∃ m35 : ∀ g, Value.ownBlock v32 = some g → w.heap.size ≤ g ∨ (g = G_0 ∨ some g = Value.ownBlock V0_0 ∨ some g = Value.ownBlock V0_1 ∨ some g = Value.ownBlock V0_2 ∨ some g = Value.ownBlock V0_3 ∨ some g = Value.ownBlock V0_4), ∃ m39 : ∀ g, Value.ownBlock v36 = some g → w.heap.size ≤ g ∨ (g = G_0 ∨ some g = Value.ownBlock V0_0 ∨ some g = Value.ownBlock V0_1 ∨ some g = Value.ownBlock V0_2 ∨ some g = Value.ownBlock V0_3 ∨ some g = Value.ownBlock V0_4), ∃ m43 : ∀ g, Value.ownBlock v40 = some g → w.heap.size ≤ g ∨ (g = G_0 ∨ some g = Value.ownBlock V0_0 ∨ some g = Value.ownBlock V0_1 ∨ some g = Value.ownBlock V0_2 ∨ some g = Value.ownBlock V0_3 ∨ some g = Value.ownBlock V0_4), Blk w' G_0 65 [Seg.cell v24 o25.one, Seg.cell v28 o29.one, Seg.cell v32 o33.one, Seg.cell v36 o37.one, Seg.cell v40 o41.one, (sI (IntKind.i64.wrap (x21.2.2.2.2.2.1 + 1))), (sI x132), (sI (IntKind.i64.wrap (x21.2.2.2.2.2.2.2 + 1)))] ∧ Fr (fun j => j = G_0 ∨ some j = Value.ownBlock V0_0 ∨ some j = Value.ownBlock V0_1 ∨ some j = Value.ownBlock V0_2 ∨ some j = Value.ownBlock V0_3 ∨ some j = Value.ownBlock V0_4) w w') ?_ ?_
 ·have h := j133
  rcases is h with ⟨c135, h⟩ | ⟨c135, h⟩
  ·refine cw_condT rfl c135 ?_
   refine cw_region ?_
   refine ol_val (v := (pt G_0 0)) (xr_move rfl e0) rfl rfl rfl ?_
   refine ol_val (v := (pt G_0 0)) (xr_move rfl e0) rfl rfl rfl ?_
   refine ol_val (v := (pt G_0 0)) (xr_nilCheck rfl rfl) rfl rfl rfl ?_
   refine ol_val (v := (pt G_0 6)) (xr_fieldAddr (p := 0) (q := 6) rfl fl65_6 rfl) rfl rfl rfl ?_
   refine ol_val (v := .int .i64 x21.2.2.2.2.2.2.1) (xr_load1 (v := .int .i64 x21.2.2.2.2.2.2.1) rfl ag3 rfl (b_0.seg 6 rfl rfl)) rfl rfl rfl ?_
   refine ol_val (v := .int .i64 (IntKind.i64.wrap (x21.2.2.2.2.2.2.1 - 1))) (xr_sub rfl rfl rfl) rfl rfl rfl ?_
   refine ol_val (v := (pt G_0 0)) (xr_nilCheck rfl rfl) rfl rfl rfl ?_
   refine ol_val (v := (pt G_0 6)) (xr_fieldAddr (p := 0) (q := 6) rfl fl65_6 rfl) rfl rfl rfl ?_
   have f137 := off_ty b_0 o25 (by decide)
   have f138 := off_ty b_0 o29 (by decide)
   have f139 := off_ty b_0 o33 (by decide)
   have f140 := off_ty b_0 o37 (by decide)
   have f141 := off_ty b_0 o41 (by decide)
   refine ol_op0 (opv_store (ss' := [Seg.cell v24 o25.one, Seg.cell v28 o29.one, Seg.cell v32 o33.one, Seg.cell v36 o37.one, Seg.cell v40 o41.one, (sI (IntKind.i64.wrap (x21.2.2.2.2.2.1 + 1))), (sI (IntKind.i64.wrap (x21.2.2.2.2.2.2.1 - 1))), (sI (IntKind.i64.wrap (x21.2.2.2.2.2.2.2 + 1)))]) (xs := cellsOf [(sI (IntKind.i64.wrap (x21.2.2.2.2.2.2.1 - 1)))]) rfl sz3 rfl rfl rfl (len_cellsOf _) (one_cellsOf _) b_0 (Spl.segs _ 6 1 [(sI (IntKind.i64.wrap (x21.2.2.2.2.2.2.1 - 1)))] rfl rfl)) rfl rfl ?_
   rintro _ w142 ⟨b_0, q136⟩
   have o25 := o25.wr q136 f137
   have o29 := o29.wr q136 f138
   have o33 := o33.wr q136 f139
   have o37 := o37.wr q136 f140
   have o41 := o41.wr q136 f141
   have fB := fB.wrS q136 (.inl rfl)
   refine ol_nil ?_
   obtain rfl := Option.some.inj h
   refine thn_i ?_
   exact ⟨o25, o29, o33, o37, o41, m27, m31, m35, m39, m43, b_0, fB⟩
  refine cw_condF rfl c135 ?_
  refine cw_skip ?_
  obtain rfl := Option.some.inj h
  refine thn_i ?_
  exact ⟨o25, o29, o33, o37, o41, m27, m31, m35, m39, m43, b_0, fB⟩
 rintro ρ143 w144 ⟨o25, o29, o33, o37, o41, m27, m31, m35, m39, m43, b_0, fB⟩
 have h := h134
 obtain rfl := Option.some.inj h
 refine fin_end0 Try.results125 ?_
 exact ⟨_, rfl, v24, v28, v32, v36, v40, o25, m27, o29, m31, o33, m35, o37, m39, o41, m43, a44, a45, a46, rfl, b_0, fB⟩
def rickyardref05_Device_Store.f (fu : Nat) (a0 : S_rickyardref05_Device) (a1 : Int) (a2 : Int) : Option (Int × S_rickyardref05_Device) := ((rickyardref05_Device_error.f fu a0 a1 (List.length a0.Lasts : Int)).bind fun t19 => (((if (decide (t19 = 0)) = true then (if 0 ≤ a1 ∧ a1 < (List.length a0.Stored : Int) then ((rickyardref05_Device_step.f fu (⟨a0.Lasts, (List.set a0.Stored (Int.toNat a1) a2), a0.Sent, a0.Flushed, a0.Plan, a0.Since, a0.Left, a0.Steps⟩ : S_rickyardref05_Device)).bind fun t59 => some (t59.Lasts, t59.Stored, t59.Sent, t59.Flushed, t59.Plan, t59.Since, t59.Left, t59.Steps)) else none) else some (a0.Lasts, a0.Stored, a0.Sent, a0.Flushed, a0.Plan, a0.Since, a0.Left, a0.Steps)) : Option ((List Int) × (List Int) × (List Int) × (List Bool) × (List Int) × Int × Int × Int)).bind fun x23 => some (t19, (⟨x23.1, x23.2.1, x23.2.2.1, x23.2.2.2.1, x23.2.2.2.2.1, x23.2.2.2.2.2.1, x23.2.2.2.2.2.2.1, x23.2.2.2.2.2.2.2⟩ : S_rickyardref05_Device))))
theorem rickyardref05_Device_Store.ok (fu : Nat) (w : World) (a0 : S_rickyardref05_Device) (G_0 : Nat) (V0_0 : Value) (O0_0 : Own (kI .u64) 22 w 0 V0_0 a0.Lasts) (V0_1 : Value) (O0_1 : Own (kI .u64) 22 w 0 V0_1 a0.Stored) (V0_2 : Value) (O0_2 : Own (kI .u64) 22 w 0 V0_2 a0.Sent) (V0_3 : Value) (O0_3 : Own kB 4 w 0 V0_3 a0.Flushed) (V0_4 : Value) (O0_4 : Own (kI .i64) 3 w 0 V0_4 a0.Plan) (b_0 : Blk w G_0 65 [Seg.cell V0_0 O0_0.one, Seg.cell V0_1 O0_1.one, Seg.cell V0_2 O0_2.one, Seg.cell V0_3 O0_3.one, Seg.cell V0_4 O0_4.one, (sI a0.Since), (sI a0.Left), (sI a0.Steps)]) (a1 : Int) (a2 : Int) (A_R0_0_R0_1 : OffV V0_0 V0_1) (A_R0_0_R0_2 : OffV V0_0 V0_2) (A_R0_1_R0_2 : OffV V0_1 V0_2) (r : Int × S_rickyardref05_Device) (h : rickyardref05_Device_Store.f fu a0 a1 a2 = some r) :
  Calls Try.prog 92 (([(pt G_0 0), .int .i64 a1, .int .u64 a2] : List Value).toArray) w (fun e w' => ∃ v, e = .returned v ∧ ∃ u1 : Value, ∃ u4 : Value, ∃ u7 : Value, ∃ u10 : Value, ∃ u13 : Value, ∃ o2 : Own (kI .u64) 22 w' 0 u1 r.2.Lasts, ∃ m3 : ∀ g, Value.ownBlock u1 = some g → w.heap.size ≤ g ∨ (g = G_0 ∨ some g = Value.ownBlock V0_0 ∨ some g = Value.ownBlock V0_1 ∨ some g = Value.ownBlock V0_2 ∨ some g = Value.ownBlock V0_3 ∨ some g = Value.ownBlock V0_4), ∃ o5 : Own (kI .u64) 22 w' 0 u4 r.2.Stored, ∃ m6 : ∀ g, Value.ownBlock u4 = some g → w.heap.size ≤ g ∨ (g = G_0 ∨ some g = Value.ownBlock V0_0 ∨ some g = Value.ownBlock V0_1 ∨ some g = Value.ownBlock V0_2 ∨ some g = Value.ownBlock V0_3 ∨ some g = Value.ownBlock V0_4), ∃ o8 : Own (kI .u64) 22 w' 0 u7 r.2.Sent, ∃ m9 : ∀ g, Value.ownBlock u7 = some g → w.heap.size ≤ g ∨ (g = G_0 ∨ some g = Value.ownBlock V0_0 ∨ some g = Value.ownBlock V0_1 ∨ some g = Value.ownBlock V0_2 ∨ some g = Value.ownBlock V0_3 ∨ some g = Value.ownBlock V0_4), ∃ o11 : Own kB 4 w' 0 u10 r.2.Flushed, ∃ m12 : ∀ g, Value.ownBlock u10 = some g → w.heap.size ≤ g ∨ (g = G_0 ∨ some g = Value.ownBlock V0_0 ∨ some g = Value.ownBlock V0_1 ∨ some g = Value.ownBlock V0_2 ∨ some g = Value.ownBlock V0_3 ∨ some g = Value.ownBlock V0_4), ∃ o14 : Own (kI .i64) 3 w' 0 u13 r.2.Plan, ∃ m15 : ∀ g, Value.ownBlock u13 = some g → w.heap.size ≤ g ∨ (g = G_0 ∨ some g = Value.ownBlock V0_0 ∨ some g = Value.ownBlock V0_1 ∨ some g = Value.ownBlock V0_2 ∨ some g = Value.ownBlock V0_3 ∨ some g = Value.ownBlock V0_4), ∃ a16 : OffV u1 u4, ∃ a17 : OffV u1 u7, ∃ a18 : OffV u4 u7, v = .int .i64 r.1 ∧ Blk w' G_0 65 [Seg.cell u1 o2.one, Seg.cell u4 o5.one, Seg.cell u7 o8.one, Seg.cell u10 o11.one, Seg.cell u13 o14.one, (sI r.2.Since), (sI r.2.Left), (sI r.2.Steps)] ∧ Fr (fun j => j = G_0 ∨ some j = Value.ownBlock V0_0 ∨ some j = Value.ownBlock V0_1 ∨ some j = Value.ownBlock V0_2 ∨ some j = Value.ownBlock V0_3 ∨ some j = Value.ownBlock V0_4) w w') := by
 unfold rickyardref05_Device_Store.f at h
 have fB : Fr (fun j => j = G_0 ∨ some j = Value.ownBlock V0_0 ∨ some j = Value.ownBlock V0_1 ∨ some j = Value.ownBlock V0_2 ∨ some j = Value.ownBlock V0_3 ∨ some j = Value.ownBlock V0_4) w w := Fr.refl _ _
 have M0_0 : ∀ g, Value.ownBlock V0_0 = some g → w.heap.size ≤ g ∨ (g = G_0 ∨ some g = Value.ownBlock V0_0 ∨ some g = Value.ownBlock V0_1 ∨ some g = Value.ownBlock V0_2 ∨ some g = Value.ownBlock V0_3 ∨ some g = Value.ownBlock V0_4) := fun g hg => .inr (.inr (.inl hg.symm))
 have M0_1 : ∀ g, Value.ownBlock V0_1 = some g → w.heap.size ≤ g ∨ (g = G_0 ∨ some g = Value.ownBlock V0_0 ∨ some g = Value.ownBlock V0_1 ∨ some g = Value.ownBlock V0_2 ∨ some g = Value.ownBlock V0_3 ∨ some g = Value.ownBlock V0_4) := fun g hg => .inr (.inr (.inr (.inl hg.symm)))
 have M0_2 : ∀ g, Value.ownBlock V0_2 = some g → w.heap.size ≤ g ∨ (g = G_0 ∨ some g = Value.ownBlock V0_0 ∨ some g = Value.ownBlock V0_1 ∨ some g = Value.ownBlock V0_2 ∨ some g = Value.ownBlock V0_3 ∨ some g = Value.ownBlock V0_4) := fun g hg => .inr (.inr (.inr (.inr (.inl hg.symm))))
 have M0_3 : ∀ g, Value.ownBlock V0_3 = some g → w.heap.size ≤ g ∨ (g = G_0 ∨ some g = Value.ownBlock V0_0 ∨ some g = Value.ownBlock V0_1 ∨ some g = Value.ownBlock V0_2 ∨ some g = Value.ownBlock V0_3 ∨ some g = Value.ownBlock V0_4) := fun g hg => .inr (.inr (.inr (.inr (.inr (.inl hg.symm)))))
 have M0_4 : ∀ g, Value.ownBlock V0_4 = some g → w.heap.size ≤ g ∨ (g = G_0 ∨ some g = Value.ownBlock V0_0 ∨ some g = Value.ownBlock V0_1 ∨ some g = Value.ownBlock V0_2 ∨ some g = Value.ownBlock V0_3 ∨ some g = Value.ownBlock V0_4) := fun g hg => .inr (.inr (.inr (.inr (.inr (.inr hg.symm)))))
 refine calls_cw Try.func92 rfl Try.ntmps92 rfl ?_
 refine cw_seq ?_
 refine cw_region ?_
 refine ol_val (v := .int .i64 0) (xr_assign rfl rfl) rfl rfl rfl ?_
 refine ol_nil ?_
 refine cw_seq ?_
 refine cw_region ?_
 refine ol_val (v := (pt G_0 0)) (xr_move rfl rfl) rfl rfl rfl ?_
 refine ol_val (v := .int .i64 a1) (xr_move rfl rfl) rfl rfl rfl ?_
 refine ol_val (v := (pt G_0 0)) (xr_move rfl rfl) rfl rfl rfl ?_
 refine ol_val (v := (pt G_0 0)) (xr_nilCheck rfl rfl) rfl rfl rfl ?_
 refine ol_val (v := (pt G_0 0)) (xr_fieldAddr (p := 0) (q := 0) rfl fl65_0 rfl) rfl rfl rfl ?_
 refine ol_val (v := V0_0) (xr_load1 (v := V0_0) rfl ag46 rfl (b_0.seg 0 rfl rfl)) rfl rfl rfl ?_
 refine ol_val (v := .int .i64 (List.length a0.Lasts : Int)) (xr_lenR rfl Try.underlying46 rfl O0_0.rd) rfl rfl rfl ?_
 obtain ⟨t19, k20, h⟩ := bs h
 refine ol_op (opv_call rfl cal124 (ac rfl (ac rfl (ac rfl an))) (rickyardref05_Device_error.ok fu _ a0 G_0 V0_0 (O0_0.rd) V0_1 (O0_1.rd) V0_2 (O0_2.rd) V0_3 (O0_3.rd) V0_4 (O0_4.rd) b_0 a1 (List.length a0.Lasts : Int) _ k20)) rfl rfl rfl ?_
 rintro _ w22 ⟨rfl, q21⟩
 have b_0 := b_0.gr q21
 have O0_0 := O0_0.gr q21
 have O0_1 := O0_1.gr q21
 have O0_2 := O0_2.gr q21
 have O0_3 := O0_3.gr q21
 have O0_4 := O0_4.gr q21
 have fB := fB.gr q21
 refine ol_val (v := .int .i64 t19) (xr_assign rfl rfl) rfl rfl rfl ?_
 refine ol_nil ?_
 refine cw_seq ?_
 refine cw_seq ?_
 refine cw_region ?_
 refine ol_val (v := .int .i64 t19) (xr_move rfl rfl) rfl rfl rfl ?_
 refine ol_val (v := .bool (decide (t19 = 0))) (xr_eqI rfl Try.underlying3 rfl rfl rfl) rfl rfl rfl ?_
 refine ol_nil ?_
 obtain ⟨x23, j24, h25⟩ := bs h
 refine cw_mid (fun ρ' w' => ∃ v26 : Value, ∃ v30 : Value, ∃ v34 : Value, ∃ v38 : Value, ∃ v42 : Value, ∃ o27 : Own (kI .u64) 22 w' 0 v26 x23.1, ∃ o31 : Own (kI .u64) 22 w' 0 v30 x23.2.1, ∃ o35 : Own (kI .u64) 22 w' 0 v34 x23.2.2.1, ∃ o39 : Own kB 4 w' 0 v38 x23.2.2.2.1, ∃ o43 : Own (kI .i64) 3 w' 0 v42 x23.2.2.2.2.1, ∃ m29 : ∀ g, Value.ownBlock v26 = some g → w.heap.size ≤ g ∨ (g = G_0 ∨ some g = Value.ownBlock V0_0 ∨ some g = Value.ownBlock V0_1 ∨ some g = Value.ownBlock V0_2 ∨ some g = Value.ownBlock V0_3 ∨ some g = Value.ownBlock V0_4), ∃ m33 : ∀ g, Value.ownBlock v30 = some g → w.heap.size ≤ g ∨ (g = G_0 ∨ some g = Value.ownBlock V0_0 ∨ some g = Value.ownBlock V0_1 ∨ some g = Value.ownBlock V0_2 ∨ some g = Value.ownBlock V0_3 ∨ some g = Value.ownBlock V0_4), ∃ m37 : ∀ g, Value.ownBlock v34 = some g → w.heap.size ≤ g ∨ (g = G_0 ∨ some g = Value.ownBlock V0_0 ∨ some g = Value.ownBlock V0_1 ∨ some g = Value.ownBlock V0_2 ∨ some g = Value.ownBlock V0_3 ∨ some g = Value.ownBlock V0_4), ∃ m41 : ∀ g, Value.ownBlock v38 = some g → w.heap.size ≤ g ∨ (g = G_0 ∨ some g = Value.ownBlock V0_0 ∨ some g = Value.ownBlock V0_1 ∨ some g = Value.ownBlock V0_2 ∨ some g = Value.ownBlock V0_3 ∨ some g = Value.ownBlock V0_4), ∃ m45 : ∀ g, Value.ownBlock v42 = some g → w.heap.size ≤ g ∨ (g = G_0 ∨ some g = Value.ownBlock V0_0 ∨ some g = Value.ownBlock V0_1 ∨ some g = Value.ownBlock V0_2 ∨ some g = Value.ownBlock V0_3 ∨ some g = Value.ownBlock V0_4), OffV v26 v30 ∧ OffV v26 v34 ∧ OffV v30 v34 ∧ ρ' 7 = .int .i64 t19 ∧ Blk w' G_0 65 [Seg.cell v26 o27.one, Seg.cell v30 o31.one, Seg.cell v34 o35.one, Seg.cell v38 o39.one, Seg.cell v42 o43.one, (sI x23.2.2.2.2.2.1), (sI x23.2.2.2.2.2.2.1), (sI x23.2.2.2.2.2.2.2)] ∧ Fr (fun j => j = G_0 ∨ some j = Value.ownBlock V0_0 ∨ some j = Value.ownBlock V0_1 ∨ some j = Value.ownBlock V0_2 ∨ some j = Value.ownBlock V0_3 ∨ some j = Value.ownBlock V0_4) w w') ?_ ?_
 ·have h := j24
  rcases is h with ⟨c49, h⟩ | ⟨c49, h⟩
  ·refine cw_condT rfl c49 ?_
   refine cw_seq ?_
   refine cw_region ?_
   refine ol_val (v := (pt G_0 0)) (xr_move rfl rfl) rfl rfl rfl ?_
   refine ol_val (v := (pt G_0 0)) (xr_nilCheck rfl rfl) rfl rfl rfl ?_
   refine ol_val (v := (pt G_0 1)) (xr_fieldAddr (p := 0) (q := 1) rfl fl65_1 rfl) rfl rfl rfl ?_
   refine ol_val (v := V0_1) (xr_load1 (v := V0_1) rfl ag46 rfl (b_0.seg 1 rfl rfl)) rfl rfl rfl ?_
   refine ol_val (v := .int .i64 a1) (xr_move rfl rfl) rfl rfl rfl ?_
   refine ol_val (v := .int .u64 a2) (xr_move rfl rfl) rfl rfl rfl ?_
   obtain ⟨g50, h⟩ := gs h
   refine ol_val (v := (pt ((sb V0_1)) (so V0_1 + Int.toNat a1 * 1))) (xr_indexR (K := (kI .u64)) (v := V0_1) rfl Try.underlying46 sz22 rfl O0_1.rd rfl g50.1 g50.2) rfl rfl rfl ?_
   have f52 := off_ty b_0 O0_1 (by decide)
   have f53 := A_R0_0_R0_1
   have f54 := A_R0_1_R0_2.symm
   have f55 := OffV.ty O0_3 O0_1 (by decide)
   have f56 := OffV.ty O0_4 O0_1 (by decide)
   refine ol_op0 (opv_storeRow (z := a2) (xs := cellsOf [Seg.cell (.int .u64 a2)]) rfl sz22 rfl rfl rfl (len_cellsOf _) (one_cellsOf _) O0_1 g50.1 g50.2 (Spl.whole ((Kd.len _ _).trans (Kd.len _ _).symm)) rfl) rfl rfl ?_
   rintro _ w58 ⟨O0_1, q51⟩
   have b_0 := b_0.wrO q51 f52
   have O0_0 := O0_0.wrV q51 f53
   have O0_2 := O0_2.wrV q51 f54
   have O0_3 := O0_3.wrV q51 f55
   have O0_4 := O0_4.wrV q51 f56
   have fB := fB.wrM q51 M0_1
   refine ol_nil ?_
   refine cw_region ?_
   refine ol_val (v := (pt G_0 0)) (xr_move rfl rfl) rfl rfl rfl ?_
   obtain ⟨t59, k60, h⟩ := bs h
   have c85 : ∀ k, (k = G_0 ∨ some k = Value.ownBlock V0_0 ∨ some k = Value.ownBlock V0_1 ∨ some k = Value.ownBlock V0_2 ∨ some k = Value.ownBlock V0_3 ∨ some k = Value.ownBlock V0_4) → (w.heap.size ≤ k ∨ (k = G_0 ∨ some k = Value.ownBlock V0_0 ∨ some k = Value.ownBlock V0_1 ∨ some k = Value.ownBlock V0_2 ∨ some k = Value.ownBlock V0_3 ∨ some k = Value.ownBlock V0_4)) := (cv_or (cv_eq (.inr (.inl rfl))) (cv_or (cv_own M0_0) (cv_or (cv_own M0_1) (cv_or (cv_own M0_2) (cv_or (cv_own M0_3) (cv_own M0_4))))))
   refine ol_op (opv_call rfl cal125 (ac rfl an) (rickyardref05_Device_step.ok fu _ (⟨a0.Lasts, (List.set a0.Stored (Int.toNat a1) a2), a0.Sent, a0.Flushed, a0.Plan, a0.Since, a0.Left, a0.Steps⟩ : S_rickyardref05_Device) G_0 V0_0 (Own.base O0_0 (Nat.zero_le _)) V0_1 (Own.base O0_1 (Nat.zero_le _)) V0_2 (Own.base O0_2 (Nat.zero_le _)) V0_3 (Own.base O0_3 (Nat.zero_le _)) V0_4 (Own.base O0_4 (Nat.zero_le _)) b_0 A_R0_0_R0_1 A_R0_0_R0_2 A_R0_1_R0_2 _ k60)) rfl rfl rfl ?_
   rintro _ w86 ⟨u62, u66, u70, u74, u78, o63, m64, o67, m68, o71, m72, o75, m76, o79, m80, a82, a83, a84, rfl, b_0, q61⟩
   have m64 : ∀ g, Value.ownBlock u62 = some g → w.heap.size ≤ g ∨ (g = G_0 ∨ some g = Value.ownBlock V0_0 ∨ some g = Value.ownBlock V0_1 ∨ some g = Value.ownBlock V0_2 ∨ some g = Value.ownBlock V0_3 ∨ some g = Value.ownBlock V0_4) := fun g hg => (m64 g hg).elim (fun x => .inl (Nat.le_trans fB.size x)) (c85 g)
   have m68 : ∀ g, Value.ownBlock u66 = some g → w.heap.size ≤ g ∨ (g = G_0 ∨ some g = Value.ownBlock V0_0 ∨ some g = Value.ownBlock V0_1 ∨ some g = Value.ownBlock V0_2 ∨ some g = Value.ownBlock V0_3 ∨ some g = Value.ownBlock V0_4) := fun g hg => (m68 g hg).elim (fun x => .inl (Nat.le_trans fB.size x)) (c85 g)
   have m72 : ∀ g, Value.ownBlock u70 = some g → w.heap.size ≤ g ∨ (g = G_0 ∨ some g = Value.ownBlock V0_0 ∨ some g = Value.ownBlock V0_1 ∨ some g = Value.ownBlock V0_2 ∨ some g = Value.ownBlock V0_3 ∨ some g = Value.ownBlock V0_4) := fun g hg => (m72 g hg).elim (fun x => .inl (Nat.le_trans fB.size x)) (c85 g)
   have m76 : ∀ g, Value.ownBlock u74 = some g → w.heap.size ≤ g ∨ (g = G_0 ∨ some g = Value.ownBlock V0_0 ∨ some g = Value.ownBlock V0_1 ∨ some g = Value.ownBlock V0_2 ∨ some g = Value.ownBlock V0_3 ∨ some g = Value.ownBlock V0_4) := fun g hg => (m76 g hg).elim (fun x => .inl (Nat.le_trans fB.size x)) (c85 g)
   have m80 : ∀ g, Value.ownBlock u78 = some g → w.heap.size ≤ g ∨ (g = G_0 ∨ some g = Value.ownBlock V0_0 ∨ some g = Value.ownBlock V0_1 ∨ some g = Value.ownBlock V0_2 ∨ some g = Value.ownBlock V0_3 ∨ some g = Value.ownBlock V0_4) := fun g hg => (m80 g hg).elim (fun x => .inl (Nat.le_trans fB.size x)) (c85 g)
   have fB := fB.call q61 c85
   refine ol_nil ?_
   obtain rfl := Option.some.inj h
   refine thn_i ?_
   exact ⟨u62, u66, u70, u74, u78, o63, o67, o71, o75, o79, m64, m68, m72, m76, m80, a82, a83, a84, rfl, b_0, fB⟩
  refine cw_condF rfl c49 ?_
  refine cw_skip ?_
  obtain rfl := Option.some.inj h
  refine thn_i ?_
  exact ⟨V0_0, V0_1, V0_2, V0_3, V0_4, O0_0, O0_1, O0_2, O0_3, O0_4, M0_0, M0_1, M0_2, M0_3, M0_4, A_R0_0_R0_1, A_R0_0_R0_2, A_R0_1_R0_2, rfl, b_0, fB⟩
 rintro ρ87 w88 ⟨v26, v30, v34, v38, v42, o27, o31, o35, o39, o43, m29, m33, m37, m41, m45, a46, a47, a48, e7, b_0, fB⟩
 have h := h25
 refine cw_seq ?_
 refine cw_region ?_
 refine ol_val (v := .int .i64 t19) (xr_move rfl e7) rfl rfl rfl ?_
 refine ol_val (v := .int .i64 t19) (xr_assign rfl rfl) rfl rfl rfl ?_
 refine ol_nil ?_
 refine cw_ret ?_
 repeat (first | with_reducible refine thn_r ?_ | with_reducible refine blk_r ?_)
 obtain rfl := Option.some.inj h
 refine fin_ret1 Try.results92 rfl ?_
 exact ⟨_, rfl, v26, v30, v34, v38, v42, o27, m29, o31, m33, o35, m37, o39, m41, o43, m45, a46, a47, a48, rfl, b_0, fB⟩
def rickyardref05_Device_Flush.s1 (fu : Nat) (a0 : S_rickyardref05_Device) (a1 : Int) : (Int × (List Int) × (List Bool)) → Option (Sum ((List Int) × (List Bool)) (Int × (List Int) × (List Bool))) := fun s50 => (if (decide (s50.1 < (IntKind.i64.wrap ((IntKind.i64.wrap (8 * a1)) + 8)))) = true then (if 0 ≤ s50.1 ∧ s50.1 < (List.length a0.Stored : Int) then (if 0 ≤ s50.1 ∧ s50.1 < (List.length s50.2.1 : Int) then (if 0 ≤ s50.1 ∧ s50.1 < (List.length s50.2.2 : Int) then some (Sum.inr ((IntKind.i64.wrap (s50.1 + 1)), (List.set s50.2.1 (Int.toNat s50.1) (ix a0.Stored s50.1)), (List.set s50.2.2 (Int.toNat s50.1) true))) else none) else none) else none) else some (Sum.inl (s50.2.1, s50.2.2)))
def rickyardref05_Device_Flush.f (fu : Nat) (a0 : S_rickyardref05_Device) (a1 : Int) : Option (Int × S_rickyardref05_Device) := ((rickyardref05_Device_error.f fu a0 a1 (IntKind.i64.wrap (Int.tdiv (List.length a0.Lasts : Int) 8))).bind fun t19 => (((if (decide (t19 = 0)) = true then ((loopM (rickyardref05_Device_Flush.s1 fu a0 a1) fu ((IntKind.i64.wrap (8 * a1)), a0.Sent, a0.Flushed)).bind fun e51 => ((rickyardref05_Device_step.f fu (⟨a0.Lasts, a0.Stored, e51.1, e51.2, a0.Plan, a0.Since, a0.Left, a0.Steps⟩ : S_rickyardref05_Device)).bind fun t82 => some (t82.Lasts, t82.Stored, t82.Sent, t82.Flushed, t82.Plan, t82.Since, t82.Left, t82.Steps))) else some (a0.Lasts, a0.Stored, a0.Sent, a0.Flushed, a0.Plan, a0.Since, a0.Left, a0.Steps)) : Option ((List Int) × (List Int) × (List Int) × (List Bool) × (List Int) × Int × Int × Int)).bind fun x23 => some (t19, (⟨x23.1, x23.2.1, x23.2.2.1, x23.2.2.2.1, x23.2.2.2.2.1, x23.2.2.2.2.2.1, x23.2.2.2.2.2.2.1, x23.2.2.2.2.2.2.2⟩ : S_rickyardref05_Device))))
theorem rickyardref05_Device_Flush.ok (fu : Nat) (w : World) (a0 : S_rickyardref05_Device) (G_0 : Nat) (V0_0 : Value) (O0_0 : Own (kI .u64) 22 w 0 V0_0 a0.Lasts) (V0_1 : Value) (O0_1 : Own (kI .u64) 22 w 0 V0_1 a0.Stored) (V0_2 : Value) (O0_2 : Own (kI .u64) 22 w 0 V0_2 a0.Sent) (V0_3 : Value) (O0_3 : Own kB 4 w 0 V0_3 a0.Flushed) (V0_4 : Value) (O0_4 : Own (kI .i64) 3 w 0 V0_4 a0.Plan) (b_0 : Blk w G_0 65 [Seg.cell V0_0 O0_0.one, Seg.cell V0_1 O0_1.one, Seg.cell V0_2 O0_2.one, Seg.cell V0_3 O0_3.one, Seg.cell V0_4 O0_4.one, (sI a0.Since), (sI a0.Left), (sI a0.Steps)]) (a1 : Int) (A_R0_0_R0_1 : OffV V0_0 V0_1) (A_R0_0_R0_2 : OffV V0_0 V0_2) (A_R0_1_R0_2 : OffV V0_1 V0_2) (r : Int × S_rickyardref05_Device) (h : rickyardref05_Device_Flush.f fu a0 a1 = some r) :
  Calls Try.prog 94 (([(pt G_0 0), .int .i64 a1] : List Value).toArray) w (fun e w' => ∃ v, e = .returned v ∧ ∃ u1 : Value, ∃ u4 : Value, ∃ u7 : Value, ∃ u10 : Value, ∃ u13 : Value, ∃ o2 : Own (kI .u64) 22 w' 0 u1 r.2.Lasts, ∃ m3 : ∀ g, Value.ownBlock u1 = some g → w.heap.size ≤ g ∨ (g = G_0 ∨ some g = Value.ownBlock V0_0 ∨ some g = Value.ownBlock V0_1 ∨ some g = Value.ownBlock V0_2 ∨ some g = Value.ownBlock V0_3 ∨ some g = Value.ownBlock V0_4), ∃ o5 : Own (kI .u64) 22 w' 0 u4 r.2.Stored, ∃ m6 : ∀ g, Value.ownBlock u4 = some g → w.heap.size ≤ g ∨ (g = G_0 ∨ some g = Value.ownBlock V0_0 ∨ some g = Value.ownBlock V0_1 ∨ some g = Value.ownBlock V0_2 ∨ some g = Value.ownBlock V0_3 ∨ some g = Value.ownBlock V0_4), ∃ o8 : Own (kI .u64) 22 w' 0 u7 r.2.Sent, ∃ m9 : ∀ g, Value.ownBlock u7 = some g → w.heap.size ≤ g ∨ (g = G_0 ∨ some g = Value.ownBlock V0_0 ∨ some g = Value.ownBlock V0_1 ∨ some g = Value.ownBlock V0_2 ∨ some g = Value.ownBlock V0_3 ∨ some g = Value.ownBlock V0_4), ∃ o11 : Own kB 4 w' 0 u10 r.2.Flushed, ∃ m12 : ∀ g, Value.ownBlock u10 = some g → w.heap.size ≤ g ∨ (g = G_0 ∨ some g = Value.ownBlock V0_0 ∨ some g = Value.ownBlock V0_1 ∨ some g = Value.ownBlock V0_2 ∨ some g = Value.ownBlock V0_3 ∨ some g = Value.ownBlock V0_4), ∃ o14 : Own (kI .i64) 3 w' 0 u13 r.2.Plan, ∃ m15 : ∀ g, Value.ownBlock u13 = some g → w.heap.size ≤ g ∨ (g = G_0 ∨ some g = Value.ownBlock V0_0 ∨ some g = Value.ownBlock V0_1 ∨ some g = Value.ownBlock V0_2 ∨ some g = Value.ownBlock V0_3 ∨ some g = Value.ownBlock V0_4), ∃ a16 : OffV u1 u4, ∃ a17 : OffV u1 u7, ∃ a18 : OffV u4 u7, v = .int .i64 r.1 ∧ Blk w' G_0 65 [Seg.cell u1 o2.one, Seg.cell u4 o5.one, Seg.cell u7 o8.one, Seg.cell u10 o11.one, Seg.cell u13 o14.one, (sI r.2.Since), (sI r.2.Left), (sI r.2.Steps)] ∧ Fr (fun j => j = G_0 ∨ some j = Value.ownBlock V0_0 ∨ some j = Value.ownBlock V0_1 ∨ some j = Value.ownBlock V0_2 ∨ some j = Value.ownBlock V0_3 ∨ some j = Value.ownBlock V0_4) w w') := by
 unfold rickyardref05_Device_Flush.f at h
 have fB : Fr (fun j => j = G_0 ∨ some j = Value.ownBlock V0_0 ∨ some j = Value.ownBlock V0_1 ∨ some j = Value.ownBlock V0_2 ∨ some j = Value.ownBlock V0_3 ∨ some j = Value.ownBlock V0_4) w w := Fr.refl _ _
 have M0_0 : ∀ g, Value.ownBlock V0_0 = some g → w.heap.size ≤ g ∨ (g = G_0 ∨ some g = Value.ownBlock V0_0 ∨ some g = Value.ownBlock V0_1 ∨ some g = Value.ownBlock V0_2 ∨ some g = Value.ownBlock V0_3 ∨ some g = Value.ownBlock V0_4) := fun g hg => .inr (.inr (.inl hg.symm))
 have M0_1 : ∀ g, Value.ownBlock V0_1 = some g → w.heap.size ≤ g ∨ (g = G_0 ∨ some g = Value.ownBlock V0_0 ∨ some g = Value.ownBlock V0_1 ∨ some g = Value.ownBlock V0_2 ∨ some g = Value.ownBlock V0_3 ∨ some g = Value.ownBlock V0_4) := fun g hg => .inr (.inr (.inr (.inl hg.symm)))
 have M0_2 : ∀ g, Value.ownBlock V0_2 = some g → w.heap.size ≤ g ∨ (g = G_0 ∨ some g = Value.ownBlock V0_0 ∨ some g = Value.ownBlock V0_1 ∨ some g = Value.ownBlock V0_2 ∨ some g = Value.ownBlock V0_3 ∨ some g = Value.ownBlock V0_4) := fun g hg => .inr (.inr (.inr (.inr (.inl hg.symm))))
 have M0_3 : ∀ g, Value.ownBlock V0_3 = some g → w.heap.size ≤ g ∨ (g = G_0 ∨ some g = Value.ownBlock V0_0 ∨ some g = Value.ownBlock V0_1 ∨ some g = Value.ownBlock V0_2 ∨ some g = Value.ownBlock V0_3 ∨ some g = Value.ownBlock V0_4) := fun g hg => .inr (.inr (.inr (.inr (.inr (.inl hg.symm)))))
 have M0_4 : ∀ g, Value.ownBlock V0_4 = some g → w.heap.size ≤ g ∨ (g = G_0 ∨ some g = Value.ownBlock V0_0 ∨ some g = Value.ownBlock V0_1 ∨ some g = Value.ownBlock V0_2 ∨ some g = Value.ownBlock V0_3 ∨ some g = Value.ownBlock V0_4) := fun g hg => .inr (.inr (.inr (.inr (.inr (.inr hg.symm)))))
 refine calls_cw Try.func94 rfl Try.ntmps94 rfl ?_
 refine cw_seq ?_
 refine cw_region ?_
 refine ol_val (v := .int .i64 0) (xr_assign rfl rfl) rfl rfl rfl ?_
 refine ol_nil ?_
 refine cw_seq ?_
 refine cw_region ?_
 refine ol_val (v := (pt G_0 0)) (xr_move rfl rfl) rfl rfl rfl ?_
 refine ol_val (v := .int .i64 a1) (xr_move rfl rfl) rfl rfl rfl ?_
 refine ol_val (v := (pt G_0 0)) (xr_move rfl rfl) rfl rfl rfl ?_
 refine ol_val (v := (pt G_0 0)) (xr_nilCheck rfl rfl) rfl rfl rfl ?_
 refine ol_val (v := (pt G_0 0)) (xr_fieldAddr (p := 0) (q := 0) rfl fl65_0 rfl) rfl rfl rfl ?_
 refine ol_val (v := V0_0) (xr_load1 (v := V0_0) rfl ag46 rfl (b_0.seg 0 rfl rfl)) rfl rfl rfl ?_
 refine ol_val (v := .int .i64 (List.length a0.Lasts : Int)) (xr_lenR rfl Try.underlying46 rfl O0_0.rd) rfl rfl rfl ?_
 refine ol_val (v := .int .i64 (IntKind.i64.wrap (Int.tdiv (List.length a0.Lasts : Int) 8))) (xr_quo rfl rfl rfl (by decide)) rfl rfl rfl ?_
 obtain ⟨t19, k20, h⟩ := bs h
 refine ol_op (opv_call rfl cal124 (ac rfl (ac rfl (ac rfl an))) (rickyardref05_Device_error.ok fu _ a0 G_0 V0_0 (O0_0.rd) V0_1 (O0_1.rd) V0_2 (O0_2.rd) V0_3 (O0_3.rd) V0_4 (O0_4.rd) b_0 a1 (IntKind.i64.wrap (Int.tdiv (List.length a0.Lasts : Int) 8)) _ k20)) rfl rfl rfl ?_
 rintro _ w22 ⟨rfl, q21⟩
 have b_0 := b_0.gr q21
 have O0_0 := O0_0.gr q21
 have O0_1 := O0_1.gr q21
 have O0_2 := O0_2.gr q21
 have O0_3 := O0_3.gr q21
 have O0_4 := O0_4.gr q21
 have fB := fB.gr q21
 refine ol_val (v := .int .i64 t19) (xr_assign rfl rfl) rfl rfl rfl ?_
 refine ol_nil ?_
 refine cw_seq ?_
 refine cw_seq ?_
 refine cw_region ?_
 refine ol_val (v := .int .i64 t19) (xr_move rfl rfl) rfl rfl rfl ?_
 refine ol_val (v := .bool (decide (t19 = 0))) (xr_eqI rfl Try.underlying3 rfl rfl rfl) rfl rfl rfl ?_
 refine ol_nil ?_
 obtain ⟨x23, j24, h25⟩ := bs h
 refine cw_mid (fun ρ' w' => ∃ v26 : Value, ∃ v30 : Value, ∃ v34 : Value, ∃ v38 : Value, ∃ v42 : Value, ∃ o27 : Own (kI .u64) 22 w' 0 v26 x23.1, ∃ o31 : Own (kI .u64) 22 w' 0 v30 x23.2.1, ∃ o35 : Own (kI .u64) 22 w' 0 v34 x23.2.2.1, ∃ o39 : Own kB 4 w' 0 v38 x23.2.2.2.1, ∃ o43 : Own (kI .i64) 3 w' 0 v42 x23.2.2.2.2.1, ∃ m29 : ∀ g, Value.ownBlock v26 = some g → w.heap.size ≤ g ∨ (g = G_0 ∨ some g = Value.ownBlock V0_0 ∨ some g = Value.ownBlock V0_1 ∨ some g = Value.ownBlock V0_2 ∨ some g = Value.ownBlock V0_3 ∨ some g = Value.ownBlock V0_4), ∃ m33 : ∀ g, Value.ownBlock v30 = some g → w.heap.size ≤ g ∨ (g = G_0 ∨ some g = Value.ownBlock V0_0 ∨ some g = Value.ownBlock V0_1 ∨ some g = Value.ownBlock V0_2 ∨ some g = Value.ownBlock V0_3 ∨ some g = Value.ownBlock V0_4), ∃ m37 : ∀ g, Value.ownBlock v34 = some g → w.heap.size ≤ g ∨ (g = G_0 ∨ some g = Value.ownBlock V0_0 ∨ some g = Value.ownBlock V0_1 ∨ some g = Value.ownBlock V0_2 ∨ some g = Value.ownBlock V0_3 ∨ some g = Value.ownBlock V0_4), ∃ m41 : ∀ g, Value.ownBlock v38 = some g → w.heap.size ≤ g ∨ (g = G_0 ∨ some g = Value.ownBlock V0_0 ∨ some g = Value.ownBlock V0_1 ∨ some g = Value.ownBlock V0_2 ∨ some g = Value.ownBlock V0_3 ∨ some g = Value.ownBlock V0_4), ∃ m45 : ∀ g, Value.ownBlock v42 = some g → w.heap.size ≤ g ∨ (g = G_0 ∨ some g = Value.ownBlock V0_0 ∨ some g = Value.ownBlock V0_1 ∨ some g = Value.ownBlock V0_2 ∨ some g = Value.ownBlock V0_3 ∨ some g = Value.ownBlock V0_4), OffV v26 v30 ∧ OffV v26 v34 ∧ OffV v30 v34 ∧ ρ' 5 = .int .i64 t19 ∧ Blk w' G_0 65 [Seg.cell v26 o27.one, Seg.cell v30 o31.one, Seg.cell v34 o35.one, Seg.cell v38 o39.one, Seg.cell v42 o43.one, (sI x23.2.2.2.2.2.1), (sI x23.2.2.2.2.2.2.1), (sI x23.2.2.2.2.2.2.2)] ∧ Fr (fun j => j = G_0 ∨ some j = Value.ownBlock V0_0 ∨ some j = Value.ownBlock V0_1 ∨ some j = Value.ownBlock V0_2 ∨ some j = Value.ownBlock V0_3 ∨ some j = Value.ownBlock V0_4) w w') ?_ ?_
 ·have h := j24
  rcases is h with ⟨c49, h⟩ | ⟨c49, h⟩
  ·refine cw_condT rfl c49 ?_
   refine cw_seq ?_
   refine cw_seq ?_
   refine cw_region ?_
   refine ol_val (v := .int .i64 a1) (xr_move rfl rfl) rfl rfl rfl ?_
   refine ol_val (v := .int .i64 (IntKind.i64.wrap (8 * a1))) (xr_mul rfl rfl rfl) rfl rfl rfl ?_
   refine ol_val (v := .int .i64 (IntKind.i64.wrap (8 * a1))) (xr_assign rfl rfl) rfl rfl rfl ?_
   refine ol_nil ?_
   obtain ⟨e51, l52, h53⟩ := bs h
   refine cw_mid (fun ρ' w' => ∃ O0_0 : Own (kI .u64) 22 w' 0 V0_0 a0.Lasts, ∃ O0_1 : Own (kI .u64) 22 w' 0 V0_1 a0.Stored, ∃ O0_2 : Own (kI .u64) 22 w' 0 V0_2 e51.1, ∃ O0_3 : Own kB 4 w' 0 V0_3 e51.2, ∃ O0_4 : Own (kI .i64) 3 w' 0 V0_4 a0.Plan, ρ' 0 = (pt G_0 0) ∧ ρ' 5 = .int .i64 t19 ∧ Blk w' G_0 65 [Seg.cell V0_0 O0_0.one, Seg.cell V0_1 O0_1.one, Seg.cell V0_2 O0_2.one, Seg.cell V0_3 O0_3.one, Seg.cell V0_4 O0_4.one, (sI a0.Since), (sI a0.Left), (sI a0.Steps)] ∧ Fr (fun j => j = G_0 ∨ some j = Value.ownBlock V0_0 ∨ some j = Value.ownBlock V0_1 ∨ some j = Value.ownBlock V0_2 ∨ some j = Value.ownBlock V0_3 ∨ some j = Value.ownBlock V0_4) w w') ?_ ?_
   ·refine cw_block ?_
    refine cw_round (fun (s50 : Int × (List Int) × (List Bool)) ρ' w' => ∃ O0_0 : Own (kI .u64) 22 w' 0 V0_0 a0.Lasts, ∃ O0_1 : Own (kI .u64) 22 w' 0 V0_1 a0.Stored, ∃ O0_2 : Own (kI .u64) 22 w' 0 V0_2 s50.2.1, ∃ O0_3 : Own kB 4 w' 0 V0_3 s50.2.2, ∃ O0_4 : Own (kI .i64) 3 w' 0 V0_4 a0.Plan, ρ' 0 = (pt G_0 0) ∧ ρ' 1 = .int .i64 a1 ∧ ρ' 5 = .int .i64 t19 ∧ ρ' 6 = .int .i64 s50.1 ∧ Blk w' G_0 65 [Seg.cell V0_0 O0_0.one, Seg.cell V0_1 O0_1.one, Seg.cell V0_2 O0_2.one, Seg.cell V0_3 O0_3.one, Seg.cell V0_4 O0_4.one, (sI a0.Since), (sI a0.Left), (sI a0.Steps)] ∧ Fr (fun j => j = G_0 ∨ some j = Value.ownBlock V0_0 ∨ some j = Value.ownBlock V0_1 ∨ some j = Value.ownBlock V0_2 ∨ some j = Value.ownBlock V0_3 ∨ some j = Value.ownBlock V0_4) w w') l52 ?_ ?_
    ·skip
     exact ⟨O0_0, O0_1, O0_2, O0_3, O0_4, rfl, rfl, rfl, rfl, b_0, fB⟩
    rintro s50 x56 ρ54 w55 ⟨O0_0, O0_1, O0_2, O0_3, O0_4, e0, e1, e5, e6, b_0, fB⟩ h
    unfold rickyardref05_Device_Flush.s1 at h
    refine cw_seq ?_
    refine cw_seq ?_
    refine cw_region ?_
    refine ol_val (v := .int .i64 s50.1) (xr_move rfl e6) rfl rfl rfl ?_
    refine ol_val (v := .int .i64 a1) (xr_move rfl e1) rfl rfl rfl ?_
    refine ol_val (v := .int .i64 (IntKind.i64.wrap (8 * a1))) (xr_mul rfl rfl rfl) rfl rfl rfl ?_
    refine ol_val (v := .int .i64 (IntKind.i64.wrap ((IntKind.i64.wrap (8 * a1)) + 8))) (xr_add rfl rfl rfl) rfl rfl rfl ?_
    refine ol_val (v := .bool (decide (s50.1 < (IntKind.i64.wrap ((IntKind.i64.wrap (8 * a1)) + 8))))) (xr_lss rfl rfl rfl) rfl rfl rfl ?_
    refine ol_nil ?_
    rcases is h with ⟨c57, h⟩ | ⟨c57, h⟩
    ·refine cw_condT rfl c57 ?_
     refine cw_skip ?_
     refine cw_seq ?_
     refine cw_block ?_
     refine cw_seq ?_
     obtain ⟨g58, h⟩ := gs h
     refine cw_drawL 12 [fun vz wz => vz = ((pt G_0 0) : Value), fun vz wz => vz = ((pt G_0 0) : Value), fun vz wz => vz = ((pt G_0 2) : Value), fun vz wz => vz = (V0_2 : Value), fun vz wz => vz = (.int .i64 s50.1 : Value), fun vz wz => vz = ((pt G_0 0) : Value), fun vz wz => vz = ((pt G_0 0) : Value), fun vz wz => vz = ((pt G_0 1) : Value), fun vz wz => vz = (V0_1 : Value), fun vz wz => vz = (.int .i64 s50.1 : Value), fun vz wz => vz = ((pt ((sb V0_1)) (so V0_1 + Int.toNat s50.1 * 1)) : Value), fun vz wz => vz = (.int .u64 (ix a0.Stored s50.1) : Value)] mo rfl ⟨fun _ _ _ h _ => h, fun _ _ _ h _ => h, fun _ _ _ h _ => h, fun _ _ _ h _ => h, fun _ _ _ h _ => h, fun _ _ _ h _ => h, fun _ _ _ h _ => h, fun _ _ _ h _ => h, fun _ _ _ h _ => h, fun _ _ _ h _ => h, fun _ _ _ h _ => h, fun _ _ _ h _ => h, trivial⟩ ?_ ?_
     ·refine ⟨?_, ?_, ?_, ?_, ?_, ?_, ?_, ?_, ?_, ?_, ?_, ?_, trivial⟩
      ·intro ρz wz hz hk hd
       exact sk_val (v := (pt G_0 0)) (xr_move rfl ((hk 0 rfl).trans e0)) rfl rfl
      ·intro ρz wz hz hk hd
       exact sk_val (v := (pt G_0 0)) (xr_nilCheck rfl (hd 0 rfl 27 rfl)) rfl rfl
      ·intro ρz wz hz hk hd
       exact sk_val (v := (pt G_0 2)) (xr_fieldAddr (p := 0) (q := 2) rfl fl65_2 (hd 1 rfl 28 rfl)) rfl rfl
      ·intro ρz wz hz hk hd
       exact sk_val (v := V0_2) (xr_load1 (v := V0_2) rfl ag46 (hd 2 rfl 29 rfl) ((b_0.gr hz).seg 2 rfl rfl)) rfl rfl
      ·intro ρz wz hz hk hd
       exact sk_val (v := .int .i64 s50.1) (xr_move rfl ((hk 6 rfl).trans e6)) rfl rfl
      ·intro ρz wz hz hk hd
       exact sk_val (v := (pt G_0 0)) (xr_move rfl ((hk 0 rfl).trans e0)) rfl rfl
      ·intro ρz wz hz hk hd
       exact sk_val (v := (pt G_0 0)) (xr_nilCheck rfl (hd 5 rfl 32 rfl)) rfl rfl
      ·intro ρz wz hz hk hd
       exact sk_val (v := (pt G_0 1)) (xr_fieldAddr (p := 0) (q := 1) rfl fl65_1 (hd 6 rfl 33 rfl)) rfl rfl
      ·intro ρz wz hz hk hd
       exact sk_val (v := V0_1) (xr_load1 (v := V0_1) rfl ag46 (hd 7 rfl 34 rfl) ((b_0.gr hz).seg 1 rfl rfl)) rfl rfl
      ·intro ρz wz hz hk hd
       exact sk_val (v := .int .i64 s50.1) (xr_move rfl ((hk 6 rfl).trans e6)) rfl rfl
      ·intro ρz wz hz hk hd
       exact sk_val (xr_indexR (K := (kI .u64)) (v := V0_1) rfl Try.underlying46 sz22 (hd 8 rfl 35 rfl) (O0_1.gr hz).rd (hd 9 rfl 36 rfl) g58.1 g58.2) rfl rfl
      intro ρz wz hz hk hd
      exact sk_val (v := .int .u64 (ix a0.Stored s50.1)) (xr_load1 (v := .int .u64 (ix a0.Stored s50.1)) rfl ag22 (hd 10 rfl 37 rfl) ((O0_1.gr hz).rd.elem g58.1 g58.2)) rfl rfl
     intro ρ59 w60 q61 hk hd
     have e0 := (hk 0 rfl).trans e0
     have e1 := (hk 1 rfl).trans e1
     have e5 := (hk 5 rfl).trans e5
     have e6 := (hk 6 rfl).trans e6
     have e30 := hd 3 rfl 30 rfl
     have e31 := hd 4 rfl 31 rfl
     have e38 := hd 11 rfl 38 rfl
     have b_0 := b_0.gr q61
     have O0_0 := O0_0.gr q61
     have O0_1 := O0_1.gr q61
     have O0_2 := O0_2.gr q61
     have O0_3 := O0_3.gr q61
     have O0_4 := O0_4.gr q61
     have fB := fB.gr q61
     obtain ⟨g62, h⟩ := gs h
     refine ol_val (v := (pt ((sb V0_2)) (so V0_2 + Int.toNat s50.1 * 1))) (xr_indexR (K := (kI .u64)) (v := V0_2) rfl Try.underlying46 sz22 e30 O0_2.rd e31 g62.1 g62.2) rfl rfl rfl ?_
     have f64 := off_ty b_0 O0_2 (by decide)
     have f65 := A_R0_0_R0_2
     have f66 := A_R0_1_R0_2
     have f67 := OffV.ty O0_3 O0_2 (by decide)
     have f68 := OffV.ty O0_4 O0_2 (by decide)
     refine ol_op0 (opv_storeRow (z := (ix a0.Stored s50.1)) (xs := cellsOf [Seg.cell (.int .u64 (ix a0.Stored s50.1))]) rfl sz22 rfl e38 rfl (len_cellsOf _) (one_cellsOf _) O0_2 g62.1 g62.2 (Spl.whole ((Kd.len _ _).trans (Kd.len _ _).symm)) rfl) rfl rfl ?_
     rintro _ w70 ⟨O0_2, q63⟩
     have b_0 := b_0.wrO q63 f64
     have O0_0 := O0_0.wrV q63 f65
     have O0_1 := O0_1.wrV q63 f66
     have O0_3 := O0_3.wrV q63 f67
     have O0_4 := O0_4.wrV q63 f68
     have fB := fB.wrM q63 M0_2
     refine ol_nil ?_
     refine cw_region ?_
     refine ol_val (v := (pt G_0 0)) (xr_move rfl e0) rfl rfl rfl ?_
     refine ol_val (v := (pt G_0 0)) (xr_nilCheck rfl rfl) rfl rfl rfl ?_
     refine ol_val (v := (pt G_0 3)) (xr_fieldAddr (p := 0) (q := 3) rfl fl65_3 rfl) rfl rfl rfl ?_
     refine ol_val (v := V0_3) (xr_load1 (v := V0_3) rfl ag63 rfl (b_0.seg 3 rfl rfl)) rfl rfl rfl ?_
     refine ol_val (v := .int .i64 s50.1) (xr_move rfl e6) rfl rfl rfl ?_
     obtain ⟨g71, h⟩ := gs h
     refine ol_val (v := (pt ((sb V0_3)) (so V0_3 + Int.toNat s50.1 * 1))) (xr_indexR (K := kB) (v := V0_3) rfl Try.underlying63 sz4 rfl O0_3.rd rfl g71.1 g71.2) rfl rfl rfl ?_
     have f73 := off_ty b_0 O0_3 (by decide)
     have f74 := OffV.ty O0_0 O0_3 (by decide)
     have f75 := OffV.ty O0_1 O0_3 (by decide)
     have f76 := OffV.ty O0_2 O0_3 (by decide)
     have f77 := OffV.ty O0_4 O0_3 (by decide)
     refine ol_op0 (opv_storeRow (z := true) (xs := cellsOf [Seg.cell (.bool true)]) rfl sz4 rfl rfl rfl (len_cellsOf _) (one_cellsOf _) O0_3 g71.1 g71.2 (Spl.whole ((Kd.len _ _).trans (Kd.len _ _).symm)) rfl) rfl rfl ?_
     rintro _ w79 ⟨O0_3, q72⟩
     have b_0 := b_0.wrO q72 f73
     have O0_0 := O0_0.wrV q72 f74
     have O0_1 := O0_1.wrV q72 f75
     have O0_2 := O0_2.wrV q72 f76
     have O0_4 := O0_4.wrV q72 f77
     have fB := fB.wrM q72 M0_3
     refine ol_nil ?_
     refine blk_i ?_
     refine cw_region ?_
     refine ol_val (v := .int .i64 s50.1) (xr_move rfl e6) rfl rfl rfl ?_
     refine ol_val (v := .int .i64 (IntKind.i64.wrap (s50.1 + 1))) (xr_add rfl rfl rfl) rfl rfl rfl ?_
     refine ol_val (v := .int .i64 (IntKind.i64.wrap (s50.1 + 1))) (xr_assign rfl rfl) rfl rfl rfl ?_
     refine ol_nil ?_
     obtain rfl := Option.some.inj h
     refine lp_in ?_
     exact ⟨O0_0, O0_1, O0_2, O0_3, O0_4, e0, e1, e5, rfl, b_0, fB⟩
    refine cw_condF rfl c57 ?_
    refine cw_exit ?_
    repeat (first | with_reducible refine thn_e ?_ | with_reducible refine blk_e rfl ?_)
    obtain rfl := Option.some.inj h
    refine lp_exit ?_
    rintro rfl
    refine thn_x ?_
    exact ⟨O0_0, O0_1, O0_2, O0_3, O0_4, e0, e5, b_0, fB⟩
   rintro ρ80 w81 ⟨O0_0, O0_1, O0_2, O0_3, O0_4, e0, e5, b_0, fB⟩
   have h := h53
   refine cw_region ?_
   refine ol_val (v := (pt G_0 0)) (xr_move rfl e0) rfl rfl rfl ?_
   obtain ⟨t82, k83, h⟩ := bs h
   have c108 : ∀ k, (k = G_0 ∨ some k = Value.ownBlock V0_0 ∨ some k = Value.ownBlock V0_1 ∨ some k = Value.ownBlock V0_2 ∨ some k = Value.ownBlock V0_3 ∨ some k = Value.ownBlock V0_4) → (w.heap.size ≤ k ∨ (k = G_0 ∨ some k = Value.ownBlock V0_0 ∨ some k = Value.ownBlock V0_1 ∨ some k = Value.ownBlock V0_2 ∨ some k = Value.ownBlock V0_3 ∨ some k = Value.ownBlock V0_4)) := (cv_or (cv_eq (.inr (.inl rfl))) (cv_or (cv_own M0_0) (cv_or (cv_own M0_1) (cv_or (cv_own M0_2) (cv_or (cv_own M0_3) (cv_own M0_4))))))
   refine ol_op (opv_call rfl cal125 (ac rfl an) (rickyardref05_Device_step.ok fu _ (⟨a0.Lasts, a0.Stored, e51.1, e51.2, a0.Plan, a0.Since, a0.Left, a0.Steps⟩ : S_rickyardref05_Device) G_0 V0_0 (Own.base O0_0 (Nat.zero_le _)) V0_1 (Own.base O0_1 (Nat.zero_le _)) V0_2 (Own.base O0_2 (Nat.zero_le _)) V0_3 (Own.base O0_3 (Nat.zero_le _)) V0_4 (Own.base O0_4 (Nat.zero_le _)) b_0 A_R0_0_R0_1 A_R0_0_R0_2 A_R0_1_R0_2 _ k83)) rfl rfl rfl ?_
   rintro _ w109 ⟨u85, u89, u93, u97, u101, o86, m87, o90, m91, o94, m95, o98, m99, o102, m103, a105, a106, a107, rfl, b_0, q84⟩
   have m87 : ∀ g, Value.ownBlock u85 = some g → w.heap.size ≤ g ∨ (g = G_0 ∨ some g = Value.ownBlock V0_0 ∨ some g = Value.ownBlock V0_1 ∨ some g = Value.ownBlock V0_2 ∨ some g = Value.ownBlock V0_3 ∨ some g = Value.ownBlock V0_4) := fun g hg => (m87 g hg).elim (fun x => .inl (Nat.le_trans fB.size x)) (c108 g)
   have m91 : ∀ g, Value.ownBlock u89 = some g → w.heap.size ≤ g ∨ (g = G_0 ∨ some g = Value.ownBlock V0_0 ∨ some g = Value.ownBlock V0_1 ∨ some g = Value.ownBlock V0_2 ∨ some g = Value.ownBlock V0_3 ∨ some g = Value.ownBlock V0_4) := fun g hg => (m91 g hg).elim (fun x => .inl (Nat.le_trans fB.size x)) (c108 g)
   have m95 : ∀ g, Value.ownBlock u93 = some g → w.heap.size ≤ g ∨ (g = G_0 ∨ some g = Value.ownBlock V0_0 ∨ some g = Value.ownBlock V0_1 ∨ some g = Value.ownBlock V0_2 ∨ some g = Value.ownBlock V0_3 ∨ some g = Value.ownBlock V0_4) := fun g hg => (m95 g hg).elim (fun x => .inl (Nat.le_trans fB.size x)) (c108 g)
   have m99 : ∀ g, Value.ownBlock u97 = some g → w.heap.size ≤ g ∨ (g = G_0 ∨ some g = Value.ownBlock V0_0 ∨ some g = Value.ownBlock V0_1 ∨ some g = Value.ownBlock V0_2 ∨ some g = Value.ownBlock V0_3 ∨ some g = Value.ownBlock V0_4) := fun g hg => (m99 g hg).elim (fun x => .inl (Nat.le_trans fB.size x)) (c108 g)
   have m103 : ∀ g, Value.ownBlock u101 = some g → w.heap.size ≤ g ∨ (g = G_0 ∨ some g = Value.ownBlock V0_0 ∨ some g = Value.ownBlock V0_1 ∨ some g = Value.ownBlock V0_2 ∨ some g = Value.ownBlock V0_3 ∨ some g = Value.ownBlock V0_4) := fun g hg => (m103 g hg).elim (fun x => .inl (Nat.le_trans fB.size x)) (c108 g)
   have fB := fB.call q84 c108
   refine ol_nil ?_
   obtain rfl := Option.some.inj h
   refine thn_i ?_
   exact ⟨u85, u89, u93, u97, u101, o86, o90, o94, o98, o102, m87, m91, m95, m99, m103, a105, a106, a107, e5, b_0, fB⟩
  refine cw_condF rfl c49 ?_
  refine cw_skip ?_
  obtain rfl := Option.some.inj h
  refine thn_i ?_
  exact ⟨V0_0, V0_1, V0_2, V0_3, V0_4, O0_0, O0_1, O0_2, O0_3, O0_4, M0_0, M0_1, M0_2, M0_3, M0_4, A_R0_0_R0_1, A_R0_0_R0_2, A_R0_1_R0_2, rfl, b_0, fB⟩
 rintro ρ110 w111 ⟨v26, v30, v34, v38, v42, o27, o31, o35, o39, o43, m29, m33, m37, m41, m45, a46, a47, a48, e5, b_0, fB⟩
 have h := h25
 refine cw_seq ?_
 refine cw_region ?_
 refine ol_val (v := .int .i64 t19) (xr_move rfl e5) rfl rfl rfl ?_
 refine ol_val (v := .int .i64 t19) (xr_assign rfl rfl) rfl rfl rfl ?_
 refine ol_nil ?_
 refine cw_ret ?_
 repeat (first | with_reducible refine thn_r ?_ | with_reducible refine blk_r ?_)
 obtain rfl := Option.some.inj h
 refine fin_ret1 Try.results94 rfl ?_
 exact ⟨_, rfl, v26, v30, v34, v38, v42, o27, m29, o31, m33, o35, m37, o39, m41, o43, m45, a46, a47, a48, rfl, b_0, fB⟩
def rickyardref05_Device_Fence.s1 (fu : Nat) : (Int × (List Int) × (List Int) × (List Int) × (List Bool) × (List Int) × Int × Int × Int) → Option (Sum ((List Int) × (List Int) × (List Int) × (List Bool) × (List Int) × Int × Int × Int) (Int × (List Int) × (List Int) × (List Int) × (List Bool) × (List Int) × Int × Int × Int)) := fun s50 => (if (decide (s50.1 < (List.length s50.2.1 : Int))) = true then (if 0 ≤ s50.1 ∧ s50.1 < (List.length s50.2.2.2.2.1 : Int) then (((if (ix s50.2.2.2.2.1 s50.1) = true then (if 0 ≤ s50.1 ∧ s50.1 < (List.length s50.2.2.2.1 : Int) then ((rickyardref05_Device_last.f fu (⟨s50.2.1, s50.2.2.1, s50.2.2.2.1, s50.2.2.2.2.1, s50.2.2.2.2.2.1, s50.2.2.2.2.2.2.1, s50.2.2.2.2.2.2.2.1, s50.2.2.2.2.2.2.2.2⟩ : S_rickyardref05_Device) s50.1 (ix s50.2.2.2.1 s50.1)).bind fun t133 => some (t133.Lasts, t133.Stored, t133.Sent, t133.Flushed, t133.Plan, t133.Since, t133.Left, t133.Steps)) else none) else some (s50.2.1, s50.2.2.1, s50.2.2.2.1, s50.2.2.2.2.1, s50.2.2.2.2.2.1, s50.2.2.2.2.2.2.1, s50.2.2.2.2.2.2.2.1, s50.2.2.2.2.2.2.2.2)) : Option ((List Int) × (List Int) × (List Int) × (List Bool) × (List Int) × Int × Int × Int)).bind fun x105 => some (Sum.inr ((IntKind.i64.wrap (s50.1 + 1)), x105.1, x105.2.1, x105.2.2.1, x105.2.2.2.1, x105.2.2.2.2.1, x105.2.2.2.2.2.1, x105.2.2.2.2.2.2.1, x105.2.2.2.2.2.2.2))) else none) else some (Sum.inl (s50.2.1, s50.2.2.1, s50.2.2.2.1, s50.2.2.2.2.1, s50.2.2.2.2.2.1, s50.2.2.2.2.2.2.1, s50.2.2.2.2.2.2.2.1, s50.2.2.2.2.2.2.2.2)))
def rickyardref05_Device_Fence.f (fu : Nat) (a0 : S_rickyardref05_Device) : Option (Int × S_rickyardref05_Device) := ((rickyardref05_Device_error.f fu a0 0 1).bind fun t19 => (((if (decide (t19 = 0)) = true then ((loopM (rickyardref05_Device_Fence.s1 fu) fu (0, a0.Lasts, a0.Stored, a0.Sent, a0.Flushed, a0.Plan, a0.Since, a0.Left, a0.Steps)).bind fun e51 => ((rickyardref05_Device_step.f fu (⟨e51.1, e51.2.1, e51.2.2.1, e51.2.2.2.1, e51.2.2.2.2.1, e51.2.2.2.2.2.1, e51.2.2.2.2.2.2.1, e51.2.2.2.2.2.2.2⟩ : S_rickyardref05_Device)).bind fun t165 => some (t165.Lasts, t165.Stored, t165.Sent, t165.Flushed, t165.Plan, t165.Since, t165.Left, t165.Steps))) else some (a0.Lasts, a0.Stored, a0.Sent, a0.Flushed, a0.Plan, a0.Since, a0.Left, a0.Steps)) : Option ((List Int) × (List Int) × (List Int) × (List Bool) × (List Int) × Int × Int × Int)).bind fun x23 => some (t19, (⟨x23.1, x23.2.1, x23.2.2.1, x23.2.2.2.1, x23.2.2.2.2.1, x23.2.2.2.2.2.1, x23.2.2.2.2.2.2.1, x23.2.2.2.2.2.2.2⟩ : S_rickyardref05_Device))))
theorem rickyardref05_Device_Fence.ok (fu : Nat) (w : World) (a0 : S_rickyardref05_Device) (G_0 : Nat) (V0_0 : Value) (O0_0 : Own (kI .u64) 22 w 0 V0_0 a0.Lasts) (V0_1 : Value) (O0_1 : Own (kI .u64) 22 w 0 V0_1 a0.Stored) (V0_2 : Value) (O0_2 : Own (kI .u64) 22 w 0 V0_2 a0.Sent) (V0_3 : Value) (O0_3 : Own kB 4 w 0 V0_3 a0.Flushed) (V0_4 : Value) (O0_4 : Own (kI .i64) 3 w 0 V0_4 a0.Plan) (b_0 : Blk w G_0 65 [Seg.cell V0_0 O0_0.one, Seg.cell V0_1 O0_1.one, Seg.cell V0_2 O0_2.one, Seg.cell V0_3 O0_3.one, Seg.cell V0_4 O0_4.one, (sI a0.Since), (sI a0.Left), (sI a0.Steps)]) (A_R0_0_R0_1 : OffV V0_0 V0_1) (A_R0_0_R0_2 : OffV V0_0 V0_2) (A_R0_1_R0_2 : OffV V0_1 V0_2) (r : Int × S_rickyardref05_Device) (h : rickyardref05_Device_Fence.f fu a0 = some r) :
  Calls Try.prog 95 (([(pt G_0 0)] : List Value).toArray) w (fun e w' => ∃ v, e = .returned v ∧ ∃ u1 : Value, ∃ u4 : Value, ∃ u7 : Value, ∃ u10 : Value, ∃ u13 : Value, ∃ o2 : Own (kI .u64) 22 w' 0 u1 r.2.Lasts, ∃ m3 : ∀ g, Value.ownBlock u1 = some g → w.heap.size ≤ g ∨ (g = G_0 ∨ some g = Value.ownBlock V0_0 ∨ some g = Value.ownBlock V0_1 ∨ some g = Value.ownBlock V0_2 ∨ some g = Value.ownBlock V0_3 ∨ some g = Value.ownBlock V0_4), ∃ o5 : Own (kI .u64) 22 w' 0 u4 r.2.Stored, ∃ m6 : ∀ g, Value.ownBlock u4 = some g → w.heap.size ≤ g ∨ (g = G_0 ∨ some g = Value.ownBlock V0_0 ∨ some g = Value.ownBlock V0_1 ∨ some g = Value.ownBlock V0_2 ∨ some g = Value.ownBlock V0_3 ∨ some g = Value.ownBlock V0_4), ∃ o8 : Own (kI .u64) 22 w' 0 u7 r.2.Sent, ∃ m9 : ∀ g, Value.ownBlock u7 = some g → w.heap.size ≤ g ∨ (g = G_0 ∨ some g = Value.ownBlock V0_0 ∨ some g = Value.ownBlock V0_1 ∨ some g = Value.ownBlock V0_2 ∨ some g = Value.ownBlock V0_3 ∨ some g = Value.ownBlock V0_4), ∃ o11 : Own kB 4 w' 0 u10 r.2.Flushed, ∃ m12 : ∀ g, Value.ownBlock u10 = some g → w.heap.size ≤ g ∨ (g = G_0 ∨ some g = Value.ownBlock V0_0 ∨ some g = Value.ownBlock V0_1 ∨ some g = Value.ownBlock V0_2 ∨ some g = Value.ownBlock V0_3 ∨ some g = Value.ownBlock V0_4), ∃ o14 : Own (kI .i64) 3 w' 0 u13 r.2.Plan, ∃ m15 : ∀ g, Value.ownBlock u13 = some g → w.heap.size ≤ g ∨ (g = G_0 ∨ some g = Value.ownBlock V0_0 ∨ some g = Value.ownBlock V0_1 ∨ some g = Value.ownBlock V0_2 ∨ some g = Value.ownBlock V0_3 ∨ some g = Value.ownBlock V0_4), ∃ a16 : OffV u1 u4, ∃ a17 : OffV u1 u7, ∃ a18 : OffV u4 u7, v = .int .i64 r.1 ∧ Blk w' G_0 65 [Seg.cell u1 o2.one, Seg.cell u4 o5.one, Seg.cell u7 o8.one, Seg.cell u10 o11.one, Seg.cell u13 o14.one, (sI r.2.Since), (sI r.2.Left), (sI r.2.Steps)] ∧ Fr (fun j => j = G_0 ∨ some j = Value.ownBlock V0_0 ∨ some j = Value.ownBlock V0_1 ∨ some j = Value.ownBlock V0_2 ∨ some j = Value.ownBlock V0_3 ∨ some j = Value.ownBlock V0_4) w w') := by
 unfold rickyardref05_Device_Fence.f at h
 have fB : Fr (fun j => j = G_0 ∨ some j = Value.ownBlock V0_0 ∨ some j = Value.ownBlock V0_1 ∨ some j = Value.ownBlock V0_2 ∨ some j = Value.ownBlock V0_3 ∨ some j = Value.ownBlock V0_4) w w := Fr.refl _ _
 have M0_0 : ∀ g, Value.ownBlock V0_0 = some g → w.heap.size ≤ g ∨ (g = G_0 ∨ some g = Value.ownBlock V0_0 ∨ some g = Value.ownBlock V0_1 ∨ some g = Value.ownBlock V0_2 ∨ some g = Value.ownBlock V0_3 ∨ some g = Value.ownBlock V0_4) := fun g hg => .inr (.inr (.inl hg.symm))
 have M0_1 : ∀ g, Value.ownBlock V0_1 = some g → w.heap.size ≤ g ∨ (g = G_0 ∨ some g = Value.ownBlock V0_0 ∨ some g = Value.ownBlock V0_1 ∨ some g = Value.ownBlock V0_2 ∨ some g = Value.ownBlock V0_3 ∨ some g = Value.ownBlock V0_4) := fun g hg => .inr (.inr (.inr (.inl hg.symm)))
 have M0_2 : ∀ g, Value.ownBlock V0_2 = some g → w.heap.size ≤ g ∨ (g = G_0 ∨ some g = Value.ownBlock V0_0 ∨ some g = Value.ownBlock V0_1 ∨ some g = Value.ownBlock V0_2 ∨ some g = Value.ownBlock V0_3 ∨ some g = Value.ownBlock V0_4) := fun g hg => .inr (.inr (.inr (.inr (.inl hg.symm))))
 have M0_3 : ∀ g, Value.ownBlock V0_3 = some g → w.heap.size ≤ g ∨ (g = G_0 ∨ some g = Value.ownBlock V0_0 ∨ some g = Value.ownBlock V0_1 ∨ some g = Value.ownBlock V0_2 ∨ some g = Value.ownBlock V0_3 ∨ some g = Value.ownBlock V0_4) := fun g hg => .inr (.inr (.inr (.inr (.inr (.inl hg.symm)))))
 have M0_4 : ∀ g, Value.ownBlock V0_4 = some g → w.heap.size ≤ g ∨ (g = G_0 ∨ some g = Value.ownBlock V0_0 ∨ some g = Value.ownBlock V0_1 ∨ some g = Value.ownBlock V0_2 ∨ some g = Value.ownBlock V0_3 ∨ some g = Value.ownBlock V0_4) := fun g hg => .inr (.inr (.inr (.inr (.inr (.inr hg.symm)))))
 refine calls_cw Try.func95 rfl Try.ntmps95 rfl ?_
 refine cw_seq ?_
 refine cw_region ?_
 refine ol_val (v := .int .i64 0) (xr_assign rfl rfl) rfl rfl rfl ?_
 refine ol_nil ?_
 refine cw_seq ?_
 refine cw_region ?_
 refine ol_val (v := (pt G_0 0)) (xr_move rfl rfl) rfl rfl rfl ?_
 obtain ⟨t19, k20, h⟩ := bs h
 refine ol_op (opv_call rfl cal124 (ac rfl (ac rfl (ac rfl an))) (rickyardref05_Device_error.ok fu _ a0 G_0 V0_0 (O0_0.rd) V0_1 (O0_1.rd) V0_2 (O0_2.rd) V0_3 (O0_3.rd) V0_4 (O0_4.rd) b_0 0 1 _ k20)) rfl rfl rfl ?_
 rintro _ w22 ⟨rfl, q21⟩
 have b_0 := b_0.gr q21
 have O0_0 := O0_0.gr q21
 have O0_1 := O0_1.gr q21
 have O0_2 := O0_2.gr q21
 have O0_3 := O0_3.gr q21
 have O0_4 := O0_4.gr q21
 have fB := fB.gr q21
 refine ol_val (v := .int .i64 t19) (xr_assign rfl rfl) rfl rfl rfl ?_
 refine ol_nil ?_
 refine cw_seq ?_
 refine cw_seq ?_
 refine cw_region ?_
 refine ol_val (v := .int .i64 t19) (xr_move rfl rfl) rfl rfl rfl ?_
 refine ol_val (v := .bool (decide (t19 = 0))) (xr_eqI rfl Try.underlying3 rfl rfl rfl) rfl rfl rfl ?_
 refine ol_nil ?_
 obtain ⟨x23, j24, h25⟩ := bs h
 refine cw_mid (fun ρ' w' => ∃ v26 : Value, ∃ v30 : Value, ∃ v34 : Value, ∃ v38 : Value, ∃ v42 : Value, ∃ o27 : Own (kI .u64) 22 w' 0 v26 x23.1, ∃ o31 : Own (kI .u64) 22 w' 0 v30 x23.2.1, ∃ o35 : Own (kI .u64) 22 w' 0 v34 x23.2.2.1, ∃ o39 : Own kB 4 w' 0 v38 x23.2.2.2.1, ∃ o43 : Own (kI .i64) 3 w' 0 v42 x23.2.2.2.2.1, ∃ m29 : ∀ g, Value.ownBlock v26 = some g → w.heap.size ≤ g ∨ (g = G_0 ∨ some g = Value.ownBlock V0_0 ∨ some g = Value.ownBlock V0_1 ∨ some g = Value.ownBlock V0_2 ∨ some g = Value.ownBlock V0_3 ∨ some g = Value.ownBlock V0_4), ∃ m33 : ∀ g, Value.ownBlock v30 = some g → w.heap.size ≤ g ∨ (g = G_0 ∨ some g = Value.ownBlock V0_0 ∨ some g = Value.ownBlock V0_1 ∨ some g = Value.ownBlock V0_2 ∨ some g = Value.ownBlock V0_3 ∨ some g = Value.ownBlock V0_4), ∃ m37 : ∀ g, Value.ownBlock v34 = some g → w.heap.size ≤ g ∨ (g = G_0 ∨ some g = Value.ownBlock V0_0 ∨ some g = Value.ownBlock V0_1 ∨ some g = Value.ownBlock V0_2 ∨ some g = Value.ownBlock V0_3 ∨ some g = Value.ownBlock V0_4), ∃ m41 : ∀ g, Value.ownBlock v38 = some g → w.heap.size ≤ g ∨ (g = G_0 ∨ some g = Value.ownBlock V0_0 ∨ some g = Value.ownBlock V0_1 ∨ some g = Value.ownBlock V0_2 ∨ some g = Value.ownBlock V0_3 ∨ some g = Value.ownBlock V0_4), ∃ m45 : ∀ g, Value.ownBlock v42 = some g → w.heap.size ≤ g ∨ (g = G_0 ∨ some g = Value.ownBlock V0_0 ∨ some g = Value.ownBlock V0_1 ∨ some g = Value.ownBlock V0_2 ∨ some g = Value.ownBlock V0_3 ∨ some g = Value.ownBlock V0_4), OffV v26 v30 ∧ OffV v26 v34 ∧ OffV v30 v34 ∧ ρ' 3 = .int .i64 t19 ∧ Blk w' G_0 65 [Seg.cell v26 o27.one, Seg.cell v30 o31.one, Seg.cell v34 o35.one, Seg.cell v38 o39.one, Seg.cell v42 o43.one, (sI x23.2.2.2.2.2.1), (sI x23.2.2.2.2.2.2.1), (sI x23.2.2.2.2.2.2.2)] ∧ Fr (fun j => j = G_0 ∨ some j = Value.ownBlock V0_0 ∨ some j = Value.ownBlock V0_1 ∨ some j = Value.ownBlock V0_2 ∨ some j = Value.ownBlock V0_3 ∨ some j = Value.ownBlock V0_4) w w') ?_ ?_
 ·have h := j24
  rcases is h with ⟨c49, h⟩ | ⟨c49, h⟩
  ·refine cw_condT rfl c49 ?_
   refine cw_seq ?_
   refine cw_seq ?_
   refine cw_region ?_
   refine ol_val (v := .int .i64 0) (xr_assign rfl rfl) rfl rfl rfl ?_
   refine ol_nil ?_
   obtain ⟨e51, l52, h53⟩ := bs h
   refine cw_mid (fun ρ' w' => ∃ v54 : Value, ∃ v58 : Value, ∃ v62 : Value, ∃ v66 : Value, ∃ v70 : Value, ∃ o55 : Own (kI .u64) 22 w' 0 v54 e51.1, ∃ o59 : Own (kI .u64) 22 w' 0 v58 e51.2.1, ∃ o63 : Own (kI .u64) 22 w' 0 v62 e51.2.2.1, ∃ o67 : Own kB 4 w' 0 v66 e51.2.2.2.1, ∃ o71 : Own (kI .i64) 3 w' 0 v70 e51.2.2.2.2.1, ∃ m57 : ∀ g, Value.ownBlock v54 = some g → w.heap.size ≤ g ∨ (g = G_0 ∨ some g = Value.ownBlock V0_0 ∨ some g = Value.ownBlock V0_1 ∨ some g = Value.ownBlock V0_2 ∨ some g = Value.ownBlock V0_3 ∨ some g = Value.ownBlock V0_4), ∃ m61 : ∀ g, Value.ownBlock v58 = some g → w.heap.size ≤ g ∨ (g = G_0 ∨ some g = Value.ownBlock V0_0 ∨ some g = Value.ownBlock V0_1 ∨ some g = Value.ownBlock V0_2 ∨ some g = Value.ownBlock V0_3 ∨ some g = Value.ownBlock V0_4), ∃ m65 : ∀ g, Value.ownBlock v62 = some g → w.heap.size ≤ g ∨ (g = G_0 ∨ some g = Value.ownBlock V0_0 ∨ some g = Value.ownBlock V0_1 ∨ some g = Value.ownBlock V0_2 ∨ some g = Value.ownBlock V0_3 ∨ some g = Value.ownBlock V0_4), ∃ m69 : ∀ g, Value.ownBlock v66 = some g → w.heap.size ≤ g ∨ (g = G_0 ∨ some g = Value.ownBlock V0_0 ∨ some g = Value.ownBlock V0_1 ∨ some g = Value.ownBlock V0_2 ∨ some g = Value.ownBlock V0_3 ∨ some g = Value.ownBlock V0_4), ∃ m73 : ∀ g, Value.ownBlock v70 = some g → w.heap.size ≤ g ∨ (g = G_0 ∨ some g = Value.ownBlock V0_0 ∨ some g = Value.ownBlock V0_1 ∨ some g = Value.ownBlock V0_2 ∨ some g = Value.ownBlock V0_3 ∨ some g = Value.ownBlock V0_4), OffV v54 v58 ∧ OffV v54 v62 ∧ OffV v58 v62 ∧ ρ' 0 = (pt G_0 0) ∧ ρ' 3 = .int .i64 t19 ∧ Blk w' G_0 65 [Seg.cell v54 o55.one, Seg.cell v58 o59.one, Seg.cell v62 o63.one, Seg.cell v66 o67.one, Seg.cell v70 o71.one, (sI e51.2.2.2.2.2.1), (sI e51.2.2.2.2.2.2.1), (sI e51.2.2.2.2.2.2.2)] ∧ Fr (fun j => j = G_0 ∨ some j = Value.ownBlock V0_0 ∨ some j = Value.ownBlock V0_1 ∨ some j = Value.ownBlock V0_2 ∨ some j = Value.ownBlock V0_3 ∨ some j = Value.ownBlock V0_4) w w') ?_ ?_
   ·refine cw_block ?_
    refine cw_round (fun (s50 : Int × (List Int) × (List Int) × (List Int) × (List Bool) × (List Int) × Int × Int × Int) ρ' w' => ∃ v77 : Value, ∃ v81 : Value, ∃ v85 : Value, ∃ v89 : Value, ∃ v93 : Value, ∃ o78 : Own (kI .u64) 22 w' 0 v77 s50.2.1, ∃ o82 : Own (kI .u64) 22 w' 0 v81 s50.2.2.1, ∃ o86 : Own (kI .u64) 22 w' 0 v85 s50.2.2.2.1, ∃ o90 : Own kB 4 w' 0 v89 s50.2.2.2.2.1, ∃ o94 : Own (kI .i64) 3 w' 0 v93 s50.2.2.2.2.2.1, ∃ m80 : ∀ g, Value.ownBlock v77 = some g → w.heap.size ≤ g ∨ (g = G_0 ∨ some g = Value.ownBlock V0_0 ∨ some g = Value.ownBlock V0_1 ∨ some g = Value.ownBlock V0_2 ∨ some g = Value.ownBlock V0_3 ∨ some g = Value.ownBlock V0_4), ∃ m84 : ∀ g, Value.ownBlock v81 = some g → w.heap.size ≤ g ∨ (g = G_0 ∨ some g = Value.ownBlock V0_0 ∨ some g = Value.ownBlock V0_1 ∨ some g = Value.ownBlock V0_2 ∨ some g = Value.ownBlock V0_3 ∨ some g = Value.ownBlock V0_4), ∃ m88 : ∀ g, Value.ownBlock v85 = some g → w.heap.size ≤ g ∨ (g = G_0 ∨ some g = Value.ownBlock V0_0 ∨ some g = Value.ownBlock V0_1 ∨ some g = Value.ownBlock V0_2 ∨ some g = Value.ownBlock V0_3 ∨ some g = Value.ownBlock V0_4), ∃ m92 : ∀ g, Value.ownBlock v89 = some g → w.heap.size ≤ g ∨ (g = G_0 ∨ some g = Value.ownBlock V0_0 ∨ some g = Value.ownBlock V0_1 ∨ some g = Value.ownBlock V0_2 ∨ some g = Value.ownBlock V0_3 ∨ some g = Value.ownBlock V0_4), ∃ m96 : ∀ g, Value.ownBlock v93 = some g → w.heap.size ≤ g ∨ (g = G_0 ∨ some g = Value.ownBlock V0_0 ∨ some g = Value.ownBlock V0_1 ∨ some g = Value.ownBlock V0_2 ∨ some g = Value.ownBlock V0_3 ∨ some g = Value.ownBlock V0_4), OffV v77 v81 ∧ OffV v77 v85 ∧ OffV v81 v85 ∧ ρ' 0 = (pt G_0 0) ∧ ρ' 3 = .int .i64 t19 ∧ ρ' 4 = .int .i64 s50.1 ∧ Blk w' G_0 65 [Seg.cell v77 o78.one, Seg.cell v81 o82.one, Seg.cell v85 o86.one, Seg.cell v89 o90.one, Seg.cell v93 o94.one, (sI s50.2.2.2.2.2.2.1), (sI s50.2.2.2.2.2.2.2.1), (sI s50.2.2.2.2.2.2.2.2)] ∧ Fr (fun j => j = G_0 ∨ some j = Value.ownBlock V0_0 ∨ some j = Value.ownBlock V0_1 ∨ some j = Value.ownBlock V0_2 ∨ some j = Value.ownBlock V0_3 ∨ some j = Value.ownBlock V0_4) w w') l52 ?_ ?_
    ·skip
     exact ⟨V0_0, V0_1, V0_2, V0_3, V0_4, O0_0, O0_1, O0_2, O0_3, O0_4, M0_0, M0_1, M0_2, M0_3, M0_4, A_R0_0_R0_1, A_R0_0_R0_2, A_R0_1_R0_2, rfl, rfl, rfl, b_0, fB⟩
    rintro s50 x102 ρ100 w101 ⟨v77, v81, v85, v89, v93, o78, o82, o86, o90, o94, m80, m84, m88, m92, m96, a97, a98, a99, e0, e3, e4, b_0, fB⟩ h
    unfold rickyardref05_Device_Fence.s1 at h
    refine cw_seq ?_
    refine cw_seq ?_
    refine cw_region ?_
    refine ol_val (v := .int .i64 s50.1) (xr_move rfl e4) rfl rfl rfl ?_
    refine ol_val (v := (pt G_0 0)) (xr_move rfl e0) rfl rfl rfl ?_
    refine ol_val (v := (pt G_0 0)) (xr_nilCheck rfl rfl) rfl rfl rfl ?_
    refine ol_val (v := (pt G_0 0)) (xr_fieldAddr (p := 0) (q := 0) rfl fl65_0 rfl) rfl rfl rfl ?_
    refine ol_val (v := v77) (xr_load1 (v := v77) rfl ag46 rfl (b_0.seg 0 rfl rfl)) rfl rfl rfl ?_
    refine ol_val (v := .int .i64 (List.length s50.2.1 : Int)) (xr_lenR rfl Try.underlying46 rfl o78.rd) rfl rfl rfl ?_
    refine ol_val (v := .bool (decide (s50.1 < (List.length s50.2.1 : Int)))) (xr_lss rfl rfl rfl) rfl rfl rfl ?_
    refine ol_nil ?_
    rcases is h with ⟨c103, h⟩ | ⟨c103, h⟩
    ·refine cw_condT rfl c103 ?_
     refine cw_skip ?_
     refine cw_seq ?_
     refine cw_block ?_
     refine cw_seq ?_
     refine cw_region ?_
     refine ol_val (v := (pt G_0 0)) (xr_move rfl e0) rfl rfl rfl ?_
     refine ol_val (v := (pt G_0 0)) (xr_nilCheck rfl rfl) rfl rfl rfl ?_
     refine ol_val (v := (pt G_0 3)) (xr_fieldAddr (p := 0) (q := 3) rfl fl65_3 rfl) rfl rfl rfl ?_
     refine ol_val (v := v89) (xr_load1 (v := v89) rfl ag63 rfl (b_0.seg 3 rfl rfl)) rfl rfl rfl ?_
     refine ol_val (v := .int .i64 s50.1) (xr_move rfl e4) rfl rfl rfl ?_
     obtain ⟨g104, h⟩ := gs h
     refine ol_val (v := (pt ((sb v89)) (so v89 + Int.toNat s50.1 * 1))) (xr_indexR (K := kB) (v := v89) rfl Try.underlying63 sz4 rfl o90.rd rfl g104.1 g104.2) rfl rfl rfl ?_
     refine ol_val (v := .bool (ix s50.2.2.2.2.1 s50.1)) (xr_load1 (v := .bool (ix s50.2.2.2.2.1 s50.1)) rfl ag4 rfl (o90.rd.elem g104.1 g104.2)) rfl rfl rfl ?_
     refine ol_nil ?_
     obtain ⟨x105, j106, h107⟩ := bs h
     refine cw_mid (fun ρ' w' => ∃ v108 : Value, ∃ v112 : Value, ∃ v116 : Value, ∃ v120 : Value, ∃ v124 : Value, ∃ o109 : Own (kI .u64) 22 w' 0 v108 x105.1, ∃ o113 : Own (kI .u64) 22 w' 0 v112 x105.2.1, ∃ o117 : Own (kI .u64) 22 w' 0 v116 x105.2.2.1, ∃ o121 : Own kB 4 w' 0 v120 x105.2.2.2.1, ∃ o125 : Own (kI .i64) 3 w' 0 v124 x105.2.2.2.2.1, ∃ m111 : ∀ g, Value.ownBlock v108 = some g → w.heap.size ≤ g ∨ (g = G_0 ∨ some g = Value.ownBlock V0_0 ∨ some g = Value.ownBlock V0_1 ∨ some g = Value.ownBlock V0_2 ∨ some g = Value.ownBlock V0_3 ∨ some g = Value.ownBlock V0_4), ∃ m115 : ∀ g, Value.ownBlock v112 = some g → w.heap.size ≤ g ∨ (g = G_0 ∨ some g = Value.ownBlock V0_0 ∨ some g = Value.ownBlock V0_1 ∨ some g = Value.ownBlock V0_2 ∨ some g = Value.ownBlock V0_3 ∨ some g = Value.ownBlock V0_4), ∃ m119 : ∀ g, Value.ownBlock v116 = some g → w.heap.size ≤ g ∨ (g = G_0 ∨ some g = Value.ownBlock V0_0 ∨ some g = Value.ownBlock V0_1 ∨ some g = Value.ownBlock V0_2 ∨ some g = Value.ownBlock V0_3 ∨ some g = Value.ownBlock V0_4), ∃ m123 : ∀ g, Value.ownBlock v120 = some g → w.heap.size ≤ g ∨ (g = G_0 ∨ some g = Value.ownBlock V0_0 ∨ some g = Value.ownBlock V0_1 ∨ some g = Value.ownBlock V0_2 ∨ some g = Value.ownBlock V0_3 ∨ some g = Value.ownBlock V0_4), ∃ m127 : ∀ g, Value.ownBlock v124 = some g → w.heap.size ≤ g ∨ (g = G_0 ∨ some g = Value.ownBlock V0_0 ∨ some g = Value.ownBlock V0_1 ∨ some g = Value.ownBlock V0_2 ∨ some g = Value.ownBlock V0_3 ∨ some g = Value.ownBlock V0_4), OffV v108 v112 ∧ OffV v108 v116 ∧ OffV v112 v116 ∧ ρ' 0 = (pt G_0 0) ∧ ρ' 3 = .int .i64 t19 ∧ ρ' 4 = .int .i64 s50.1 ∧ Blk w' G_0 65 [Seg.cell v108 o109.one, Seg.cell v112 o113.one, Seg.cell v116 o117.one, Seg.cell v120 o121.one, Seg.cell v124 o125.one, (sI x105.2.2.2.2.2.1), (sI x105.2.2.2.2.2.2.1), (sI x105.2.2.2.2.2.2.2)] ∧ Fr (fun j => j = G_0 ∨ some j = Value.ownBlock V0_0 ∨ some j = Value.ownBlock V0_1 ∨ some j = Value.ownBlock V0_2 ∨ some j = Value.ownBlock V0_3 ∨ some j = Value.ownBlock V0_4) w w') ?_ ?_
     ·have h := j106
      rcases is h with ⟨c131, h⟩ | ⟨c131, h⟩
      ·refine cw_condT rfl c131 ?_
       refine cw_region ?_
       refine ol_val (v := (pt G_0 0)) (xr_move rfl e0) rfl rfl rfl ?_
       refine ol_val (v := .int .i64 s50.1) (xr_move rfl e4) rfl rfl rfl ?_
       refine ol_val (v := (pt G_0 0)) (xr_move rfl e0) rfl rfl rfl ?_
       refine ol_val (v := (pt G_0 0)) (xr_nilCheck rfl rfl) rfl rfl rfl ?_
       refine ol_val (v := (pt G_0 2)) (xr_fieldAddr (p := 0) (q := 2) rfl fl65_2 rfl) rfl rfl rfl ?_
       refine ol_val (v := v85) (xr_load1 (v := v85) rfl ag46 rfl (b_0.seg 2 rfl rfl)) rfl rfl rfl ?_
       refine ol_val (v := .int .i64 s50.1) (xr_move rfl e4) rfl rfl rfl ?_
       obtain ⟨g132, h⟩ := gs h
       refine ol_val (v := (pt ((sb v85)) (so v85 + Int.toNat s50.1 * 1))) (xr_indexR (K := (kI .u64)) (v := v85) rfl Try.underlying46 sz22 rfl o86.rd rfl g132.1 g132.2) rfl rfl rfl ?_
       refine ol_val (v := .int .u64 (ix s50.2.2.2.1 s50.1)) (xr_load1 (v := .int .u64 (ix s50.2.2.2.1 s50.1)) rfl ag22 rfl (o86.rd.elem g132.1 g132.2)) rfl rfl rfl ?_
       obtain ⟨t133, k134, h⟩ := bs h
       have c159 : ∀ k, (k = G_0 ∨ some k = Value.ownBlock v77 ∨ some k = Value.ownBlock v81 ∨ some k = Value.ownBlock v85 ∨ some k = Value.ownBlock v89 ∨ some k = Value.ownBlock v93) → (w.heap.size ≤ k ∨ (k = G_0 ∨ some k = Value.ownBlock V0_0 ∨ some k = Value.ownBlock V0_1 ∨ some k = Value.ownBlock V0_2 ∨ some k = Value.ownBlock V0_3 ∨ some k = Value.ownBlock V0_4)) := (cv_or (cv_eq (.inr (.inl rfl))) (cv_or (cv_own m80) (cv_or (cv_own m84) (cv_or (cv_own m88) (cv_or (cv_own m92) (cv_own m96))))))
       refine ol_op (opv_call rfl cal126 (ac rfl (ac rfl (ac rfl an))) (rickyardref05_Device_last.ok fu _ (⟨s50.2.1, s50.2.2.1, s50.2.2.2.1, s50.2.2.2.2.1, s50.2.2.2.2.2.1, s50.2.2.2.2.2.2.1, s50.2.2.2.2.2.2.2.1, s50.2.2.2.2.2.2.2.2⟩ : S_rickyardref05_Device) G_0 v77 (Own.base o78 (Nat.zero_le _)) v81 (Own.base o82 (Nat.zero_le _)) v85 (Own.base o86 (Nat.zero_le _)) v89 (Own.base o90 (Nat.zero_le _)) v93 (Own.base o94 (Nat.zero_le _)) b_0 s50.1 (ix s50.2.2.2.1 s50.1) a97 a98 a99 _ k134)) rfl rfl rfl ?_
       rintro _ w160 ⟨u136, u140, u144, u148, u152, o137, m138, o141, m142, o145, m146, o149, m150, o153, m154, a156, a157, a158, rfl, b_0, q135⟩
       have m138 : ∀ g, Value.ownBlock u136 = some g → w.heap.size ≤ g ∨ (g = G_0 ∨ some g = Value.ownBlock V0_0 ∨ some g = Value.ownBlock V0_1 ∨ some g = Value.ownBlock V0_2 ∨ some g = Value.ownBlock V0_3 ∨ some g = Value.ownBlock V0_4) := fun g hg => (m138 g hg).elim (fun x => .inl (Nat.le_trans fB.size x)) (c159 g)
       have m142 : ∀ g, Value.ownBlock u140 = some g → w.heap.size ≤ g ∨ (g = G_0 ∨ some g = Value.ownBlock V0_0 ∨ some g = Value.ownBlock V0_1 ∨ some g = Value.ownBlock V0_2 ∨ some g = Value.ownBlock V0_3 ∨ some g = Value.ownBlock V0_4) := fun g hg => (m142 g hg).elim (fun x => .inl (Nat.le_trans fB.size x)) (c159 g)
       have m146 : ∀ g, Value.ownBlock u144 = some g → w.heap.size ≤ g ∨ (g = G_0 ∨ some g = Value.ownBlock V0_0 ∨ some g = Value.ownBlock V0_1 ∨ some g = Value.ownBlock V0_2 ∨ some g = Value.ownBlock V0_3 ∨ some g = Value.ownBlock V0_4) := fun g hg => (m146 g hg).elim (fun x => .inl (Nat.le_trans fB.size x)) (c159 g)
       have m150 : ∀ g, Value.ownBlock u148 = some g → w.heap.size ≤ g ∨ (g = G_0 ∨ some g = Value.ownBlock V0_0 ∨ some g = Value.ownBlock V0_1 ∨ some g = Value.ownBlock V0_2 ∨ some g = Value.ownBlock V0_3 ∨ some g = Value.ownBlock V0_4) := fun g hg => (m150 g hg).elim (fun x => .inl (Nat.le_trans fB.size x)) (c159 g)
       have m154 : ∀ g, Value.ownBlock u152 = some g → w.heap.size ≤ g ∨ (g = G_0 ∨ some g = Value.ownBlock V0_0 ∨ some g = Value.ownBlock V0_1 ∨ some g = Value.ownBlock V0_2 ∨ some g = Value.ownBlock V0_3 ∨ some g = Value.ownBlock V0_4) := fun g hg => (m154 g hg).elim (fun x => .inl (Nat.le_trans fB.size x)) (c159 g)
       have fB := fB.call q135 c159
       refine ol_nil ?_
       obtain rfl := Option.some.inj h
       refine thn_i ?_
       exact ⟨u136, u140, u144, u148, u152, o137, o141, o145, o149, o153, m138, m142, m146, m150, m154, a156, a157, a158, e0, e3, e4, b_0, fB⟩
      refine cw_condF rfl c131 ?_
      refine cw_skip ?_
      obtain rfl := Option.some.inj h
      refine thn_i ?_
      exact ⟨v77, v81, v85, v89, v93, o78, o82, o86, o90, o94, m80, m84, m88, m92, m96, a97, a98, a99, e0, e3, e4, b_0, fB⟩
     rintro ρ161 w162 ⟨v108, v112, v116, v120, v124, o109, o113, o117, o121, o125, m111, m115, m119, m123, m127, a128, a129, a130, e0, e3, e4, b_0, fB⟩
     have h := h107
     refine blk_i ?_
     refine cw_region ?_
     refine ol_val (v := .int .i64 s50.1) (xr_move rfl e4) rfl rfl rfl ?_
     refine ol_val (v := .int .i64 (IntKind.i64.wrap (s50.1 + 1))) (xr_add rfl rfl rfl) rfl rfl rfl ?_
     refine ol_val (v := .int .i64 (IntKind.i64.wrap (s50.1 + 1))) (xr_assign rfl rfl) rfl rfl rfl ?_
     refine ol_nil ?_
     obtain rfl := Option.some.inj h
     refine lp_in ?_
     exact ⟨v108, v112, v116, v120, v124, o109, o113, o117, o121, o125, m111, m115, m119, m123, m127, a128, a129, a130, e0, e3, rfl, b_0, fB⟩
    refine cw_condF rfl c103 ?_
    refine cw_exit ?_
    repeat (first | with_reducible refine thn_e ?_ | with_reducible refine blk_e rfl ?_)
    obtain rfl := Option.some.inj h
    refine lp_exit ?_
    rintro rfl
    refine thn_x ?_
    exact ⟨v77, v81, v85, v89, v93, o78, o82, o86, o90, o94, m80, m84, m88, m92, m96, a97, a98, a99, e0, e3, b_0, fB⟩
   rintro ρ163 w164 ⟨v54, v58, v62, v66, v70, o55, o59, o63, o67, o71, m57, m61, m65, m69, m73, a74, a75, a76, e0, e3, b_0, fB⟩
   have h := h53
   refine cw_region ?_
   refine ol_val (v := (pt G_0 0)) (xr_move rfl e0) rfl rfl rfl ?_
   obtain ⟨t165, k166, h⟩ := bs h
   have c191 : ∀ k, (k = G_0 ∨ some k = Value.ownBlock v54 ∨ some k = Value.ownBlock v58 ∨ some k = Value.ownBlock v62 ∨ some k = Value.ownBlock v66 ∨ some k = Value.ownBlock v70) → (w.heap.size ≤ k ∨ (k = G_0 ∨ some k = Value.ownBlock V0_0 ∨ some k = Value.ownBlock V0_1 ∨ some k = Value.ownBlock V0_2 ∨ some k = Value.ownBlock V0_3 ∨ some k = Value.ownBlock V0_4)) := (cv_or (cv_eq (.inr (.inl rfl))) (cv_or (cv_own m57) (cv_or (cv_own m61) (cv_or (cv_own m65) (cv_or (cv_own m69) (cv_own m73))))))
   refine ol_op (opv_call rfl cal125 (ac rfl an) (rickyardref05_Device_step.ok fu _ (⟨e51.1, e51.2.1, e51.2.2.1, e51.2.2.2.1, e51.2.2.2.2.1, e51.2.2.2.2.2.1, e51.2.2.2.2.2.2.1, e51.2.2.2.2.2.2.2⟩ : S_rickyardref05_Device) G_0 v54 (Own.base o55 (Nat.zero_le _)) v58 (Own.base o59 (Nat.zero_le _)) v62 (Own.base o63 (Nat.zero_le _)) v66 (Own.base o67 (Nat.zero_le _)) v70 (Own.base o71 (Nat.zero_le _)) b_0 a74 a75 a76 _ k166)) rfl rfl rfl ?_
   rintro _ w192 ⟨u168, u172, u176, u180, u184, o169, m170, o173, m174, o177, m178, o181, m182, o185, m186, a188, a189, a190, rfl, b_0, q167⟩
   have m170 : ∀ g, Value.ownBlock u168 = some g → w.heap.size ≤ g ∨ (g = G_0 ∨ some g = Value.ownBlock V0_0 ∨ some g = Value.ownBlock V0_1 ∨ some g = Value.ownBlock V0_2 ∨ some g = Value.ownBlock V0_3 ∨ some g = Value.ownBlock V0_4) := fun g hg => (m170 g hg).elim (fun x => .inl (Nat.le_trans fB.size x)) (c191 g)
   have m174 : ∀ g, Value.ownBlock u172 = some g → w.heap.size ≤ g ∨ (g = G_0 ∨ some g = Value.ownBlock V0_0 ∨ some g = Value.ownBlock V0_1 ∨ some g = Value.ownBlock V0_2 ∨ some g = Value.ownBlock V0_3 ∨ some g = Value.ownBlock V0_4) := fun g hg => (m174 g hg).elim (fun x => .inl (Nat.le_trans fB.size x)) (c191 g)
   have m178 : ∀ g, Value.ownBlock u176 = some g → w.heap.size ≤ g ∨ (g = G_0 ∨ some g = Value.ownBlock V0_0 ∨ some g = Value.ownBlock V0_1 ∨ some g = Value.ownBlock V0_2 ∨ some g = Value.ownBlock V0_3 ∨ some g = Value.ownBlock V0_4) := fun g hg => (m178 g hg).elim (fun x => .inl (Nat.le_trans fB.size x)) (c191 g)
   have m182 : ∀ g, Value.ownBlock u180 = some g → w.heap.size ≤ g ∨ (g = G_0 ∨ some g = Value.ownBlock V0_0 ∨ some g = Value.ownBlock V0_1 ∨ some g = Value.ownBlock V0_2 ∨ some g = Value.ownBlock V0_3 ∨ some g = Value.ownBlock V0_4) := fun g hg => (m182 g hg).elim (fun x => .inl (Nat.le_trans fB.size x)) (c191 g)
   have m186 : ∀ g, Value.ownBlock u184 = some g → w.heap.size ≤ g ∨ (g = G_0 ∨ some g = Value.ownBlock V0_0 ∨ some g = Value.ownBlock V0_1 ∨ some g = Value.ownBlock V0_2 ∨ some g = Value.ownBlock V0_3 ∨ some g = Value.ownBlock V0_4) := fun g hg => (m186 g hg).elim (fun x => .inl (Nat.le_trans fB.size x)) (c191 g)
   have fB := fB.call q167 c191
   refine ol_nil ?_
   obtain rfl := Option.some.inj h
   refine thn_i ?_
   exact ⟨u168, u172, u176, u180, u184, o169, o173, o177, o181, o185, m170, m174, m178, m182, m186, a188, a189, a190, e3, b_0, fB⟩
  refine cw_condF rfl c49 ?_
  refine cw_skip ?_
  obtain rfl := Option.some.inj h
  refine thn_i ?_
  exact ⟨V0_0, V0_1, V0_2, V0_3, V0_4, O0_0, O0_1, O0_2, O0_3, O0_4, M0_0, M0_1, M0_2, M0_3, M0_4, A_R0_0_R0_1, A_R0_0_R0_2, A_R0_1_R0_2, rfl, b_0, fB⟩
 rintro ρ193 w194 ⟨v26, v30, v34, v38, v42, o27, o31, o35, o39, o43, m29, m33, m37, m41, m45, a46, a47, a48, e3, b_0, fB⟩
 have h := h25
 refine cw_seq ?_
 refine cw_region ?_
 refine ol_val (v := .int .i64 t19) (xr_move rfl e3) rfl rfl rfl ?_
 refine ol_val (v := .int .i64 t19) (xr_assign rfl rfl) rfl rfl rfl ?_
 refine ol_nil ?_
 refine cw_ret ?_
 repeat (first | with_reducible refine thn_r ?_ | with_reducible refine blk_r ?_)
 obtain rfl := Option.some.inj h
 refine fin_ret1 Try.results95 rfl ?_
 exact ⟨_, rfl, v26, v30, v34, v38, v42, o27, m29, o31, m33, o35, m37, o39, m41, o43, m45, a46, a47, a48, rfl, b_0, fB⟩
def rickyardref15_Lines.f (fu : Nat) (a0 : S_rickyardref05_Device) : Option Int := some ((IntKind.i64.wrap (Int.tdiv (List.length a0.Lasts : Int) 8)))
theorem rickyardref15_Lines.ok (fu : Nat) (w : World) (a0 : S_rickyardref05_Device) (G_0 : Nat) (V0_0 : Value) (R0_0 : Rd (kI .u64) w V0_0 a0.Lasts) (V0_1 : Value) (R0_1 : Rd (kI .u64) w V0_1 a0.Stored) (V0_2 : Value) (R0_2 : Rd (kI .u64) w V0_2 a0.Sent) (V0_3 : Value) (R0_3 : Rd kB w V0_3 a0.Flushed) (V0_4 : Value) (R0_4 : Rd (kI .i64) w V0_4 a0.Plan) (b_0 : Blk w G_0 65 [Seg.cell V0_0 R0_0.one, Seg.cell V0_1 R0_1.one, Seg.cell V0_2 R0_2.one, Seg.cell V0_3 R0_3.one, Seg.cell V0_4 R0_4.one, (sI a0.Since), (sI a0.Left), (sI a0.Steps)]) (r : Int) (h : rickyardref15_Lines.f fu a0 = some r) :
  Calls Try.prog 129 (([(pt G_0 0)] : List Value).toArray) w (fun e w' => ∃ v, e = .returned v ∧ v = .int .i64 r ∧ Gr w w') := by
 unfold rickyardref15_Lines.f at h
 have fB : Gr w w := Fr.refl _ _
 refine calls_cw Try.func129 rfl Try.ntmps129 rfl ?_
 refine cw_seq ?_
 refine cw_region ?_
 refine ol_val (v := .int .i64 0) (xr_assign rfl rfl) rfl rfl rfl ?_
 refine ol_nil ?_
 refine cw_seq ?_
 refine cw_region ?_
 refine ol_val (v := (pt G_0 0)) (xr_move rfl rfl) rfl rfl rfl ?_
 refine ol_val (v := (pt G_0 0)) (xr_nilCheck rfl rfl) rfl rfl rfl ?_
 refine ol_val (v := (pt G_0 0)) (xr_fieldAddr (p := 0) (q := 0) rfl fl65_0 rfl) rfl rfl rfl ?_
 refine ol_val (v := V0_0) (xr_load1 (v := V0_0) rfl ag46 rfl (b_0.seg 0 rfl rfl)) rfl rfl rfl ?_
 refine ol_val (v := .int .i64 (List.length a0.Lasts : Int)) (xr_lenR rfl Try.underlying46 rfl (R0_0.gr fB)) rfl rfl rfl ?_
 refine ol_val (v := .int .i64 (IntKind.i64.wrap (Int.tdiv (List.length a0.Lasts : Int) 8))) (xr_quo rfl rfl rfl (by decide)) rfl rfl rfl ?_
 refine ol_val (v := .int .i64 (IntKind.i64.wrap (Int.tdiv (List.length a0.Lasts : Int) 8))) (xr_assign rfl rfl) rfl rfl rfl ?_
 refine ol_nil ?_
 refine cw_ret ?_
 repeat (first | with_reducible refine thn_r ?_ | with_reducible refine blk_r ?_)
 obtain rfl := Option.some.inj h
 refine fin_ret1 Try.results129 rfl ?_
 exact ⟨_, rfl, rfl, fB⟩
def rickyardref15_Word.f (fu : Nat) (a0 : S_rickyardref05_Device) (a1 : Int) (a2 : Int) (a3 : Int) : Option (Int × S_rickyardref05_Device) := (((if (decide (a1 < 0)) = true then some (true) else ((rickyardref15_Lines.f fu a0).bind fun t22 => (if (decide (a1 ≥ t22)) = true then some (true) else (if (decide (a2 < 0)) = true then some (true) else some ((decide (a2 > 7))))))) : Option Bool).bind fun x19 => (if x19 = true then some (2, a0) else ((rickyardref05_Device_Store.f fu a0 (IntKind.i64.wrap ((IntKind.i64.wrap (8 * a1)) + a2)) a3).bind fun t32 => (if (!decide (t32.1 = 0)) = true then some (t32.1, t32.2) else ((rickyardref05_Device_Flush.f fu t32.2 a1).bind fun t61 => some (t61.1, t61.2))))))
theorem rickyardref15_Word.ok (fu : Nat) (w : World) (a0 : S_rickyardref05_Device) (G_0 : Nat) (V0_0 : Value) (O0_0 : Own (kI .u64) 22 w 0 V0_0 a0.Lasts) (V0_1 : Value) (O0_1 : Own (kI .u64) 22 w 0 V0_1 a0.Stored) (V0_2 : Value) (O0_2 : Own (kI .u64) 22 w 0 V0_2 a0.Sent) (V0_3 : Value) (O0_3 : Own kB 4 w 0 V0_3 a0.Flushed) (V0_4 : Value) (O0_4 : Own (kI .i64) 3 w 0 V0_4 a0.Plan) (b_0 : Blk w G_0 65 [Seg.cell V0_0 O0_0.one, Seg.cell V0_1 O0_1.one, Seg.cell V0_2 O0_2.one, Seg.cell V0_3 O0_3.one, Seg.cell V0_4 O0_4.one, (sI a0.Since), (sI a0.Left), (sI a0.Steps)]) (a1 : Int) (a2 : Int) (a3 : Int) (A_R0_0_R0_1 : OffV V0_0 V0_1) (A_R0_0_R0_2 : OffV V0_0 V0_2) (A_R0_1_R0_2 : OffV V0_1 V0_2) (r : Int × S_rickyardref05_Device) (h : rickyardref15_Word.f fu a0 a1 a2 a3 = some r) :
  Calls Try.prog 106 (([(pt G_0 0), .int .i64 a1, .int .i64 a2, .int .u64 a3] : List Value).toArray) w (fun e w' => ∃ v, e = .returned v ∧ ∃ u1 : Value, ∃ u4 : Value, ∃ u7 : Value, ∃ u10 : Value, ∃ u13 : Value, ∃ o2 : Own (kI .u64) 22 w' 0 u1 r.2.Lasts, ∃ m3 : ∀ g, Value.ownBlock u1 = some g → w.heap.size ≤ g ∨ (g = G_0 ∨ some g = Value.ownBlock V0_0 ∨ some g = Value.ownBlock V0_1 ∨ some g = Value.ownBlock V0_2 ∨ some g = Value.ownBlock V0_3 ∨ some g = Value.ownBlock V0_4), ∃ o5 : Own (kI .u64) 22 w' 0 u4 r.2.Stored, ∃ m6 : ∀ g, Value.ownBlock u4 = some g → w.heap.size ≤ g ∨ (g = G_0 ∨ some g = Value.ownBlock V0_0 ∨ some g = Value.ownBlock V0_1 ∨ some g = Value.ownBlock V0_2 ∨ some g = Value.ownBlock V0_3 ∨ some g = Value.ownBlock V0_4), ∃ o8 : Own (kI .u64) 22 w' 0 u7 r.2.Sent, ∃ m9 : ∀ g, Value.ownBlock u7 = some g → w.heap.size ≤ g ∨ (g = G_0 ∨ some g = Value.ownBlock V0_0 ∨ some g = Value.ownBlock V0_1 ∨ some g = Value.ownBlock V0_2 ∨ some g = Value.ownBlock V0_3 ∨ some g = Value.ownBlock V0_4), ∃ o11 : Own kB 4 w' 0 u10 r.2.Flushed, ∃ m12 : ∀ g, Value.ownBlock u10 = some g → w.heap.size ≤ g ∨ (g = G_0 ∨ some g = Value.ownBlock V0_0 ∨ some g = Value.ownBlock V0_1 ∨ some g = Value.ownBlock V0_2 ∨ some g = Value.ownBlock V0_3 ∨ some g = Value.ownBlock V0_4), ∃ o14 : Own (kI .i64) 3 w' 0 u13 r.2.Plan, ∃ m15 : ∀ g, Value.ownBlock u13 = some g → w.heap.size ≤ g ∨ (g = G_0 ∨ some g = Value.ownBlock V0_0 ∨ some g = Value.ownBlock V0_1 ∨ some g = Value.ownBlock V0_2 ∨ some g = Value.ownBlock V0_3 ∨ some g = Value.ownBlock V0_4), ∃ a16 : OffV u1 u4, ∃ a17 : OffV u1 u7, ∃ a18 : OffV u4 u7, v = .int .i64 r.1 ∧ Blk w' G_0 65 [Seg.cell u1 o2.one, Seg.cell u4 o5.one, Seg.cell u7 o8.one, Seg.cell u10 o11.one, Seg.cell u13 o14.one, (sI r.2.Since), (sI r.2.Left), (sI r.2.Steps)] ∧ Fr (fun j => j = G_0 ∨ some j = Value.ownBlock V0_0 ∨ some j = Value.ownBlock V0_1 ∨ some j = Value.ownBlock V0_2 ∨ some j = Value.ownBlock V0_3 ∨ some j = Value.ownBlock V0_4) w w') := by
 unfold rickyardref15_Word.f at h
 have fB : Fr (fun j => j = G_0 ∨ some j = Value.ownBlock V0_0 ∨ some j = Value.ownBlock V0_1 ∨ some j = Value.ownBlock V0_2 ∨ some j = Value.ownBlock V0_3 ∨ some j = Value.ownBlock V0_4) w w := Fr.refl _ _
 have M0_0 : ∀ g, Value.ownBlock V0_0 = some g → w.heap.size ≤ g ∨ (g = G_0 ∨ some g = Value.ownBlock V0_0 ∨ some g = Value.ownBlock V0_1 ∨ some g = Value.ownBlock V0_2 ∨ some g = Value.ownBlock V0_3 ∨ some g = Value.ownBlock V0_4) := fun g hg => .inr (.inr (.inl hg.symm))
 have M0_1 : ∀ g, Value.ownBlock V0_1 = some g → w.heap.size ≤ g ∨ (g = G_0 ∨ some g = Value.ownBlock V0_0 ∨ some g = Value.ownBlock V0_1 ∨ some g = Value.ownBlock V0_2 ∨ some g = Value.ownBlock V0_3 ∨ some g = Value.ownBlock V0_4) := fun g hg => .inr (.inr (.inr (.inl hg.symm)))
 have M0_2 : ∀ g, Value.ownBlock V0_2 = some g → w.heap.size ≤ g ∨ (g = G_0 ∨ some g = Value.ownBlock V0_0 ∨ some g = Value.ownBlock V0_1 ∨ some g = Value.ownBlock V0_2 ∨ some g = Value.ownBlock V0_3 ∨ some g = Value.ownBlock V0_4) := fun g hg => .inr (.inr (.inr (.inr (.inl hg.symm))))
 have M0_3 : ∀ g, Value.ownBlock V0_3 = some g → w.heap.size ≤ g ∨ (g = G_0 ∨ some g = Value.ownBlock V0_0 ∨ some g = Value.ownBlock V0_1 ∨ some g = Value.ownBlock V0_2 ∨ some g = Value.ownBlock V0_3 ∨ some g = Value.ownBlock V0_4) := fun g hg => .inr (.inr (.inr (.inr (.inr (.inl hg.symm)))))
 have M0_4 : ∀ g, Value.ownBlock V0_4 = some g → w.heap.size ≤ g ∨ (g = G_0 ∨ some g = Value.ownBlock V0_0 ∨ some g = Value.ownBlock V0_1 ∨ some g = Value.ownBlock V0_2 ∨ some g = Value.ownBlock V0_3 ∨ some g = Value.ownBlock V0_4) := fun g hg => .inr (.inr (.inr (.inr (.inr (.inr hg.symm)))))
 refine calls_cw Try.func106 rfl Try.ntmps106 rfl ?_
 refine cw_seq ?_
 refine cw_region ?_
 refine ol_val (v := .int .i64 0) (xr_assign rfl rfl) rfl rfl rfl ?_
 refine ol_nil ?_
 refine cw_seq ?_
 refine cw_seq ?_
 obtain ⟨x19, j20, h⟩ := bs h
 refine cw_mid (fun ρ' w' => ρ' 0 = (pt G_0 0) ∧ ρ' 1 = .int .i64 a1 ∧ ρ' 2 = .int .i64 a2 ∧ ρ' 3 = .int .u64 a3 ∧ ρ' 25 = .bool x19 ∧ Gr w w') ?_ ?_
 ·skip
  refine cw_region ?_
  refine ol_val (v := .int .i64 a1) (xr_move rfl rfl) rfl rfl rfl ?_
  refine ol_val (v := .bool (decide (a1 < 0))) (xr_lss rfl rfl rfl) rfl rfl rfl ?_
  refine ol_val (v := .bool (decide (a1 < 0))) (xr_move rfl rfl) rfl rfl rfl ?_
  rcases is j20 with ⟨c21, j20⟩ | ⟨c21, j20⟩
  ·skip
   refine ol_gskip rfl rfl rfl rfl rfl c21 ?_
   refine ol_gskip rfl rfl rfl rfl rfl c21 ?_
   refine ol_gskip rfl rfl rfl rfl rfl c21 ?_
   refine ol_gskip rfl rfl rfl rfl rfl c21 ?_
   refine ol_val (v := .bool true) (xr_pickT rfl rfl c21 rfl) rfl rfl rfl ?_
   refine ol_val (v := .bool true) (xr_move rfl rfl) rfl rfl rfl ?_
   refine ol_gskip rfl rfl rfl rfl rfl rfl ?_
   refine ol_gskip rfl rfl rfl rfl rfl rfl ?_
   refine ol_val (v := .bool true) (xr_pickT rfl rfl rfl rfl) rfl rfl rfl ?_
   refine ol_val (v := .bool true) (xr_move rfl rfl) rfl rfl rfl ?_
   refine ol_gskip rfl rfl rfl rfl rfl rfl ?_
   refine ol_gskip rfl rfl rfl rfl rfl rfl ?_
   refine ol_val (v := .bool true) (xr_pickT rfl rfl rfl rfl) rfl rfl rfl ?_
   refine ol_nil ?_
   obtain rfl := Option.some.inj j20
   refine thn_i ?_
   exact ⟨rfl, rfl, rfl, rfl, rfl, Fr.refl _ _⟩
  refine ol_gval (v := .int .i64 a1) (xr_move rfl rfl) rfl rfl rfl rfl rfl c21 ?_
  refine ol_gval (v := (pt G_0 0)) (xr_move rfl rfl) rfl rfl rfl rfl rfl c21 ?_
  obtain ⟨t22, k23, j20⟩ := bs j20
  refine ol_gop (opv_call rfl cal129 (ac rfl an) (rickyardref15_Lines.ok fu _ a0 G_0 V0_0 (O0_0.rd) V0_1 (O0_1.rd) V0_2 (O0_2.rd) V0_3 (O0_3.rd) V0_4 (O0_4.rd) b_0 _ k23)) rfl rfl rfl rfl rfl c21 ?_
  rintro _ w25 ⟨rfl, q24⟩
  have b_0 := b_0.gr q24
  have O0_0 := O0_0.gr q24
  have O0_1 := O0_1.gr q24
  have O0_2 := O0_2.gr q24
  have O0_3 := O0_3.gr q24
  have O0_4 := O0_4.gr q24
  have fB := fB.gr q24
  refine ol_gval (v := .bool (decide (a1 ≥ t22))) (xr_geq rfl rfl rfl) rfl rfl rfl rfl rfl c21 ?_
  refine ol_val (v := .bool (decide (a1 ≥ t22))) (xr_pickF rfl rfl c21 rfl) rfl rfl rfl ?_
  refine ol_val (v := .bool (decide (a1 ≥ t22))) (xr_move rfl rfl) rfl rfl rfl ?_
  rcases is j20 with ⟨c26, j20⟩ | ⟨c26, j20⟩
  ·skip
   refine ol_gskip rfl rfl rfl rfl rfl c26 ?_
   refine ol_gskip rfl rfl rfl rfl rfl c26 ?_
   refine ol_val (v := .bool true) (xr_pickT rfl rfl c26 rfl) rfl rfl rfl ?_
   refine ol_val (v := .bool true) (xr_move rfl rfl) rfl rfl rfl ?_
   refine ol_gskip rfl rfl rfl rfl rfl rfl ?_
   refine ol_gskip rfl rfl rfl rfl rfl rfl ?_
   refine ol_val (v := .bool true) (xr_pickT rfl rfl rfl rfl) rfl rfl rfl ?_
   refine ol_nil ?_
   obtain rfl := Option.some.inj j20
   refine thn_i ?_
   exact ⟨rfl, rfl, rfl, rfl, rfl, q24⟩
  refine ol_gval (v := .int .i64 a2) (xr_move rfl rfl) rfl rfl rfl rfl rfl c26 ?_
  refine ol_gval (v := .bool (decide (a2 < 0))) (xr_lss rfl rfl rfl) rfl rfl rfl rfl rfl c26 ?_
  refine ol_val (v := .bool (decide (a2 < 0))) (xr_pickF rfl rfl c26 rfl) rfl rfl rfl ?_
  refine ol_val (v := .bool (decide (a2 < 0))) (xr_move rfl rfl) rfl rfl rfl ?_
  rcases is j20 with ⟨c27, j20⟩ | ⟨c27, j20⟩
  ·skip
   refine ol_gskip rfl rfl rfl rfl rfl c27 ?_
   refine ol_gskip rfl rfl rfl rfl rfl c27 ?_
   refine ol_val (v := .bool true) (xr_pickT rfl rfl c27 rfl) rfl rfl rfl ?_
   refine ol_nil ?_
   obtain rfl := Option.some.inj j20
   refine thn_i ?_
   exact ⟨rfl, rfl, rfl, rfl, rfl, q24⟩
  refine ol_gval (v := .int .i64 a2) (xr_move rfl rfl) rfl rfl rfl rfl rfl c27 ?_
  refine ol_gval (v := .bool (decide (a2 > 7))) (xr_gtr rfl rfl rfl) rfl rfl rfl rfl rfl c27 ?_
  refine ol_val (v := .bool (decide (a2 > 7))) (xr_pickF rfl rfl c27 rfl) rfl rfl rfl ?_
  refine ol_nil ?_
  obtain rfl := Option.some.inj j20
  refine thn_i ?_
  exact ⟨rfl, rfl, rfl, rfl, rfl, q24⟩
 rintro ρ28 w29 ⟨e0, e1, e2, e3, e25, q30⟩
 have b_0 := b_0.gr q30
 have O0_0 := O0_0.gr q30
 have O0_1 := O0_1.gr q30
 have O0_2 := O0_2.gr q30
 have O0_3 := O0_3.gr q30
 have O0_4 := O0_4.gr q30
 have fB := fB.gr q30
 rcases is h with ⟨c31, h⟩ | ⟨c31, h⟩
 ·refine cw_condT e25 c31 ?_
  refine cw_seq ?_
  refine cw_region ?_
  refine ol_val (v := .int .i64 2) (xr_assign rfl rfl) rfl rfl rfl ?_
  refine ol_nil ?_
  refine cw_ret ?_
  repeat (first | with_reducible refine thn_r ?_ | with_reducible refine blk_r ?_)
  obtain rfl := Option.some.inj h
  refine fin_ret1 Try.results106 rfl ?_
  exact ⟨_, rfl, V0_0, V0_1, V0_2, V0_3, V0_4, O0_0, M0_0, O0_1, M0_1, O0_2, M0_2, O0_3, M0_3, O0_4, M0_4, A_R0_0_R0_1, A_R0_0_R0_2, A_R0_1_R0_2, rfl, b_0, fB⟩
 refine cw_condF e25 c31 ?_
 refine cw_skip ?_
 refine cw_seq ?_
 refine cw_region ?_
 refine ol_val (v := (pt G_0 0)) (xr_move rfl e0) rfl rfl rfl ?_
 refine ol_val (v := .int .i64 a1) (xr_move rfl e1) rfl rfl rfl ?_
 refine ol_val (v := .int .i64 (IntKind.i64.wrap (8 * a1))) (xr_mul rfl rfl rfl) rfl rfl rfl ?_
 refine ol_val (v := .int .i64 a2) (xr_move rfl e2) rfl rfl rfl ?_
 refine ol_val (v := .int .i64 (IntKind.i64.wrap ((IntKind.i64.wrap (8 * a1)) + a2))) (xr_add rfl rfl rfl) rfl rfl rfl ?_
 refine ol_val (v := .int .u64 a3) (xr_move rfl e3) rfl rfl rfl ?_
 obtain ⟨t32, k33, h⟩ := bs h
 have c58 : ∀ k, (k = G_0 ∨ some k = Value.ownBlock V0_0 ∨ some k = Value.ownBlock V0_1 ∨ some k = Value.ownBlock V0_2 ∨ some k = Value.ownBlock V0_3 ∨ some k = Value.ownBlock V0_4) → (w.heap.size ≤ k ∨ (k = G_0 ∨ some k = Value.ownBlock V0_0 ∨ some k = Value.ownBlock V0_1 ∨ some k = Value.ownBlock V0_2 ∨ some k = Value.ownBlock V0_3 ∨ some k = Value.ownBlock V0_4)) := (cv_or (cv_eq (.inr (.inl rfl))) (cv_or (cv_own M0_0) (cv_or (cv_own M0_1) (cv_or (cv_own M0_2) (cv_or (cv_own M0_3) (cv_own M0_4))))))
 refine ol_op (opv_call rfl cal92 (ac rfl (ac rfl (ac rfl an))) (rickyardref05_Device_Store.ok fu _ a0 G_0 V0_0 (Own.base O0_0 (Nat.zero_le _)) V0_1 (Own.base O0_1 (Nat.zero_le _)) V0_2 (Own.base O0_2 (Nat.zero_le _)) V0_3 (Own.base O0_3 (Nat.zero_le _)) V0_4 (Own.base O0_4 (Nat.zero_le _)) b_0 (IntKind.i64.wrap ((IntKind.i64.wrap (8 * a1)) + a2)) a3 A_R0_0_R0_1 A_R0_0_R0_2 A_R0_1_R0_2 _ k33)) rfl rfl rfl ?_
 rintro _ w59 ⟨u35, u39, u43, u47, u51, o36, m37, o40, m41, o44, m45, o48, m49, o52, m53, a55, a56, a57, rfl, b_0, q34⟩
 have m37 : ∀ g, Value.ownBlock u35 = some g → w.heap.size ≤ g ∨ (g = G_0 ∨ some g = Value.ownBlock V0_0 ∨ some g = Value.ownBlock V0_1 ∨ some g = Value.ownBlock V0_2 ∨ some g = Value.ownBlock V0_3 ∨ some g = Value.ownBlock V0_4) := fun g hg => (m37 g hg).elim (fun x => .inl (Nat.le_trans fB.size x)) (c58 g)
 have m41 : ∀ g, Value.ownBlock u39 = some g → w.heap.size ≤ g ∨ (g = G_0 ∨ some g = Value.ownBlock V0_0 ∨ some g = Value.ownBlock V0_1 ∨ some g = Value.ownBlock V0_2 ∨ some g = Value.ownBlock V0_3 ∨ some g = Value.ownBlock V0_4) := fun g hg => (m41 g hg).elim (fun x => .inl (Nat.le_trans fB.size x)) (c58 g)
 have m45 : ∀ g, Value.ownBlock u43 = some g → w.heap.size ≤ g ∨ (g = G_0 ∨ some g = Value.ownBlock V0_0 ∨ some g = Value.ownBlock V0_1 ∨ some g = Value.ownBlock V0_2 ∨ some g = Value.ownBlock V0_3 ∨ some g = Value.ownBlock V0_4) := fun g hg => (m45 g hg).elim (fun x => .inl (Nat.le_trans fB.size x)) (c58 g)
 have m49 : ∀ g, Value.ownBlock u47 = some g → w.heap.size ≤ g ∨ (g = G_0 ∨ some g = Value.ownBlock V0_0 ∨ some g = Value.ownBlock V0_1 ∨ some g = Value.ownBlock V0_2 ∨ some g = Value.ownBlock V0_3 ∨ some g = Value.ownBlock V0_4) := fun g hg => (m49 g hg).elim (fun x => .inl (Nat.le_trans fB.size x)) (c58 g)
 have m53 : ∀ g, Value.ownBlock u51 = some g → w.heap.size ≤ g ∨ (g = G_0 ∨ some g = Value.ownBlock V0_0 ∨ some g = Value.ownBlock V0_1 ∨ some g = Value.ownBlock V0_2 ∨ some g = Value.ownBlock V0_3 ∨ some g = Value.ownBlock V0_4) := fun g hg => (m53 g hg).elim (fun x => .inl (Nat.le_trans fB.size x)) (c58 g)
 have fB := fB.call q34 c58
 refine ol_val (v := .int .i64 t32.1) (xr_assign rfl rfl) rfl rfl rfl ?_
 refine ol_nil ?_
 refine cw_seq ?_
 refine cw_seq ?_
 refine cw_region ?_
 refine ol_val (v := .int .i64 t32.1) (xr_move rfl rfl) rfl rfl rfl ?_
 refine ol_val (v := .bool (!decide (t32.1 = 0))) (xr_neI rfl Try.underlying3 rfl rfl rfl) rfl rfl rfl ?_
 refine ol_nil ?_
 rcases is h with ⟨c60, h⟩ | ⟨c60, h⟩
 ·refine cw_condT rfl c60 ?_
  refine cw_seq ?_
  refine cw_region ?_
  refine ol_val (v := .int .i64 t32.1) (xr_move rfl rfl) rfl rfl rfl ?_
  refine ol_val (v := .int .i64 t32.1) (xr_assign rfl rfl) rfl rfl rfl ?_
  refine ol_nil ?_
  refine cw_ret ?_
  repeat (first | with_reducible refine thn_r ?_ | with_reducible refine blk_r ?_)
  obtain rfl := Option.some.inj h
  refine fin_ret1 Try.results106 rfl ?_
  exact ⟨_, rfl, u35, u39, u43, u47, u51, o36, m37, o40, m41, o44, m45, o48, m49, o52, m53, a55, a56, a57, rfl, b_0, fB⟩
 refine cw_condF rfl c60 ?_
 refine cw_skip ?_
 refine cw_seq ?_
 refine cw_region ?_
 refine ol_val (v := (pt G_0 0)) (xr_move rfl e0) rfl rfl rfl ?_
 refine ol_val (v := .int .i64 a1) (xr_move rfl e1) rfl rfl rfl ?_
 obtain ⟨t61, k62, h⟩ := bs h
 have c87 : ∀ k, (k = G_0 ∨ some k = Value.ownBlock u35 ∨ some k = Value.ownBlock u39 ∨ some k = Value.ownBlock u43 ∨ some k = Value.ownBlock u47 ∨ some k = Value.ownBlock u51) → (w.heap.size ≤ k ∨ (k = G_0 ∨ some k = Value.ownBlock V0_0 ∨ some k = Value.ownBlock V0_1 ∨ some k = Value.ownBlock V0_2 ∨ some k = Value.ownBlock V0_3 ∨ some k = Value.ownBlock V0_4)) := (cv_or (cv_eq (.inr (.inl rfl))) (cv_or (cv_own m37) (cv_or (cv_own m41) (cv_or (cv_own m45) (cv_or (cv_own m49) (cv_own m53))))))
 refine ol_op (opv_call rfl cal94 (ac rfl (ac rfl an)) (rickyardref05_Device_Flush.ok fu _ t32.2 G_0 u35 (Own.base o36 (Nat.zero_le _)) u39 (Own.base o40 (Nat.zero_le _)) u43 (Own.base o44 (Nat.zero_le _)) u47 (Own.base o48 (Nat.zero_le _)) u51 (Own.base o52 (Nat.zero_le _)) b_0 a1 a55 a56 a57 _ k62)) rfl rfl rfl ?_
 rintro _ w88 ⟨u64, u68, u72, u76, u80, o65, m66, o69, m70, o73, m74, o77, m78, o81, m82, a84, a85, a86, rfl, b_0, q63⟩
 have m66 : ∀ g, Value.ownBlock u64 = some g → w.heap.size ≤ g ∨ (g = G_0 ∨ some g = Value.ownBlock V0_0 ∨ some g = Value.ownBlock V0_1 ∨ some g = Value.ownBlock V0_2 ∨ some g = Value.ownBlock V0_3 ∨ some g = Value.ownBlock V0_4) := fun g hg => (m66 g hg).elim (fun x => .inl (Nat.le_trans fB.size x)) (c87 g)
 have m70 : ∀ g, Value.ownBlock u68 = some g → w.heap.size ≤ g ∨ (g = G_0 ∨ some g = Value.ownBlock V0_0 ∨ some g = Value.ownBlock V0_1 ∨ some g = Value.ownBlock V0_2 ∨ some g = Value.ownBlock V0_3 ∨ some g = Value.ownBlock V0_4) := fun g hg => (m70 g hg).elim (fun x => .inl (Nat.le_trans fB.size x)) (c87 g)
 have m74 : ∀ g, Value.ownBlock u72 = some g → w.heap.size ≤ g ∨ (g = G_0 ∨ some g = Value.ownBlock V0_0 ∨ some g = Value.ownBlock V0_1 ∨ some g = Value.ownBlock V0_2 ∨ some g = Value.ownBlock V0_3 ∨ some g = Value.ownBlock V0_4) := fun g hg => (m74 g hg).elim (fun x => .inl (Nat.le_trans fB.size x)) (c87 g)
 have m78 : ∀ g, Value.ownBlock u76 = some g → w.heap.size ≤ g ∨ (g = G_0 ∨ some g = Value.ownBlock V0_0 ∨ some g = Value.ownBlock V0_1 ∨ some g = Value.ownBlock V0_2 ∨ some g = Value.ownBlock V0_3 ∨ some g = Value.ownBlock V0_4) := fun g hg => (m78 g hg).elim (fun x => .inl (Nat.le_trans fB.size x)) (c87 g)
 have m82 : ∀ g, Value.ownBlock u80 = some g → w.heap.size ≤ g ∨ (g = G_0 ∨ some g = Value.ownBlock V0_0 ∨ some g = Value.ownBlock V0_1 ∨ some g = Value.ownBlock V0_2 ∨ some g = Value.ownBlock V0_3 ∨ some g = Value.ownBlock V0_4) := fun g hg => (m82 g hg).elim (fun x => .inl (Nat.le_trans fB.size x)) (c87 g)
 have fB := fB.call q63 c87
 refine ol_val (v := .int .i64 t61.1) (xr_assign rfl rfl) rfl rfl rfl ?_
 refine ol_nil ?_
 refine cw_ret ?_
 repeat (first | with_reducible refine thn_r ?_ | with_reducible refine blk_r ?_)
 obtain rfl := Option.some.inj h
 refine fin_ret1 Try.results106 rfl ?_
 exact ⟨_, rfl, u64, u68, u72, u76, u80, o65, m66, o69, m70, o73, m74, o77, m78, o81, m82, a84, a85, a86, rfl, b_0, fB⟩
end Go.Proofs.Ytklhbaghbmndeaa
