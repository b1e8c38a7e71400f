/- ChartGets: texts merged, part 3 of 4. The last part proves that the law ChartGets holds for every input. -/
import Derived.Test.YtjhajfkfhdnciaaPkChartGets2
import Derived.ProofKit
import Derived.OpenShut
import Derived.ChangeOld
import Derived.Below
import Derived.SizedLaws
import Derived.WalkKit
/- rickyard/rickyardref01.Lay: its model, and that the Go function computes it: written by gen.py. -/
set_option linter.unusedVariables false
namespace Go.Proofs.Ytjhajfkfhdnciaa
open Go Go.Xw
def rickyardref01_Lay.s0 (fu : Nat) (a0 : Int) (a1 : Int) : ((List UInt8) × Int) → Option (Sum (List UInt8) ((List UInt8) × Int)) := fun s1 => (if (decide (s1.2 < a1)) = true then ((rickyardref01_Octet.f fu a0 s1.2 : Option Int).bind fun t9 => (if List.length s1.1 + List.length (List.map toB [t9]) ≤ LIM then some (Sum.inr ((s1.1 ++ (List.map toB [t9])), (IntKind.i64.wrap (s1.2 + 1)))) else none)) else some (Sum.inl (s1.1)))
def rickyardref01_Lay.f (fu : Nat) (a0 : Int) (a1 : Int) : Option (List UInt8) := ((loopM (rickyardref01_Lay.s0 fu a0 a1) fu ([], 0)).bind fun e2 => some (e2))
set_option maxRecDepth 100000 in
set_option maxHeartbeats 400000 in
theorem rickyardref01_Lay.ok (fu : Nat) (w : World) (a0 : Int) (a1 : Int) (r : (List UInt8)) (h : rickyardref01_Lay.f fu a0 a1 = some r) :
    Calls Try.prog 99 (([.int .u64 a0, .int .i64 a1] : List Value).toArray) w (fun e w' => ∃ v, e = .returned v ∧ v = sv r ∧ Gr w w') := by
  unfold rickyardref01_Lay.f at h
  have fB : Gr w w := Fr.refl _ _
  refine calls_cw Try.func99 rfl Try.ntmps99 rfl ?_
  refine cw_seq ?_
  refine cw_region ?_
  refine ol_val (v := sv []) (by exact xr_assign rfl rfl) rfl rfl rfl ?_
  refine ol_nil ?_
  refine cw_seq ?_
  refine cw_region ?_
  refine ol_val (v := sv []) (by exact xr_assign rfl rfl) rfl rfl rfl ?_
  refine ol_nil ?_
  refine cw_seq ?_
  refine cw_seq ?_
  refine cw_region ?_
  refine ol_val (v := .int .i64 0) (by exact xr_assign rfl rfl) rfl rfl rfl ?_
  refine ol_nil ?_
  obtain ⟨e2, l3, h4⟩ := bs h
  refine cw_mid (fun ρ' w' => ρ' 5 = sv e2 ∧ Gr w w') ?_ ?_
  · refine cw_block ?_
    refine cw_round (fun (s1 : (List UInt8) × Int) ρ' w' => ρ' 0 = .int .u64 a0 ∧ ρ' 1 = .int .i64 a1 ∧ ρ' 5 = sv s1.1 ∧ ρ' 6 = .int .i64 s1.2 ∧ Gr w w') l3 ?_ ?_
    · skip
      exact ⟨rfl, rfl, rfl, rfl, fB⟩
    · rintro s1 x7 ρ5 w6 ⟨e0, e1, e5, e6, fB⟩ h
      unfold rickyardref01_Lay.s0 at h
      refine cw_seq ?_
      refine cw_seq ?_
      refine cw_region ?_
      refine ol_val (v := .int .i64 s1.2) (by exact xr_move rfl e6) rfl rfl rfl ?_
      refine ol_val (v := .int .i64 a1) (by exact xr_move rfl e1) rfl rfl rfl ?_
      refine ol_val (v := .bool (decide (s1.2 < a1))) (by exact xr_lss rfl rfl rfl) rfl rfl rfl ?_
      refine ol_nil ?_
      rcases is h with ⟨c8, h⟩ | ⟨c8, h⟩
      · refine cw_condT rfl c8 ?_
        refine cw_skip ?_
        refine cw_seq ?_
        refine cw_block ?_
        refine cw_region ?_
        refine ol_val (v := sv s1.1) (by exact xr_move rfl e5) rfl rfl rfl ?_
        refine ol_val (v := .int .u64 a0) (by exact xr_move rfl e0) rfl rfl rfl ?_
        refine ol_val (v := .int .i64 s1.2) (by exact xr_move rfl e6) rfl rfl rfl ?_
        obtain ⟨t9, k10, h⟩ := bs h
        refine ol_op (by exact opv_call rfl cal132 (ac rfl (ac rfl an)) (rickyardref01_Octet.ok fu _ a0 s1.2 _ k10)) rfl rfl rfl ?_
        rintro _ w12 ⟨rfl, q11⟩
        have fB := fB.gr q11
        refine ol_op (by exact opv_buildSlice (K := (kI .u8)) (xs := [t9]) (vals := [.int .u8 t9]) rfl Try.underlying22 el5 rfl rfl ⟨rfl, rfl, trivial⟩ rfl rfl rfl fB.size) rfl rfl rfl ?_
        rintro v13 w18 ⟨o15, q14, z16⟩
        have fB := fB.gr q14
        refine ol_val (v := sv (List.map toB [t9])) (by exact xr_toStr rfl Try.underlying22 Try.underlying5 Try.underlying9 rfl o15.rd) rfl rfl rfl ?_
        obtain ⟨g19, h⟩ := gs h
        refine ol_val (v := sv (s1.1 ++ (List.map toB [t9]))) (by exact xr_addStr rfl rfl rfl g19) rfl rfl rfl ?_
        refine ol_val (v := sv (s1.1 ++ (List.map toB [t9]))) (by exact xr_assign rfl rfl) rfl rfl rfl ?_
        refine ol_nil ?_
        refine blk_i ?_
        refine cw_region ?_
        refine ol_val (v := .int .i64 s1.2) (by exact xr_move rfl e6) rfl rfl rfl ?_
        refine ol_val (v := .int .i64 (IntKind.i64.wrap (s1.2 + 1))) (by exact xr_add rfl rfl rfl) rfl rfl rfl ?_
        refine ol_val (v := .int .i64 (IntKind.i64.wrap (s1.2 + 1))) (by exact xr_assign rfl rfl) rfl rfl rfl ?_
        refine ol_nil ?_
        obtain rfl := Option.some.inj h
        refine lp_in ?_
        exact ⟨e0, e1, rfl, rfl, fB⟩
      · refine cw_condF rfl c8 ?_
        refine cw_exit ?_
        repeat (first | with_reducible refine thn_e ?_ | with_reducible refine blk_e rfl ?_)
        obtain rfl := Option.some.inj h
        refine lp_exit ?_
        rintro rfl
        refine thn_x ?_
        exact ⟨e5, fB⟩
  · rintro ρ20 w21 ⟨e5, fB⟩
    have h := h4
    refine cw_seq ?_
    refine cw_region ?_
    refine ol_val (v := sv e2) (by exact xr_move rfl e5) rfl rfl rfl ?_
    refine ol_val (v := sv e2) (by exact xr_assign rfl rfl) rfl rfl rfl ?_
    refine ol_nil ?_
    refine cw_ret ?_
    repeat (first | with_reducible refine thn_r ?_ | with_reducible refine blk_r ?_)
    obtain rfl := Option.some.inj h
    refine fin_ret1 Try.results99 rfl ?_
    exact ⟨_, rfl, rfl, fB⟩
end Go.Proofs.Ytjhajfkfhdnciaa

/- rickyard/rickyardref02.Step: its model, and that the Go function computes it: written by gen.py. -/
set_option linter.unusedVariables false
namespace Go.Proofs.Ytjhajfkfhdnciaa
open Go Go.Xw
def rickyardref02_Step.f (fu : Nat) (a0 : Int) : Option Int := (if (decide ((Int.tmod a0 2) = 1)) = true then some ((bXor .u32 (IntKind.u32.wrap (Int.tdiv a0 2)) 2197175160)) else some ((IntKind.u32.wrap (Int.tdiv a0 2))))
set_option maxRecDepth 100000 in
set_option maxHeartbeats 400000 in
theorem rickyardref02_Step.ok (fu : Nat) (w : World) (a0 : Int) (r : Int) (h : rickyardref02_Step.f fu a0 = some r) :
    Calls Try.prog 146 (([.int .u32 a0] : List Value).toArray) w (fun e w' => ∃ v, e = .returned v ∧ v = .int .u32 r ∧ Gr w w') := by
  unfold rickyardref02_Step.f at h
  have fB : Gr w w := Fr.refl _ _
  refine calls_cw Try.func146 rfl Try.ntmps146 rfl ?_
  refine cw_seq ?_
  refine cw_region ?_
  refine ol_val (v := .int .u32 0) (by exact xr_assign rfl rfl) rfl rfl rfl ?_
  refine ol_nil ?_
  refine cw_seq ?_
  refine cw_seq ?_
  refine cw_region ?_
  refine ol_val (v := .int .u32 a0) (by exact xr_move rfl rfl) rfl rfl rfl ?_
  refine ol_val (v := .int .u32 (Int.tmod a0 2)) (by exact xr_rem rfl rfl rfl (by decide)) rfl rfl rfl ?_
  refine ol_val (v := .bool (decide ((Int.tmod a0 2) = 1))) (by exact xr_eqI rfl Try.underlying36 rfl rfl rfl) rfl rfl rfl ?_
  refine ol_nil ?_
  rcases is h with ⟨c1, h⟩ | ⟨c1, h⟩
  · refine cw_condT rfl c1 ?_
    refine cw_seq ?_
    refine cw_region ?_
    refine ol_val (v := .int .u32 a0) (by exact xr_move rfl rfl) rfl rfl rfl ?_
    refine ol_val (v := .int .u32 (IntKind.u32.wrap (Int.tdiv a0 2))) (by exact xr_quo rfl rfl rfl (by decide)) rfl rfl rfl ?_
    refine ol_val (v := .int .u32 (bXor .u32 (IntKind.u32.wrap (Int.tdiv a0 2)) 2197175160)) (by exact xr_xor rfl rfl rfl) rfl rfl rfl ?_
    refine ol_val (v := .int .u32 (bXor .u32 (IntKind.u32.wrap (Int.tdiv a0 2)) 2197175160)) (by exact xr_assign rfl rfl) rfl rfl rfl ?_
    refine ol_nil ?_
    refine cw_ret ?_
    repeat (first | with_reducible refine thn_r ?_ | with_reducible refine blk_r ?_)
    obtain rfl := Option.some.inj h
    refine fin_ret1 Try.results146 rfl ?_
    exact ⟨_, rfl, rfl, fB⟩
  · refine cw_condF rfl c1 ?_
    refine cw_skip ?_
    refine cw_seq ?_
    refine cw_region ?_
    refine ol_val (v := .int .u32 a0) (by exact xr_move rfl rfl) rfl rfl rfl ?_
    refine ol_val (v := .int .u32 (IntKind.u32.wrap (Int.tdiv a0 2))) (by exact xr_quo rfl rfl rfl (by decide)) rfl rfl rfl ?_
    refine ol_val (v := .int .u32 (IntKind.u32.wrap (Int.tdiv a0 2))) (by exact xr_assign rfl rfl) rfl rfl rfl ?_
    refine ol_nil ?_
    refine cw_ret ?_
    repeat (first | with_reducible refine thn_r ?_ | with_reducible refine blk_r ?_)
    obtain rfl := Option.some.inj h
    refine fin_ret1 Try.results146 rfl ?_
    exact ⟨_, rfl, rfl, fB⟩
end Go.Proofs.Ytjhajfkfhdnciaa

/- rickyard/rickyardref02.Steps: its model, and that the Go function computes it: written by gen.py. -/
set_option linter.unusedVariables false
namespace Go.Proofs.Ytjhajfkfhdnciaa
open Go Go.Xw
def rickyardref02_Steps.s0 (fu : Nat) (a1 : Int) : (Int × Int) → Option (Sum Int (Int × Int)) := fun s1 => (if (decide (s1.2 < a1)) = true then ((rickyardref02_Step.f fu s1.1 : Option Int).bind fun t9 => some (Sum.inr (t9, (IntKind.i64.wrap (s1.2 + 1))))) else some (Sum.inl (s1.1)))
def rickyardref02_Steps.f (fu : Nat) (a0 : Int) (a1 : Int) : Option Int := ((loopM (rickyardref02_Steps.s0 fu a1) fu (a0, 0)).bind fun e2 => some (e2))
set_option maxRecDepth 100000 in
set_option maxHeartbeats 400000 in
theorem rickyardref02_Steps.ok (fu : Nat) (w : World) (a0 : Int) (a1 : Int) (r : Int) (h : rickyardref02_Steps.f fu a0 a1 = some r) :
    Calls Try.prog 133 (([.int .u32 a0, .int .i64 a1] : List Value).toArray) w (fun e w' => ∃ v, e = .returned v ∧ v = .int .u32 r ∧ Gr w w') := by
  unfold rickyardref02_Steps.f at h
  have fB : Gr w w := Fr.refl _ _
  refine calls_cw Try.func133 rfl Try.ntmps133 rfl ?_
  refine cw_seq ?_
  refine cw_region ?_
  refine ol_val (v := .int .u32 0) (by exact xr_assign rfl rfl) rfl rfl rfl ?_
  refine ol_nil ?_
  refine cw_seq ?_
  refine cw_seq ?_
  refine cw_region ?_
  refine ol_val (v := .int .i64 0) (by exact xr_assign rfl rfl) rfl rfl rfl ?_
  refine ol_nil ?_
  obtain ⟨e2, l3, h4⟩ := bs h
  refine cw_mid (fun ρ' w' => ρ' 0 = .int .u32 e2 ∧ Gr w w') ?_ ?_
  · refine cw_block ?_
    refine cw_round (fun (s1 : Int × Int) ρ' w' => ρ' 0 = .int .u32 s1.1 ∧ ρ' 1 = .int .i64 a1 ∧ ρ' 5 = .int .i64 s1.2 ∧ Gr w w') l3 ?_ ?_
    · skip
      exact ⟨rfl, rfl, rfl, fB⟩
    · rintro s1 x7 ρ5 w6 ⟨e0, e1, e5, fB⟩ h
      unfold rickyardref02_Steps.s0 at h
      refine cw_seq ?_
      refine cw_seq ?_
      refine cw_region ?_
      refine ol_val (v := .int .i64 s1.2) (by exact xr_move rfl e5) rfl rfl rfl ?_
      refine ol_val (v := .int .i64 a1) (by exact xr_move rfl e1) rfl rfl rfl ?_
      refine ol_val (v := .bool (decide (s1.2 < a1))) (by exact xr_lss rfl rfl rfl) rfl rfl rfl ?_
      refine ol_nil ?_
      rcases is h with ⟨c8, h⟩ | ⟨c8, h⟩
      · refine cw_condT rfl c8 ?_
        refine cw_skip ?_
        refine cw_seq ?_
        refine cw_block ?_
        refine cw_region ?_
        refine ol_val (v := .int .u32 s1.1) (by exact xr_move rfl e0) rfl rfl rfl ?_
        obtain ⟨t9, k10, h⟩ := bs h
        refine ol_op (by exact opv_call rfl cal146 (ac rfl an) (rickyardref02_Step.ok fu _ s1.1 _ k10)) rfl rfl rfl ?_
        rintro _ w12 ⟨rfl, q11⟩
        have fB := fB.gr q11
        refine ol_val (v := .int .u32 t9) (by exact xr_assign rfl rfl) rfl rfl rfl ?_
        refine ol_nil ?_
        refine blk_i ?_
        refine cw_region ?_
        refine ol_val (v := .int .i64 s1.2) (by exact xr_move rfl e5) rfl rfl rfl ?_
        refine ol_val (v := .int .i64 (IntKind.i64.wrap (s1.2 + 1))) (by exact xr_add rfl rfl rfl) rfl rfl rfl ?_
        refine ol_val (v := .int .i64 (IntKind.i64.wrap (s1.2 + 1))) (by exact xr_assign rfl rfl) rfl rfl rfl ?_
        refine ol_nil ?_
        obtain rfl := Option.some.inj h
        refine lp_in ?_
        exact ⟨rfl, e1, rfl, fB⟩
      · refine cw_condF rfl c8 ?_
        refine cw_exit ?_
        repeat (first | with_reducible refine thn_e ?_ | with_reducible refine blk_e rfl ?_)
        obtain rfl := Option.some.inj h
        refine lp_exit ?_
        rintro rfl
        refine thn_x ?_
        exact ⟨e0, fB⟩
  · rintro ρ13 w14 ⟨e0, fB⟩
    have h := h4
    refine cw_seq ?_
    refine cw_region ?_
    refine ol_val (v := .int .u32 e2) (by exact xr_move rfl e0) rfl rfl rfl ?_
    refine ol_val (v := .int .u32 e2) (by exact xr_assign rfl rfl) rfl rfl rfl ?_
    refine ol_nil ?_
    refine cw_ret ?_
    repeat (first | with_reducible refine thn_r ?_ | with_reducible refine blk_r ?_)
    obtain rfl := Option.some.inj h
    refine fin_ret1 Try.results133 rfl ?_
    exact ⟨_, rfl, rfl, fB⟩
end Go.Proofs.Ytjhajfkfhdnciaa

/- rickyard/rickyardref02.Sum: its model, and that the Go function computes it: written by gen.py. -/
set_option linter.unusedVariables false
namespace Go.Proofs.Ytjhajfkfhdnciaa
open Go Go.Xw
def rickyardref02_Sum.s0 (fu : Nat) (a0 : List Int) : (Int × Int) → Option (Sum Int (Int × Int)) := fun s1 => (if (decide (s1.2 < (List.length a0 : Int))) = true then (if 0 ≤ s1.2 ∧ s1.2 < (List.length a0 : Int) then ((rickyardref02_Steps.f fu (bXor .u32 s1.1 (IntKind.u32.wrap (ix a0 s1.2))) 8 : Option Int).bind fun t10 => some (Sum.inr (t10, (IntKind.i64.wrap (s1.2 + 1))))) else none) else some (Sum.inl (s1.1)))
def rickyardref02_Sum.f (fu : Nat) (a0 : List Int) : Option Int := ((loopM (rickyardref02_Sum.s0 fu a0) fu (4294967295, 0)).bind fun e2 => some ((IntKind.u32.wrap (4294967295 - e2))))
set_option maxRecDepth 100000 in
set_option maxHeartbeats 400000 in
theorem rickyardref02_Sum.ok (fu : Nat) (w : World) (a0 : List Int) (V0_0 : Value) (R0_0 : Rd (kI .u8) w V0_0 a0) (r : Int) (h : rickyardref02_Sum.f fu a0 = some r) :
    Calls Try.prog 100 (([V0_0] : List Value).toArray) w (fun e w' => ∃ v, e = .returned v ∧ v = .int .u32 r ∧ Gr w w') := by
  unfold rickyardref02_Sum.f at h
  have fB : Gr w w := Fr.refl _ _
  refine calls_cw Try.func100 rfl Try.ntmps100 rfl ?_
  refine cw_seq ?_
  refine cw_region ?_
  refine ol_val (v := .int .u32 0) (by exact xr_assign rfl rfl) rfl rfl rfl ?_
  refine ol_nil ?_
  refine cw_seq ?_
  refine cw_region ?_
  refine ol_val (v := .int .u32 4294967295) (by exact xr_assign rfl rfl) rfl rfl rfl ?_
  refine ol_nil ?_
  refine cw_seq ?_
  refine cw_seq ?_
  refine cw_region ?_
  refine ol_val (v := .int .i64 0) (by exact xr_assign rfl rfl) rfl rfl rfl ?_
  refine ol_nil ?_
  obtain ⟨e2, l3, h4⟩ := bs h
  refine cw_mid (fun ρ' w' => ρ' 3 = .int .u32 e2 ∧ Gr w w') ?_ ?_
  · refine cw_block ?_
    refine cw_round (fun (s1 : Int × Int) ρ' w' => ρ' 0 = V0_0 ∧ ρ' 3 = .int .u32 s1.1 ∧ ρ' 4 = .int .i64 s1.2 ∧ Gr w w') l3 ?_ ?_
    · skip
      exact ⟨rfl, rfl, rfl, fB⟩
    · rintro s1 x7 ρ5 w6 ⟨e0, e3, e4, fB⟩ h
      unfold rickyardref02_Sum.s0 at h
      refine cw_seq ?_
      refine cw_seq ?_
      refine cw_region ?_
      refine ol_val (v := .int .i64 s1.2) (by exact xr_move rfl e4) rfl rfl rfl ?_
      refine ol_val (v := V0_0) (by exact xr_move rfl e0) rfl rfl rfl ?_
      refine ol_val (v := .int .i64 (List.length a0 : Int)) (by exact xr_lenR rfl Try.underlying22 rfl (R0_0.gr fB)) rfl rfl rfl ?_
      refine ol_val (v := .bool (decide (s1.2 < (List.length a0 : Int)))) (by exact xr_lss rfl rfl rfl) rfl rfl rfl ?_
      refine ol_nil ?_
      rcases is h with ⟨c8, h⟩ | ⟨c8, h⟩
      · refine cw_condT rfl c8 ?_
        refine cw_skip ?_
        refine cw_seq ?_
        refine cw_block ?_
        refine cw_region ?_
        refine ol_val (v := .int .u32 s1.1) (by exact xr_move rfl e3) rfl rfl rfl ?_
        refine ol_val (v := V0_0) (by exact xr_move rfl e0) rfl rfl rfl ?_
        refine ol_val (v := .int .i64 s1.2) (by exact xr_move rfl e4) rfl rfl rfl ?_
        obtain ⟨g9, h⟩ := gs h
        refine ol_val (v := .pointer (some ⟨(sb V0_0), so V0_0 + Int.toNat s1.2 * 1, none⟩)) (by exact xr_indexR (K := (kI .u8)) (v := V0_0) rfl Try.underlying22 sz5 rfl (R0_0.gr fB) rfl g9.1 g9.2) rfl rfl rfl ?_
        refine ol_val (v := .int .u8 (ix a0 s1.2)) (by exact xr_load1 (v := .int .u8 (ix a0 s1.2)) rfl ag5 rfl ((R0_0.gr fB).elem g9.1 g9.2)) rfl rfl rfl ?_
        refine ol_val (v := .int .u32 (IntKind.u32.wrap (ix a0 s1.2))) (by exact xr_conv rfl Try.underlying5 Try.underlying36 rfl) rfl rfl rfl ?_
        refine ol_val (v := .int .u32 (bXor .u32 s1.1 (IntKind.u32.wrap (ix a0 s1.2)))) (by exact xr_xor rfl rfl rfl) rfl rfl rfl ?_
        obtain ⟨t10, k11, h⟩ := bs h
        refine ol_op (by exact opv_call rfl cal133 (ac rfl (ac rfl an)) (rickyardref02_Steps.ok fu _ (bXor .u32 s1.1 (IntKind.u32.wrap (ix a0 s1.2))) 8 _ k11)) rfl rfl rfl ?_
        rintro _ w13 ⟨rfl, q12⟩
        have fB := fB.gr q12
        refine ol_val (v := .int .u32 t10) (by exact xr_assign rfl rfl) rfl rfl rfl ?_
        refine ol_nil ?_
        refine blk_i ?_
        refine cw_region ?_
        refine ol_val (v := .int .i64 s1.2) (by exact xr_move rfl e4) rfl rfl rfl ?_
        refine ol_val (v := .int .i64 (IntKind.i64.wrap (s1.2 + 1))) (by exact xr_add rfl rfl rfl) rfl rfl rfl ?_
        refine ol_val (v := .int .i64 (IntKind.i64.wrap (s1.2 + 1))) (by exact xr_assign rfl rfl) rfl rfl rfl ?_
        refine ol_nil ?_
        obtain rfl := Option.some.inj h
        refine lp_in ?_
        exact ⟨e0, rfl, rfl, fB⟩
      · refine cw_condF rfl c8 ?_
        refine cw_exit ?_
        repeat (first | with_reducible refine thn_e ?_ | with_reducible refine blk_e rfl ?_)
        obtain rfl := Option.some.inj h
        refine lp_exit ?_
        rintro rfl
        refine thn_x ?_
        exact ⟨e3, fB⟩
  · rintro ρ14 w15 ⟨e3, fB⟩
    have h := h4
    refine cw_seq ?_
    refine cw_region ?_
    refine ol_val (v := .int .u32 e2) (by exact xr_move rfl e3) rfl rfl rfl ?_
    refine ol_val (v := .int .u32 (IntKind.u32.wrap (4294967295 - e2))) (by exact xr_sub rfl rfl rfl) rfl rfl rfl ?_
    refine ol_val (v := .int .u32 (IntKind.u32.wrap (4294967295 - e2))) (by exact xr_assign rfl rfl) rfl rfl rfl ?_
    refine ol_nil ?_
    refine cw_ret ?_
    repeat (first | with_reducible refine thn_r ?_ | with_reducible refine blk_r ?_)
    obtain rfl := Option.some.inj h
    refine fin_ret1 Try.results100 rfl ?_
    exact ⟨_, rfl, rfl, fB⟩
end Go.Proofs.Ytjhajfkfhdnciaa

/- rickyard/rickyardref07.Seal: its model, and that the Go function computes it: written by gen.py. -/
set_option linter.unusedVariables false
namespace Go.Proofs.Ytjhajfkfhdnciaa
open Go Go.Xw
def rickyardref07_Seal.f (fu : Nat) (a0 : Int) (a1 : Int) (a2 : List UInt8) : Option (List UInt8) := ((rickyardref07_Fill.f fu a2 56 : Option (List UInt8)).bind fun t6 => (if List.length (List.map toB [(IntKind.u8.wrap a0), (IntKind.u8.wrap a1), 0, 0]) + List.length t6 ≤ LIM then ((rickyardref02_Sum.f fu (List.map ofB ((List.map toB [(IntKind.u8.wrap a0), (IntKind.u8.wrap a1), 0, 0]) ++ t6)) : Option Int).bind fun t17 => ((rickyardref01_Lay.f fu (IntKind.u64.wrap t17) 4 : Option (List UInt8)).bind fun t21 => (if List.length t21 + List.length ((List.map toB [(IntKind.u8.wrap a0), (IntKind.u8.wrap a1), 0, 0]) ++ t6) ≤ LIM then some ((t21 ++ ((List.map toB [(IntKind.u8.wrap a0), (IntKind.u8.wrap a1), 0, 0]) ++ t6))) else none))) else none))
set_option maxRecDepth 100000 in
set_option maxHeartbeats 400000 in
theorem rickyardref07_Seal.ok (fu : Nat) (w : World) (a0 : Int) (a1 : Int) (a2 : List UInt8) (r : (List UInt8)) (h : rickyardref07_Seal.f fu a0 a1 a2 = some r) :
    Calls Try.prog 30 (([.int .i64 a0, .int .i64 a1, sv a2] : List Value).toArray) w (fun e w' => ∃ v, e = .returned v ∧ v = sv r ∧ Gr w w') := by
  unfold rickyardref07_Seal.f at h
  have fB : Gr w w := Fr.refl _ _
  refine calls_cw Try.func30 rfl Try.ntmps30 rfl ?_
  refine cw_seq ?_
  refine cw_region ?_
  refine ol_val (v := sv []) (by exact xr_assign rfl rfl) rfl rfl rfl ?_
  refine ol_nil ?_
  refine cw_seq ?_
  obtain ⟨t6, k7, h⟩ := bs h
  refine cw_drawL 8 [fun vz wz => vz = (.int .i64 a0 : Value), fun vz wz => vz = (.int .u8 (IntKind.u8.wrap a0) : Value), fun vz wz => vz = (.int .i64 a1 : Value), fun vz wz => vz = (.int .u8 (IntKind.u8.wrap a1) : Value), fun vz wz => ∃ v1 : Value, ∃ o3 : Own (kI .u8) 5 wz w.heap.size v1 [(IntKind.u8.wrap a0), (IntKind.u8.wrap a1), 0, 0], vz = (v1 : Value), fun vz wz => vz = (sv (List.map toB [(IntKind.u8.wrap a0), (IntKind.u8.wrap a1), 0, 0]) : Value), fun vz wz => vz = (sv a2 : Value), fun vz wz => vz = (sv t6 : Value)] mo rfl ⟨fun _ _ _ h _ => h, fun _ _ _ h _ => h, fun _ _ _ h _ => h, fun _ _ _ h _ => h, fun _ _ _ ⟨v1, o3, h⟩ q => ⟨v1, o3.gr q, h⟩, fun _ _ _ h _ => h, fun _ _ _ h _ => h, fun _ _ _ h _ => h, trivial⟩ ?_ ?_
  · refine ⟨?_, ?_, ?_, ?_, ?_, ?_, ?_, ?_, trivial⟩
    · intro ρz wz hz hk hd
      exact sk_val (v := .int .i64 a0) (by exact xr_move rfl ((hk 0 rfl).trans rfl)) rfl rfl
    · intro ρz wz hz hk hd
      have d8 := hd 0 rfl 8 rfl
      exact sk_val (v := .int .u8 (IntKind.u8.wrap a0)) (by exact xr_conv rfl Try.underlying3 Try.underlying5 d8) rfl rfl
    · intro ρz wz hz hk hd
      exact sk_val (v := .int .i64 a1) (by exact xr_move rfl ((hk 1 rfl).trans rfl)) rfl rfl
    · intro ρz wz hz hk hd
      have d10 := hd 2 rfl 10 rfl
      exact sk_val (v := .int .u8 (IntKind.u8.wrap a1)) (by exact xr_conv rfl Try.underlying3 Try.underlying5 d10) rfl rfl
    · intro ρz wz hz hk hd
      have d9 := hd 1 rfl 9 rfl
      have d11 := hd 3 rfl 11 rfl
      refine sk_op (by exact opv_buildSlice (K := (kI .u8)) (xs := [(IntKind.u8.wrap a0), (IntKind.u8.wrap a1), 0, 0]) (vals := [.int .u8 (IntKind.u8.wrap a0), .int .u8 (IntKind.u8.wrap a1), .int .u8 0, .int .u8 0]) rfl Try.underlying22 el5 rfl rfl ⟨rfl, d9, ⟨rfl, d11, ⟨rfl, rfl, ⟨rfl, rfl, trivial⟩⟩⟩⟩ rfl rfl rfl (Nat.le_trans fB.size hz.size)) rfl ?_
      rintro v1 wy ⟨o3, q2, z4⟩
      exact ⟨⟨v1, o3, rfl⟩, q2⟩
    · intro ρz wz hz hk hd
      obtain ⟨v1, o3, d12⟩ := hd 4 rfl 12 rfl
      exact sk_val (by exact xr_toStr rfl Try.underlying22 Try.underlying5 Try.underlying9 d12 o3.rd) rfl rfl
    · intro ρz wz hz hk hd
      exact sk_val (v := sv a2) (by exact xr_move rfl ((hk 2 rfl).trans rfl)) rfl rfl
    · intro ρz wz hz hk hd
      have d14 := hd 6 rfl 14 rfl
      refine sk_op (by exact opv_call rfl cal31 (ac d14 (ac rfl an)) (rickyardref07_Fill.ok fu _ a2 56 _ k7)) rfl ?_
      rintro _ wy ⟨rfl, q8⟩
      exact ⟨rfl, q8⟩
  · intro ρ9 w10 q11 hk hd
    have e13 := hd 5 rfl 13 rfl
    have e15 := hd 7 rfl 15 rfl
    have fB := fB.gr q11
    obtain ⟨g12, h⟩ := gs h
    refine ol_val (v := sv ((List.map toB [(IntKind.u8.wrap a0), (IntKind.u8.wrap a1), 0, 0]) ++ t6)) (by exact xr_addStr rfl e13 e15 g12) rfl rfl rfl ?_
    refine ol_val (v := sv ((List.map toB [(IntKind.u8.wrap a0), (IntKind.u8.wrap a1), 0, 0]) ++ t6)) (by exact xr_assign rfl rfl) rfl rfl rfl ?_
    refine ol_nil ?_
    refine cw_seq ?_
    refine cw_region ?_
    refine ol_val (v := sv ((List.map toB [(IntKind.u8.wrap a0), (IntKind.u8.wrap a1), 0, 0]) ++ t6)) (by exact xr_move rfl rfl) rfl rfl rfl ?_
    refine ol_op (by exact opv_toBytes rfl Try.underlying9 Try.underlying22 Try.underlying5 rfl) rfl rfl rfl ?_
    rintro v13 w16 ⟨r15, q14⟩
    have fB := fB.gr q14
    obtain ⟨t17, k18, h⟩ := bs h
    refine ol_op (by exact opv_call rfl cal100 (ac rfl an) (rickyardref02_Sum.ok fu _ (List.map ofB ((List.map toB [(IntKind.u8.wrap a0), (IntKind.u8.wrap a1), 0, 0]) ++ t6)) v13 (r15) _ k18)) rfl rfl rfl ?_
    rintro _ w20 ⟨rfl, q19⟩
    have fB := fB.gr q19
    refine ol_val (v := .int .u64 (IntKind.u64.wrap t17)) (by exact xr_conv rfl Try.underlying36 Try.underlying129 rfl) rfl rfl rfl ?_
    obtain ⟨t21, k22, h⟩ := bs h
    refine ol_op (by exact opv_call rfl cal99 (ac rfl (ac rfl an)) (rickyardref01_Lay.ok fu _ (IntKind.u64.wrap t17) 4 _ k22)) rfl rfl rfl ?_
    rintro _ w24 ⟨rfl, q23⟩
    have fB := fB.gr q23
    refine ol_val (v := sv ((List.map toB [(IntKind.u8.wrap a0), (IntKind.u8.wrap a1), 0, 0]) ++ t6)) (by exact xr_move rfl rfl) rfl rfl rfl ?_
    obtain ⟨g25, h⟩ := gs h
    refine ol_val (v := sv (t21 ++ ((List.map toB [(IntKind.u8.wrap a0), (IntKind.u8.wrap a1), 0, 0]) ++ t6))) (by exact xr_addStr rfl rfl rfl g25) rfl rfl rfl ?_
    refine ol_val (v := sv (t21 ++ ((List.map toB [(IntKind.u8.wrap a0), (IntKind.u8.wrap a1), 0, 0]) ++ t6))) (by exact xr_assign rfl rfl) rfl rfl rfl ?_
    refine ol_nil ?_
    refine cw_ret ?_
    repeat (first | with_reducible refine thn_r ?_ | with_reducible refine blk_r ?_)
    obtain rfl := Option.some.inj h
    refine fin_ret1 Try.results30 rfl ?_
    exact ⟨_, rfl, rfl, fB⟩
end Go.Proofs.Ytjhajfkfhdnciaa

/- rickyard/rickyardref07.Open: its model, and that the Go function computes it: written by gen.py. -/
set_option linter.unusedVariables false
namespace Go.Proofs.Ytjhajfkfhdnciaa
open Go Go.Xw
def rickyardref07_Open.f (fu : Nat) (a0 : List Int) : Option (Int × Int × (List UInt8) × Bool) := (((if (!decide ((List.length a0 : Int) = 64)) = true then some (true) else (if (4 : Int) < (List.length a0 : Int) then (if (decide ((ix a0 4) = 0)) = true then some (true) else (if (4 : Int) < (List.length a0 : Int) then (if (5 : Int) < (List.length a0 : Int) then (if (8 : Int) ≤ (List.length a0 : Int) then ((rickyardref07_Seal.f fu (IntKind.i64.wrap (ix a0 4)) (IntKind.i64.wrap (ix a0 5)) (List.map toB (cut a0 8 (List.length a0 : Int))) : Option (List UInt8)).bind fun t17 => some ((!decide (t17 = (List.map toB a0))))) else none) else none) else none)) else none)) : Option Bool).bind fun x1 => (if x1 = true then some (0, 0, [], false) else (if (4 : Int) < (List.length a0 : Int) then (if (5 : Int) < (List.length a0 : Int) then (if (8 : Int) ≤ (List.length a0 : Int) then some ((IntKind.i64.wrap (ix a0 4)), (IntKind.i64.wrap (ix a0 5)), (List.map toB (cut a0 8 (List.length a0 : Int))), true) else none) else none) else none)))
set_option maxRecDepth 100000 in
set_option maxHeartbeats 400000 in
theorem rickyardref07_Open.ok (fu : Nat) (w : World) (a0 : List Int) (V0_0 : Value) (R0_0 : Rd (kI .u8) w V0_0 a0) (r : Int × Int × (List UInt8) × Bool) (h : rickyardref07_Open.f fu a0 = some r) :
    Calls Try.prog 32 (([V0_0] : List Value).toArray) w (fun e w' => ∃ v, e = .returned v ∧ v = .tuple #[.int .i64 r.1, .int .i64 r.2.1, sv r.2.2.1, .bool r.2.2.2] ∧ Gr w w') := by
  unfold rickyardref07_Open.f at h
  have fB : Gr w w := Fr.refl _ _
  refine calls_cw Try.func32 rfl Try.ntmps32 rfl ?_
  refine cw_seq ?_
  refine cw_region ?_
  refine ol_val (v := .int .i64 0) (by exact xr_assign rfl rfl) rfl rfl rfl ?_
  refine ol_val (v := .int .i64 0) (by exact xr_assign rfl rfl) rfl rfl rfl ?_
  refine ol_val (v := sv []) (by exact xr_assign rfl rfl) rfl rfl rfl ?_
  refine ol_val (v := .bool false) (by exact xr_assign rfl rfl) rfl rfl rfl ?_
  refine ol_nil ?_
  refine cw_seq ?_
  refine cw_seq ?_
  obtain ⟨x1, j2, h⟩ := bs h
  refine cw_mid (fun ρ' w' => ρ' 0 = V0_0 ∧ ρ' 31 = .bool x1 ∧ Gr w w') ?_ ?_
  · skip
    rcases is j2 with ⟨c3, j2⟩ | ⟨c3, j2⟩
    · skip
      refine cw_drawL 25 [fun vz wz => vz = (V0_0 : Value), fun vz wz => vz = (.int .i64 (List.length a0 : Int) : Value), fun vz wz => vz = (.bool (!decide ((List.length a0 : Int) = 64)) : Value), fun vz wz => vz = (.bool (!decide ((List.length a0 : Int) = 64)) : Value), fun vz _ => vz = undef, fun vz _ => vz = undef, fun vz _ => vz = undef, fun vz _ => vz = undef, fun vz wz => vz = (.bool true : Value), fun vz wz => vz = (.bool true : Value), fun vz _ => vz = undef, fun vz _ => vz = undef, fun vz _ => vz = undef, fun vz _ => vz = undef, fun vz _ => vz = undef, fun vz _ => vz = undef, fun vz _ => vz = undef, fun vz _ => vz = undef, fun vz _ => vz = undef, fun vz _ => vz = undef, fun vz _ => vz = undef, fun vz _ => vz = undef, fun vz _ => vz = undef, fun vz _ => vz = undef, fun vz _ => vz = undef] mo rfl ⟨fun _ _ _ h _ => h, fun _ _ _ h _ => h, fun _ _ _ h _ => h, fun _ _ _ h _ => h, fun _ _ _ h _ => h, fun _ _ _ h _ => h, fun _ _ _ h _ => h, fun _ _ _ h _ => h, fun _ _ _ h _ => h, fun _ _ _ h _ => h, fun _ _ _ h _ => h, fun _ _ _ h _ => h, fun _ _ _ h _ => h, fun _ _ _ h _ => h, fun _ _ _ h _ => h, fun _ _ _ h _ => h, fun _ _ _ h _ => h, fun _ _ _ h _ => h, fun _ _ _ h _ => h, fun _ _ _ h _ => h, fun _ _ _ h _ => h, fun _ _ _ h _ => h, fun _ _ _ h _ => h, fun _ _ _ h _ => h, fun _ _ _ h _ => h, trivial⟩ ?_ ?_
      · refine ⟨?_, ?_, ?_, ?_, ?_, ?_, ?_, ?_, ?_, ?_, ?_, ?_, ?_, ?_, ?_, ?_, ?_, ?_, ?_, ?_, ?_, ?_, ?_, ?_, ?_, trivial⟩
        · intro ρz wz hz hk hd
          exact sk_val (v := V0_0) (by exact xr_move rfl ((hk 0 rfl).trans rfl)) rfl rfl
        · intro ρz wz hz hk hd
          have d6 := hd 0 rfl 6 rfl
          exact sk_val (v := .int .i64 (List.length a0 : Int)) (by exact xr_lenR rfl Try.underlying22 d6 (R0_0.gr (fB.gr hz))) rfl rfl
        · intro ρz wz hz hk hd
          have d7 := hd 1 rfl 7 rfl
          exact sk_val (v := .bool (!decide ((List.length a0 : Int) = 64))) (by exact xr_neI rfl Try.underlying3 rfl d7 rfl) rfl rfl
        · intro ρz wz hz hk hd
          have d8 := hd 2 rfl 8 rfl
          exact sk_val (v := .bool (!decide ((List.length a0 : Int) = 64))) (by exact xr_move rfl d8) rfl rfl
        · intro ρz wz hz hk hd
          have d9 := hd 3 rfl 9 rfl
          exact sk_skip rfl rfl d9 c3 rfl
        · intro ρz wz hz hk hd
          have d9 := hd 3 rfl 9 rfl
          exact sk_skip rfl rfl d9 c3 rfl
        · intro ρz wz hz hk hd
          have d9 := hd 3 rfl 9 rfl
          exact sk_skip rfl rfl d9 c3 rfl
        · intro ρz wz hz hk hd
          have d9 := hd 3 rfl 9 rfl
          exact sk_skip rfl rfl d9 c3 rfl
        · intro ρz wz hz hk hd
          have d9 := hd 3 rfl 9 rfl
          exact sk_val (v := .bool true) (by exact xr_pickT rfl d9 c3 rfl) rfl rfl
        · intro ρz wz hz hk hd
          have d14 := hd 8 rfl 14 rfl
          exact sk_val (v := .bool true) (by exact xr_move rfl d14) rfl rfl
        · intro ρz wz hz hk hd
          have d15 := hd 9 rfl 15 rfl
          exact sk_skip rfl rfl d15 rfl rfl
        · intro ρz wz hz hk hd
          have d15 := hd 9 rfl 15 rfl
          exact sk_skip rfl rfl d15 rfl rfl
        · intro ρz wz hz hk hd
          have d15 := hd 9 rfl 15 rfl
          exact sk_skip rfl rfl d15 rfl rfl
        · intro ρz wz hz hk hd
          have d15 := hd 9 rfl 15 rfl
          exact sk_skip rfl rfl d15 rfl rfl
        · intro ρz wz hz hk hd
          have d15 := hd 9 rfl 15 rfl
          exact sk_skip rfl rfl d15 rfl rfl
        · intro ρz wz hz hk hd
          have d15 := hd 9 rfl 15 rfl
          exact sk_skip rfl rfl d15 rfl rfl
        · intro ρz wz hz hk hd
          have d15 := hd 9 rfl 15 rfl
          exact sk_skip rfl rfl d15 rfl rfl
        · intro ρz wz hz hk hd
          have d15 := hd 9 rfl 15 rfl
          exact sk_skip rfl rfl d15 rfl rfl
        · intro ρz wz hz hk hd
          have d15 := hd 9 rfl 15 rfl
          exact sk_skip rfl rfl d15 rfl rfl
        · intro ρz wz hz hk hd
          have d15 := hd 9 rfl 15 rfl
          exact sk_skip rfl rfl d15 rfl rfl
        · intro ρz wz hz hk hd
          have d15 := hd 9 rfl 15 rfl
          exact sk_skip rfl rfl d15 rfl rfl
        · intro ρz wz hz hk hd
          have d15 := hd 9 rfl 15 rfl
          exact sk_skip rfl rfl d15 rfl rfl
        · intro ρz wz hz hk hd
          have d15 := hd 9 rfl 15 rfl
          exact sk_skip rfl rfl d15 rfl rfl
        · intro ρz wz hz hk hd
          have d15 := hd 9 rfl 15 rfl
          exact sk_skip rfl rfl d15 rfl rfl
        · intro ρz wz hz hk hd
          have d15 := hd 9 rfl 15 rfl
          exact sk_skip rfl rfl d15 rfl rfl
      · intro ρ4 w5 q6 hk hd
        have e0 := (hk 0 rfl).trans rfl
        have e15 := hd 9 rfl 15 rfl
        have fB := fB.gr q6
        refine ol_val (v := .bool true) (by exact xr_pickT rfl e15 rfl rfl) rfl rfl rfl ?_
        refine ol_nil ?_
        obtain rfl := Option.some.inj j2
        refine thn_i ?_
        exact ⟨e0, rfl, q6⟩
    · skip
      obtain ⟨g7, j2⟩ := gs j2
      rcases is j2 with ⟨c8, j2⟩ | ⟨c8, j2⟩
      · skip
        refine cw_drawL 25 [fun vz wz => vz = (V0_0 : Value), fun vz wz => vz = (.int .i64 (List.length a0 : Int) : Value), fun vz wz => vz = (.bool (!decide ((List.length a0 : Int) = 64)) : Value), fun vz wz => vz = (.bool (!decide ((List.length a0 : Int) = 64)) : Value), fun vz wz => vz = (V0_0 : Value), fun vz wz => vz = (.pointer (some ⟨(sb V0_0), so V0_0 + Int.toNat 4 * 1, none⟩) : Value), fun vz wz => vz = (.int .u8 (ix a0 4) : Value), fun vz wz => vz = (.bool (decide ((ix a0 4) = 0)) : Value), fun vz wz => vz = (.bool (decide ((ix a0 4) = 0)) : Value), fun vz wz => vz = (.bool (decide ((ix a0 4) = 0)) : Value), fun vz _ => vz = undef, fun vz _ => vz = undef, fun vz _ => vz = undef, fun vz _ => vz = undef, fun vz _ => vz = undef, fun vz _ => vz = undef, fun vz _ => vz = undef, fun vz _ => vz = undef, fun vz _ => vz = undef, fun vz _ => vz = undef, fun vz _ => vz = undef, fun vz _ => vz = undef, fun vz _ => vz = undef, fun vz _ => vz = undef, fun vz _ => vz = undef] mo rfl ⟨fun _ _ _ h _ => h, fun _ _ _ h _ => h, fun _ _ _ h _ => h, fun _ _ _ h _ => h, fun _ _ _ h _ => h, fun _ _ _ h _ => h, fun _ _ _ h _ => h, fun _ _ _ h _ => h, fun _ _ _ h _ => h, fun _ _ _ h _ => h, fun _ _ _ h _ => h, fun _ _ _ h _ => h, fun _ _ _ h _ => h, fun _ _ _ h _ => h, fun _ _ _ h _ => h, fun _ _ _ h _ => h, fun _ _ _ h _ => h, fun _ _ _ h _ => h, fun _ _ _ h _ => h, fun _ _ _ h _ => h, fun _ _ _ h _ => h, fun _ _ _ h _ => h, fun _ _ _ h _ => h, fun _ _ _ h _ => h, fun _ _ _ h _ => h, trivial⟩ ?_ ?_
        · refine ⟨?_, ?_, ?_, ?_, ?_, ?_, ?_, ?_, ?_, ?_, ?_, ?_, ?_, ?_, ?_, ?_, ?_, ?_, ?_, ?_, ?_, ?_, ?_, ?_, ?_, trivial⟩
          · intro ρz wz hz hk hd
            exact sk_val (v := V0_0) (by exact xr_move rfl ((hk 0 rfl).trans rfl)) rfl rfl
          · intro ρz wz hz hk hd
            have d6 := hd 0 rfl 6 rfl
            exact sk_val (v := .int .i64 (List.length a0 : Int)) (by exact xr_lenR rfl Try.underlying22 d6 (R0_0.gr (fB.gr hz))) rfl rfl
          · intro ρz wz hz hk hd
            have d7 := hd 1 rfl 7 rfl
            exact sk_val (v := .bool (!decide ((List.length a0 : Int) = 64))) (by exact xr_neI rfl Try.underlying3 rfl d7 rfl) rfl rfl
          · intro ρz wz hz hk hd
            have d8 := hd 2 rfl 8 rfl
            exact sk_val (v := .bool (!decide ((List.length a0 : Int) = 64))) (by exact xr_move rfl d8) rfl rfl
          · intro ρz wz hz hk hd
            have d9 := hd 3 rfl 9 rfl
            exact sk_gval (v := V0_0) (by exact xr_move rfl ((hk 0 rfl).trans rfl)) rfl rfl d9 c3 rfl
          · intro ρz wz hz hk hd
            have d10 := hd 4 rfl 10 rfl
            have d9 := hd 3 rfl 9 rfl
            exact sk_gval (by exact xr_indexR (K := (kI .u8)) (v := V0_0) rfl Try.underlying22 sz5 d10 (R0_0.gr (fB.gr hz)) rfl (by decide) g7) rfl rfl d9 c3 rfl
          · intro ρz wz hz hk hd
            have d11 := hd 5 rfl 11 rfl
            have d9 := hd 3 rfl 9 rfl
            exact sk_gval (v := .int .u8 (ix a0 4)) (by exact xr_load1 (v := .int .u8 (ix a0 4)) rfl ag5 d11 ((R0_0.gr (fB.gr hz)).elem (by decide) g7)) rfl rfl d9 c3 rfl
          · intro ρz wz hz hk hd
            have d12 := hd 6 rfl 12 rfl
            have d9 := hd 3 rfl 9 rfl
            exact sk_gval (v := .bool (decide ((ix a0 4) = 0))) (by exact xr_eqI rfl Try.underlying5 rfl d12 rfl) rfl rfl d9 c3 rfl
          · intro ρz wz hz hk hd
            have d9 := hd 3 rfl 9 rfl
            have d13 := hd 7 rfl 13 rfl
            exact sk_val (v := .bool (decide ((ix a0 4) = 0))) (by exact xr_pickF rfl d9 c3 d13) rfl rfl
          · intro ρz wz hz hk hd
            have d14 := hd 8 rfl 14 rfl
            exact sk_val (v := .bool (decide ((ix a0 4) = 0))) (by exact xr_move rfl d14) rfl rfl
          · intro ρz wz hz hk hd
            have d15 := hd 9 rfl 15 rfl
            exact sk_skip rfl rfl d15 c8 rfl
          · intro ρz wz hz hk hd
            have d15 := hd 9 rfl 15 rfl
            exact sk_skip rfl rfl d15 c8 rfl
          · intro ρz wz hz hk hd
            have d15 := hd 9 rfl 15 rfl
            exact sk_skip rfl rfl d15 c8 rfl
          · intro ρz wz hz hk hd
            have d15 := hd 9 rfl 15 rfl
            exact sk_skip rfl rfl d15 c8 rfl
          · intro ρz wz hz hk hd
            have d15 := hd 9 rfl 15 rfl
            exact sk_skip rfl rfl d15 c8 rfl
          · intro ρz wz hz hk hd
            have d15 := hd 9 rfl 15 rfl
            exact sk_skip rfl rfl d15 c8 rfl
          · intro ρz wz hz hk hd
            have d15 := hd 9 rfl 15 rfl
            exact sk_skip rfl rfl d15 c8 rfl
          · intro ρz wz hz hk hd
            have d15 := hd 9 rfl 15 rfl
            exact sk_skip rfl rfl d15 c8 rfl
          · intro ρz wz hz hk hd
            have d15 := hd 9 rfl 15 rfl
            exact sk_skip rfl rfl d15 c8 rfl
          · intro ρz wz hz hk hd
            have d15 := hd 9 rfl 15 rfl
            exact sk_skip rfl rfl d15 c8 rfl
          · intro ρz wz hz hk hd
            have d15 := hd 9 rfl 15 rfl
            exact sk_skip rfl rfl d15 c8 rfl
          · intro ρz wz hz hk hd
            have d15 := hd 9 rfl 15 rfl
            exact sk_skip rfl rfl d15 c8 rfl
          · intro ρz wz hz hk hd
            have d15 := hd 9 rfl 15 rfl
            exact sk_skip rfl rfl d15 c8 rfl
          · intro ρz wz hz hk hd
            have d15 := hd 9 rfl 15 rfl
            exact sk_skip rfl rfl d15 c8 rfl
          · intro ρz wz hz hk hd
            have d15 := hd 9 rfl 15 rfl
            exact sk_skip rfl rfl d15 c8 rfl
        · intro ρ9 w10 q11 hk hd
          have e0 := (hk 0 rfl).trans rfl
          have e15 := hd 9 rfl 15 rfl
          have fB := fB.gr q11
          refine ol_val (v := .bool true) (by exact xr_pickT rfl e15 c8 rfl) rfl rfl rfl ?_
          refine ol_nil ?_
          obtain rfl := Option.some.inj j2
          refine thn_i ?_
          exact ⟨e0, rfl, q11⟩
      · skip
        obtain ⟨g12, j2⟩ := gs j2
        obtain ⟨g13, j2⟩ := gs j2
        obtain ⟨g15, j2⟩ := gs j2
        obtain ⟨t17, k18, j2⟩ := bs j2
        refine cw_drawL 25 [fun vz wz => vz = (V0_0 : Value), fun vz wz => vz = (.int .i64 (List.length a0 : Int) : Value), fun vz wz => vz = (.bool (!decide ((List.length a0 : Int) = 64)) : Value), fun vz wz => vz = (.bool (!decide ((List.length a0 : Int) = 64)) : Value), fun vz wz => vz = (V0_0 : Value), fun vz wz => vz = (.pointer (some ⟨(sb V0_0), so V0_0 + Int.toNat 4 * 1, none⟩) : Value), fun vz wz => vz = (.int .u8 (ix a0 4) : Value), fun vz wz => vz = (.bool (decide ((ix a0 4) = 0)) : Value), fun vz wz => vz = (.bool (decide ((ix a0 4) = 0)) : Value), fun vz wz => vz = (.bool (decide ((ix a0 4) = 0)) : Value), fun vz wz => vz = (V0_0 : Value), fun vz wz => vz = (.pointer (some ⟨(sb V0_0), so V0_0 + Int.toNat 4 * 1, none⟩) : Value), fun vz wz => vz = (.int .u8 (ix a0 4) : Value), fun vz wz => vz = (.int .i64 (IntKind.i64.wrap (ix a0 4)) : Value), fun vz wz => vz = (V0_0 : Value), fun vz wz => vz = (.pointer (some ⟨(sb V0_0), so V0_0 + Int.toNat 5 * 1, none⟩) : Value), fun vz wz => vz = (.int .u8 (ix a0 5) : Value), fun vz wz => vz = (.int .i64 (IntKind.i64.wrap (ix a0 5)) : Value), fun vz wz => vz = (V0_0 : Value), fun vz wz => ∃ u16 : Value, ∃ r14 : Rd (kI .u8) wz u16 (cut a0 8 (List.length a0 : Int)), vz = (u16 : Value), fun vz wz => vz = (sv (List.map toB (cut a0 8 (List.length a0 : Int))) : Value), fun vz wz => vz = (sv t17 : Value), fun vz wz => vz = (V0_0 : Value), fun vz wz => vz = (sv (List.map toB a0) : Value), fun vz wz => vz = (.bool (!decide (t17 = (List.map toB a0))) : Value)] mo rfl ⟨fun _ _ _ h _ => h, fun _ _ _ h _ => h, fun _ _ _ h _ => h, fun _ _ _ h _ => h, fun _ _ _ h _ => h, fun _ _ _ h _ => h, fun _ _ _ h _ => h, fun _ _ _ h _ => h, fun _ _ _ h _ => h, fun _ _ _ h _ => h, fun _ _ _ h _ => h, fun _ _ _ h _ => h, fun _ _ _ h _ => h, fun _ _ _ h _ => h, fun _ _ _ h _ => h, fun _ _ _ h _ => h, fun _ _ _ h _ => h, fun _ _ _ h _ => h, fun _ _ _ h _ => h, fun _ _ _ ⟨u16, r14, h⟩ q => ⟨u16, r14.gr q, h⟩, fun _ _ _ h _ => h, fun _ _ _ h _ => h, fun _ _ _ h _ => h, fun _ _ _ h _ => h, fun _ _ _ h _ => h, trivial⟩ ?_ ?_
        · refine ⟨?_, ?_, ?_, ?_, ?_, ?_, ?_, ?_, ?_, ?_, ?_, ?_, ?_, ?_, ?_, ?_, ?_, ?_, ?_, ?_, ?_, ?_, ?_, ?_, ?_, trivial⟩
          · intro ρz wz hz hk hd
            exact sk_val (v := V0_0) (by exact xr_move rfl ((hk 0 rfl).trans rfl)) rfl rfl
          · intro ρz wz hz hk hd
            have d6 := hd 0 rfl 6 rfl
            exact sk_val (v := .int .i64 (List.length a0 : Int)) (by exact xr_lenR rfl Try.underlying22 d6 (R0_0.gr (fB.gr hz))) rfl rfl
          · intro ρz wz hz hk hd
            have d7 := hd 1 rfl 7 rfl
            exact sk_val (v := .bool (!decide ((List.length a0 : Int) = 64))) (by exact xr_neI rfl Try.underlying3 rfl d7 rfl) rfl rfl
          · intro ρz wz hz hk hd
            have d8 := hd 2 rfl 8 rfl
            exact sk_val (v := .bool (!decide ((List.length a0 : Int) = 64))) (by exact xr_move rfl d8) rfl rfl
          · intro ρz wz hz hk hd
            have d9 := hd 3 rfl 9 rfl
            exact sk_gval (v := V0_0) (by exact xr_move rfl ((hk 0 rfl).trans rfl)) rfl rfl d9 c3 rfl
          · intro ρz wz hz hk hd
            have d10 := hd 4 rfl 10 rfl
            have d9 := hd 3 rfl 9 rfl
            exact sk_gval (by exact xr_indexR (K := (kI .u8)) (v := V0_0) rfl Try.underlying22 sz5 d10 (R0_0.gr (fB.gr hz)) rfl (by decide) g7) rfl rfl d9 c3 rfl
          · intro ρz wz hz hk hd
            have d11 := hd 5 rfl 11 rfl
            have d9 := hd 3 rfl 9 rfl
            exact sk_gval (v := .int .u8 (ix a0 4)) (by exact xr_load1 (v := .int .u8 (ix a0 4)) rfl ag5 d11 ((R0_0.gr (fB.gr hz)).elem (by decide) g7)) rfl rfl d9 c3 rfl
          · intro ρz wz hz hk hd
            have d12 := hd 6 rfl 12 rfl
            have d9 := hd 3 rfl 9 rfl
            exact sk_gval (v := .bool (decide ((ix a0 4) = 0))) (by exact xr_eqI rfl Try.underlying5 rfl d12 rfl) rfl rfl d9 c3 rfl
          · intro ρz wz hz hk hd
            have d9 := hd 3 rfl 9 rfl
            have d13 := hd 7 rfl 13 rfl
            exact sk_val (v := .bool (decide ((ix a0 4) = 0))) (by exact xr_pickF rfl d9 c3 d13) rfl rfl
          · intro ρz wz hz hk hd
            have d14 := hd 8 rfl 14 rfl
            exact sk_val (v := .bool (decide ((ix a0 4) = 0))) (by exact xr_move rfl d14) rfl rfl
          · intro ρz wz hz hk hd
            have d15 := hd 9 rfl 15 rfl
            exact sk_gval (v := V0_0) (by exact xr_move rfl ((hk 0 rfl).trans rfl)) rfl rfl d15 c8 rfl
          · intro ρz wz hz hk hd
            have d16 := hd 10 rfl 16 rfl
            have d15 := hd 9 rfl 15 rfl
            exact sk_gval (by exact xr_indexR (K := (kI .u8)) (v := V0_0) rfl Try.underlying22 sz5 d16 (R0_0.gr (fB.gr hz)) rfl (by decide) g12) rfl rfl d15 c8 rfl
          · intro ρz wz hz hk hd
            have d17 := hd 11 rfl 17 rfl
            have d15 := hd 9 rfl 15 rfl
            exact sk_gval (v := .int .u8 (ix a0 4)) (by exact xr_load1 (v := .int .u8 (ix a0 4)) rfl ag5 d17 ((R0_0.gr (fB.gr hz)).elem (by decide) g12)) rfl rfl d15 c8 rfl
          · intro ρz wz hz hk hd
            have d18 := hd 12 rfl 18 rfl
            have d15 := hd 9 rfl 15 rfl
            exact sk_gval (v := .int .i64 (IntKind.i64.wrap (ix a0 4))) (by exact xr_conv rfl Try.underlying5 Try.underlying3 d18) rfl rfl d15 c8 rfl
          · intro ρz wz hz hk hd
            have d15 := hd 9 rfl 15 rfl
            exact sk_gval (v := V0_0) (by exact xr_move rfl ((hk 0 rfl).trans rfl)) rfl rfl d15 c8 rfl
          · intro ρz wz hz hk hd
            have d20 := hd 14 rfl 20 rfl
            have d15 := hd 9 rfl 15 rfl
            exact sk_gval (by exact xr_indexR (K := (kI .u8)) (v := V0_0) rfl Try.underlying22 sz5 d20 (R0_0.gr (fB.gr hz)) rfl (by decide) g13) rfl rfl d15 c8 rfl
          · intro ρz wz hz hk hd
            have d21 := hd 15 rfl 21 rfl
            have d15 := hd 9 rfl 15 rfl
            exact sk_gval (v := .int .u8 (ix a0 5)) (by exact xr_load1 (v := .int .u8 (ix a0 5)) rfl ag5 d21 ((R0_0.gr (fB.gr hz)).elem (by decide) g13)) rfl rfl d15 c8 rfl
          · intro ρz wz hz hk hd
            have d22 := hd 16 rfl 22 rfl
            have d15 := hd 9 rfl 15 rfl
            exact sk_gval (v := .int .i64 (IntKind.i64.wrap (ix a0 5))) (by exact xr_conv rfl Try.underlying5 Try.underlying3 d22) rfl rfl d15 c8 rfl
          · intro ρz wz hz hk hd
            have d15 := hd 9 rfl 15 rfl
            exact sk_gval (v := V0_0) (by exact xr_move rfl ((hk 0 rfl).trans rfl)) rfl rfl d15 c8 rfl
          · intro ρz wz hz hk hd
            have d24 := hd 18 rfl 24 rfl
            have d15 := hd 9 rfl 15 rfl
            exact sk_gval (by exact xr_slice_l (K := (kI .u8)) (v := V0_0) rfl Try.underlying22 sz5 d24 (R0_0.gr (fB.gr hz)) rfl (by decide) g15) rfl rfl d15 c8 ⟨_, (R0_0.gr (fB.gr hz)).cut (lo := 8) (hi := (List.length a0 : Int)) (by decide) g15 (Int.le_refl _), rfl⟩
          · intro ρz wz hz hk hd
            obtain ⟨u16, r14, d25⟩ := hd 19 rfl 25 rfl
            have d15 := hd 9 rfl 15 rfl
            exact sk_gval (v := sv (List.map toB (cut a0 8 (List.length a0 : Int)))) (by exact xr_toStr rfl Try.underlying22 Try.underlying5 Try.underlying9 d25 r14) rfl rfl d15 c8 rfl
          · intro ρz wz hz hk hd
            have d19 := hd 13 rfl 19 rfl
            have d23 := hd 17 rfl 23 rfl
            have d26 := hd 20 rfl 26 rfl
            have d15 := hd 9 rfl 15 rfl
            refine sk_gop (by exact opv_call rfl cal30 (ac d19 (ac d23 (ac d26 an))) (rickyardref07_Seal.ok fu _ (IntKind.i64.wrap (ix a0 4)) (IntKind.i64.wrap (ix a0 5)) (List.map toB (cut a0 8 (List.length a0 : Int))) _ k18)) rfl rfl d15 c8 ?_
            rintro _ wy ⟨rfl, q19⟩
            exact ⟨rfl, q19⟩
          · intro ρz wz hz hk hd
            have d15 := hd 9 rfl 15 rfl
            exact sk_gval (v := V0_0) (by exact xr_move rfl ((hk 0 rfl).trans rfl)) rfl rfl d15 c8 rfl
          · intro ρz wz hz hk hd
            have d28 := hd 22 rfl 28 rfl
            have d15 := hd 9 rfl 15 rfl
            exact sk_gval (v := sv (List.map toB a0)) (by exact xr_toStr rfl Try.underlying22 Try.underlying5 Try.underlying9 d28 (R0_0.gr (fB.gr hz))) rfl rfl d15 c8 rfl
          · intro ρz wz hz hk hd
            have d27 := hd 21 rfl 27 rfl
            have d29 := hd 23 rfl 29 rfl
            have d15 := hd 9 rfl 15 rfl
            exact sk_gval (v := .bool (!decide (t17 = (List.map toB a0)))) (by exact xr_neStr rfl Try.underlying9 d27 d29) rfl rfl d15 c8 rfl
        · intro ρ20 w21 q22 hk hd
          have e0 := (hk 0 rfl).trans rfl
          have e15 := hd 9 rfl 15 rfl
          have e30 := hd 24 rfl 30 rfl
          have fB := fB.gr q22
          refine ol_val (v := .bool (!decide (t17 = (List.map toB a0)))) (by exact xr_pickF rfl e15 c8 e30) rfl rfl rfl ?_
          refine ol_nil ?_
          obtain rfl := Option.some.inj j2
          refine thn_i ?_
          exact ⟨e0, rfl, q22⟩
  · skip
    rintro ρ23 w24 ⟨e0, e31, q25⟩
    have fB := fB.gr q25
    rcases is h with ⟨c26, h⟩ | ⟨c26, h⟩
    · refine cw_condT e31 c26 ?_
      refine cw_seq ?_
      refine cw_region ?_
      refine ol_val (v := .int .i64 0) (by exact xr_assign rfl rfl) rfl rfl rfl ?_
      refine ol_val (v := .int .i64 0) (by exact xr_assign rfl rfl) rfl rfl rfl ?_
      refine ol_val (v := sv []) (by exact xr_assign rfl rfl) rfl rfl rfl ?_
      refine ol_val (v := .bool false) (by exact xr_assign rfl rfl) rfl rfl rfl ?_
      refine ol_nil ?_
      refine cw_ret ?_
      repeat (first | with_reducible refine thn_r ?_ | with_reducible refine blk_r ?_)
      obtain rfl := Option.some.inj h
      refine fin_ret4 Try.results32 rfl rfl rfl rfl ?_
      exact ⟨_, rfl, rfl, fB⟩
    · refine cw_condF e31 c26 ?_
      refine cw_skip ?_
      refine cw_seq ?_
      obtain ⟨g27, h⟩ := gs h
      obtain ⟨g28, h⟩ := gs h
      obtain ⟨g30, h⟩ := gs h
      refine cw_drawL 13 [fun vz wz => vz = (V0_0 : Value), fun vz wz => vz = (.pointer (some ⟨(sb V0_0), so V0_0 + Int.toNat 4 * 1, none⟩) : Value), fun vz wz => vz = (.int .u8 (ix a0 4) : Value), fun vz wz => vz = (.int .i64 (IntKind.i64.wrap (ix a0 4)) : Value), fun vz wz => vz = (V0_0 : Value), fun vz wz => vz = (.pointer (some ⟨(sb V0_0), so V0_0 + Int.toNat 5 * 1, none⟩) : Value), fun vz wz => vz = (.int .u8 (ix a0 5) : Value), fun vz wz => vz = (.int .i64 (IntKind.i64.wrap (ix a0 5)) : Value), fun vz wz => vz = (V0_0 : Value), fun vz wz => ∃ u31 : Value, ∃ r29 : Rd (kI .u8) wz u31 (cut a0 8 (List.length a0 : Int)), vz = (u31 : Value), fun vz wz => vz = (sv (List.map toB (cut a0 8 (List.length a0 : Int))) : Value), fun vz wz => vz = (.int .i64 (IntKind.i64.wrap (ix a0 4)) : Value), fun vz wz => vz = (.int .i64 (IntKind.i64.wrap (ix a0 5)) : Value)] mo rfl ⟨fun _ _ _ h _ => h, fun _ _ _ h _ => h, fun _ _ _ h _ => h, fun _ _ _ h _ => h, fun _ _ _ h _ => h, fun _ _ _ h _ => h, fun _ _ _ h _ => h, fun _ _ _ h _ => h, fun _ _ _ h _ => h, fun _ _ _ ⟨u31, r29, h⟩ q => ⟨u31, r29.gr q, h⟩, fun _ _ _ h _ => h, fun _ _ _ h _ => h, fun _ _ _ h _ => h, trivial⟩ ?_ ?_
      · refine ⟨?_, ?_, ?_, ?_, ?_, ?_, ?_, ?_, ?_, ?_, ?_, ?_, ?_, trivial⟩
        · intro ρz wz hz hk hd
          exact sk_val (v := V0_0) (by exact xr_move rfl ((hk 0 rfl).trans e0)) rfl rfl
        · intro ρz wz hz hk hd
          have d32 := hd 0 rfl 32 rfl
          exact sk_val (by exact xr_indexR (K := (kI .u8)) (v := V0_0) rfl Try.underlying22 sz5 d32 (R0_0.gr (fB.gr hz)) rfl (by decide) g27) rfl rfl
        · intro ρz wz hz hk hd
          have d33 := hd 1 rfl 33 rfl
          exact sk_val (v := .int .u8 (ix a0 4)) (by exact xr_load1 (v := .int .u8 (ix a0 4)) rfl ag5 d33 ((R0_0.gr (fB.gr hz)).elem (by decide) g27)) rfl rfl
        · intro ρz wz hz hk hd
          have d34 := hd 2 rfl 34 rfl
          exact sk_val (v := .int .i64 (IntKind.i64.wrap (ix a0 4))) (by exact xr_conv rfl Try.underlying5 Try.underlying3 d34) rfl rfl
        · intro ρz wz hz hk hd
          exact sk_val (v := V0_0) (by exact xr_move rfl ((hk 0 rfl).trans e0)) rfl rfl
        · intro ρz wz hz hk hd
          have d36 := hd 4 rfl 36 rfl
          exact sk_val (by exact xr_indexR (K := (kI .u8)) (v := V0_0) rfl Try.underlying22 sz5 d36 (R0_0.gr (fB.gr hz)) rfl (by decide) g28) rfl rfl
        · intro ρz wz hz hk hd
          have d37 := hd 5 rfl 37 rfl
          exact sk_val (v := .int .u8 (ix a0 5)) (by exact xr_load1 (v := .int .u8 (ix a0 5)) rfl ag5 d37 ((R0_0.gr (fB.gr hz)).elem (by decide) g28)) rfl rfl
        · intro ρz wz hz hk hd
          have d38 := hd 6 rfl 38 rfl
          exact sk_val (v := .int .i64 (IntKind.i64.wrap (ix a0 5))) (by exact xr_conv rfl Try.underlying5 Try.underlying3 d38) rfl rfl
        · intro ρz wz hz hk hd
          exact sk_val (v := V0_0) (by exact xr_move rfl ((hk 0 rfl).trans e0)) rfl rfl
        · intro ρz wz hz hk hd
          have d40 := hd 8 rfl 40 rfl
          exact sk_val (by exact xr_slice_l (K := (kI .u8)) (v := V0_0) rfl Try.underlying22 sz5 d40 (R0_0.gr (fB.gr hz)) rfl (by decide) g30) rfl ⟨_, (R0_0.gr (fB.gr hz)).cut (lo := 8) (hi := (List.length a0 : Int)) (by decide) g30 (Int.le_refl _), rfl⟩
        · intro ρz wz hz hk hd
          obtain ⟨u31, r29, d41⟩ := hd 9 rfl 41 rfl
          exact sk_val (v := sv (List.map toB (cut a0 8 (List.length a0 : Int)))) (by exact xr_toStr rfl Try.underlying22 Try.underlying5 Try.underlying9 d41 r29) rfl rfl
        · intro ρz wz hz hk hd
          have d35 := hd 3 rfl 35 rfl
          exact sk_val (v := .int .i64 (IntKind.i64.wrap (ix a0 4))) (by exact xr_assign rfl d35) rfl rfl
        · intro ρz wz hz hk hd
          have d39 := hd 7 rfl 39 rfl
          exact sk_val (v := .int .i64 (IntKind.i64.wrap (ix a0 5))) (by exact xr_assign rfl d39) rfl rfl
      · intro ρ32 w33 q34 hk hd
        have e2 := hd 11 rfl 2 rfl
        have e3 := hd 12 rfl 3 rfl
        have e42 := hd 10 rfl 42 rfl
        have fB := fB.gr q34
        refine ol_val (v := sv (List.map toB (cut a0 8 (List.length a0 : Int)))) (by exact xr_assign rfl e42) rfl rfl rfl ?_
        refine ol_val (v := .bool true) (by exact xr_assign rfl rfl) rfl rfl rfl ?_
        refine ol_nil ?_
        refine cw_ret ?_
        repeat (first | with_reducible refine thn_r ?_ | with_reducible refine blk_r ?_)
        obtain rfl := Option.some.inj h
        refine fin_ret4 Try.results32 e2 e3 rfl rfl ?_
        exact ⟨_, rfl, rfl, fB⟩
end Go.Proofs.Ytjhajfkfhdnciaa

/- rickyard/rickyardref10.Put: its model, and that the Go function computes it: written by gen.py. -/
set_option linter.unusedVariables false
namespace Go.Proofs.Ytjhajfkfhdnciaa
open Go Go.Xw
def rickyardref10_Put.f (fu : Nat) (a0 : S_api_Chart) : Option (List UInt8) := ((rickyardref07_Seal.f fu 4 a0.Place (List.map toB (Arr.l a0.Bits)) : Option (List UInt8)).bind fun t12 => some (t12))
set_option maxRecDepth 100000 in
set_option maxHeartbeats 400000 in
theorem rickyardref10_Put.ok (fu : Nat) (w : World) (a0 : S_api_Chart) (r : (List UInt8)) (h : rickyardref10_Put.f fu a0 = some r) :
    Calls Try.prog 72 (([aggV [Seg.cell (.int .i64 a0.Place), Kd.seg (kA 48 (kI .u8)) a0.Bits]] : List Value).toArray) w (fun e w' => ∃ v, e = .returned v ∧ v = sv r ∧ Gr w w') := by
  unfold rickyardref10_Put.f at h
  have fB : Gr w w := Fr.refl _ _
  refine calls_cw Try.func72 rfl Try.ntmps72 rfl ?_
  refine cw_seq ?_
  refine cw_region ?_
  refine ol_op (by exact opv_box (ss := [Seg.cell (.int .i64 a0.Place), Kd.seg (kA 48 (kI .u8)) a0.Bits]) rfl rfl rfl) rfl rfl rfl ?_
  rintro _ w6 ⟨G1, rfl, b2, q3, z4⟩
  have z4 := Nat.le_trans fB.size z4
  have fB := fB.gr q3
  refine ol_val (v := sv []) (by exact xr_assign rfl rfl) rfl rfl rfl ?_
  refine ol_nil ?_
  refine cw_seq ?_
  refine cw_drawL 5 [fun vz wz => vz = (.pointer (some ⟨G1, 0, none⟩) : Value), fun vz wz => vz = (.int .i64 a0.Place : Value), fun vz wz => vz = (.pointer (some ⟨G1, 1, none⟩) : Value), fun vz wz => ∃ u8 : Value, ∃ r7 : Rd (kI .u8) wz u8 (Arr.l a0.Bits), vz = (u8 : Value), fun vz wz => vz = (sv (List.map toB (Arr.l a0.Bits)) : Value)] mo rfl ⟨fun _ _ _ h _ => h, fun _ _ _ h _ => h, fun _ _ _ h _ => h, fun _ _ _ ⟨u8, r7, h⟩ q => ⟨u8, r7.gr q, h⟩, fun _ _ _ h _ => h, trivial⟩ ?_ ?_
  · refine ⟨?_, ?_, ?_, ?_, ?_, trivial⟩
    · intro ρz wz hz hk hd
      exact sk_val (v := .pointer (some ⟨G1, 0, none⟩)) (by exact xr_fieldAddr (p := 0) (q := 0) rfl fl81_0 ((hk 1 rfl).trans rfl)) rfl rfl
    · intro ρz wz hz hk hd
      have d3 := hd 0 rfl 3 rfl
      exact sk_val (v := .int .i64 a0.Place) (by exact xr_load1 (v := .int .i64 a0.Place) rfl ag3 d3 ((b2.gr hz).seg 0 rfl rfl)) rfl rfl
    · intro ρz wz hz hk hd
      exact sk_val (v := .pointer (some ⟨G1, 1, none⟩)) (by exact xr_fieldAddr (p := 0) (q := 1) rfl fl81_1 ((hk 1 rfl).trans rfl)) rfl rfl
    · intro ρz wz hz hk hd
      have d5 := hd 2 rfl 5 rfl
      exact sk_val (by exact xr_sliceArr rfl Try.underlying79 sz5 d5) rfl ⟨_, Rd.arr ((b2.gr hz).seg 1 rfl rfl), rfl⟩
    · intro ρz wz hz hk hd
      obtain ⟨u8, r7, d6⟩ := hd 3 rfl 6 rfl
      exact sk_val (v := sv (List.map toB (Arr.l a0.Bits))) (by exact xr_toStr rfl Try.underlying22 Try.underlying5 Try.underlying9 d6 r7) rfl rfl
  · intro ρ9 w10 q11 hk hd
    have e4 := hd 1 rfl 4 rfl
    have e7 := hd 4 rfl 7 rfl
    have fB := fB.gr q11
    obtain ⟨t12, k13, h⟩ := bs h
    refine ol_op (by exact opv_call rfl cal30 (ac rfl (ac e4 (ac e7 an))) (rickyardref07_Seal.ok fu _ 4 a0.Place (List.map toB (Arr.l a0.Bits)) _ k13)) rfl rfl rfl ?_
    rintro _ w15 ⟨rfl, q14⟩
    have fB := fB.gr q14
    refine ol_val (v := sv t12) (by exact xr_assign rfl rfl) rfl rfl rfl ?_
    refine ol_nil ?_
    refine cw_ret ?_
    repeat (first | with_reducible refine thn_r ?_ | with_reducible refine blk_r ?_)
    obtain rfl := Option.some.inj h
    refine fin_ret1 Try.results72 rfl ?_
    exact ⟨_, rfl, rfl, fB⟩
end Go.Proofs.Ytjhajfkfhdnciaa

/- rickyard/rickyardref10.Get: its model, and that the Go function computes it: written by gen.py. -/
set_option linter.unusedVariables false
namespace Go.Proofs.Ytjhajfkfhdnciaa
open Go Go.Xw
def rickyardref10_Get.s0 (fu : Nat) (t7 : Int × Int × (List UInt8) × Bool) : (Int × S_api_Chart) → Option (Sum S_api_Chart (Int × S_api_Chart)) := fun s26 => (if (decide (s26.1 < 48)) = true then (if 0 ≤ s26.1 ∧ s26.1 < (List.length t7.2.2.1 : Int) then (if 0 ≤ s26.1 ∧ s26.1 < 48 then some (Sum.inr ((IntKind.i64.wrap (s26.1 + 1)), (⟨s26.2.Place, (Arr.set s26.2.Bits s26.1 (ofB (List.getD t7.2.2.1 (Int.toNat s26.1) 0)))⟩ : S_api_Chart))) else none) else none) else some (Sum.inl (s26.2)))
def rickyardref10_Get.f (fu : Nat) (a0 : List Int) : Option (S_api_Chart × Bool) := ((rickyardref07_Open.f fu a0 : Option (Int × Int × (List UInt8) × Bool)).bind fun t7 => (if (if (!t7.2.2.2) = true then true else (if (!decide (t7.1 = 4)) = true then true else (decide (t7.2.1 > 7)))) = true then some ((⟨(0 : Int), (Arr.rep 48 (0 : Int))⟩ : S_api_Chart), false) else ((loopM (rickyardref10_Get.s0 fu t7) fu (0, (⟨t7.2.1, (Arr.rep 48 (0 : Int))⟩ : S_api_Chart))).bind fun e27 => ((rickyardref10_Put.f fu e27 : Option (List UInt8)).bind fun t40 => (if (!decide (t40 = (List.map toB a0))) = true then some ((⟨(0 : Int), (Arr.rep 48 (0 : Int))⟩ : S_api_Chart), false) else some (e27, true))))))
set_option maxRecDepth 100000 in
set_option maxHeartbeats 400000 in
theorem rickyardref10_Get.ok (fu : Nat) (w : World) (a0 : List Int) (V0_0 : Value) (R0_0 : Rd (kI .u8) w V0_0 a0) (r : S_api_Chart × Bool) (h : rickyardref10_Get.f fu a0 = some r) :
    Calls Try.prog 70 (([V0_0] : List Value).toArray) w (fun e w' => ∃ v, e = .returned v ∧ v = .tuple #[aggV [Seg.cell (.int .i64 r.1.Place), Kd.seg (kA 48 (kI .u8)) r.1.Bits], .bool r.2] ∧ Gr w w') := by
  unfold rickyardref10_Get.f at h
  have fB : Gr w w := Fr.refl _ _
  refine calls_cw Try.func70 rfl Try.ntmps70 rfl ?_
  refine cw_seq ?_
  refine cw_region ?_
  refine ol_op (by exact opv_alloc (ss := [Seg.cell (.int .i64 (0 : Int)), Kd.seg (kA 48 (kI .u8)) (Arr.rep 48 (0 : Int))]) rfl ze81 rfl) rfl rfl rfl ?_
  rintro _ w6 ⟨G1, rfl, b2, q3, z4⟩
  have z4 := Nat.le_trans fB.size z4
  have fB := fB.gr q3
  refine ol_val (v := .bool false) (by exact xr_assign rfl rfl) rfl rfl rfl ?_
  refine ol_nil ?_
  refine cw_seq ?_
  refine cw_region ?_
  refine ol_val (v := V0_0) (by exact xr_move rfl rfl) rfl rfl rfl ?_
  obtain ⟨t7, k8, h⟩ := bs h
  refine ol_op (by exact opv_call rfl cal32 (ac rfl an) (rickyardref07_Open.ok fu _ a0 V0_0 (R0_0.gr fB) _ k8)) rfl rfl rfl ?_
  rintro _ w10 ⟨rfl, q9⟩
  have b2 := b2.gr q9
  have fB := fB.gr q9
  refine ol_val (v := .tuple #[.int .i64 t7.1, .int .i64 t7.2.1, sv t7.2.2.1, .bool t7.2.2.2]) (by exact xr_move rfl rfl) rfl rfl rfl ?_
  refine ol_val (v := .int .i64 t7.1) (by exact xr_extract rfl rfl rfl) rfl rfl rfl ?_
  refine ol_val (v := .int .i64 t7.2.1) (by exact xr_extract rfl rfl rfl) rfl rfl rfl ?_
  refine ol_val (v := sv t7.2.2.1) (by exact xr_extract rfl rfl rfl) rfl rfl rfl ?_
  refine ol_val (v := .bool t7.2.2.2) (by exact xr_extract rfl rfl rfl) rfl rfl rfl ?_
  refine ol_val (v := .int .i64 t7.1) (by exact xr_assign rfl rfl) rfl rfl rfl ?_
  refine ol_val (v := .int .i64 t7.2.1) (by exact xr_assign rfl rfl) rfl rfl rfl ?_
  refine ol_val (v := sv t7.2.2.1) (by exact xr_assign rfl rfl) rfl rfl rfl ?_
  refine ol_val (v := .bool t7.2.2.2) (by exact xr_assign rfl rfl) rfl rfl rfl ?_
  refine ol_nil ?_
  refine cw_seq ?_
  refine cw_seq ?_
  refine cw_mid (fun ρ' w' => ρ' 0 = V0_0 ∧ ρ' 2 = .pointer (some ⟨G1, 0, none⟩) ∧ ρ' 5 = .int .i64 t7.2.1 ∧ ρ' 6 = sv t7.2.2.1 ∧ ρ' 26 = .bool (if (!t7.2.2.2) = true then true else (if (!decide (t7.1 = 4)) = true then true else (decide (t7.2.1 > 7)))) ∧ w10 = w') ?_ ?_
  · skip
    refine cw_region ?_
    refine ol_val (v := .bool t7.2.2.2) (by exact xr_move rfl rfl) rfl rfl rfl ?_
    refine ol_val (v := .bool (!t7.2.2.2)) (by exact xr_not rfl rfl) rfl rfl rfl ?_
    refine ol_val (v := .bool (!t7.2.2.2)) (by exact xr_move rfl rfl) rfl rfl rfl ?_
    rcases bt (!t7.2.2.2) with c11 | c11
    · skip
      refine ol_gskip rfl rfl rfl rfl rfl c11 ?_
      refine ol_gskip rfl rfl rfl rfl rfl c11 ?_
      refine ol_val (v := .bool true) (by exact xr_pickT rfl rfl c11 rfl) rfl rfl rfl ?_
      refine ol_val (v := .bool true) (by exact xr_move rfl rfl) rfl rfl rfl ?_
      refine ol_gskip rfl rfl rfl rfl rfl rfl ?_
      refine ol_gskip rfl rfl rfl rfl rfl rfl ?_
      refine ol_val (v := .bool true) (by exact xr_pickT rfl rfl rfl rfl) rfl rfl rfl ?_
      refine ol_nil ?_
      refine thn_i ?_
      exact ⟨rfl, rfl, rfl, rfl, (rfl).trans (congrArg (fun z => (.bool z : Value)) (show true = (if (!t7.2.2.2) = true then true else (if (!decide (t7.1 = 4)) = true then true else (decide (t7.2.1 > 7)))) from by rw [ite_t c11])), rfl⟩
    · skip
      refine ol_gval (v := .int .i64 t7.1) (by exact xr_move rfl rfl) rfl rfl rfl rfl rfl c11 ?_
      refine ol_gval (v := .bool (!decide (t7.1 = 4))) (by exact xr_neI rfl Try.underlying3 rfl rfl rfl) rfl rfl rfl rfl rfl c11 ?_
      refine ol_val (v := .bool (!decide (t7.1 = 4))) (by exact xr_pickF rfl rfl c11 rfl) rfl rfl rfl ?_
      refine ol_val (v := .bool (!decide (t7.1 = 4))) (by exact xr_move rfl rfl) rfl rfl rfl ?_
      rcases bt (!decide (t7.1 = 4)) with c12 | c12
      · skip
        refine ol_gskip rfl rfl rfl rfl rfl c12 ?_
        refine ol_gskip rfl rfl rfl rfl rfl c12 ?_
        refine ol_val (v := .bool true) (by exact xr_pickT rfl rfl c12 rfl) rfl rfl rfl ?_
        refine ol_nil ?_
        refine thn_i ?_
        exact ⟨rfl, rfl, rfl, rfl, (rfl).trans (congrArg (fun z => (.bool z : Value)) (show true = (if (!t7.2.2.2) = true then true else (if (!decide (t7.1 = 4)) = true then true else (decide (t7.2.1 > 7)))) from by rw [ite_f c11, ite_t c12])), rfl⟩
      · skip
        refine ol_gval (v := .int .i64 t7.2.1) (by exact xr_move rfl rfl) rfl rfl rfl rfl rfl c12 ?_
        refine ol_gval (v := .bool (decide (t7.2.1 > 7))) (by exact xr_gtr rfl rfl rfl) rfl rfl rfl rfl rfl c12 ?_
        refine ol_val (v := .bool (decide (t7.2.1 > 7))) (by exact xr_pickF rfl rfl c12 rfl) rfl rfl rfl ?_
        refine ol_nil ?_
        refine thn_i ?_
        exact ⟨rfl, rfl, rfl, rfl, (rfl).trans (congrArg (fun z => (.bool z : Value)) (show (decide (t7.2.1 > 7)) = (if (!t7.2.2.2) = true then true else (if (!decide (t7.1 = 4)) = true then true else (decide (t7.2.1 > 7)))) from by rw [ite_f c11, ite_f c12])), rfl⟩
  · skip
    rintro ρ13 _ ⟨e0, e2, e5, e6, e26, rfl⟩
    rcases is h with ⟨c14, h⟩ | ⟨c14, h⟩
    · refine cw_condT e26 c14 ?_
      refine cw_seq ?_
      refine cw_region ?_
      refine ol_val (v := aggV [Seg.cell (.int .i64 (0 : Int)), Kd.seg (kA 48 (kI .u8)) (Arr.rep 48 (0 : Int))]) (by exact xr_build (vals := []) rfl trivial (bl81_ _)) rfl rfl rfl ?_
      refine ol_op0 (by exact opv_store (ss' := [Seg.cell (.int .i64 (0 : Int)), Kd.seg (kA 48 (kI .u8)) (Arr.rep 48 (0 : Int))]) (xs := cellsOf [Seg.cell (.int .i64 (0 : Int)), Kd.seg (kA 48 (kI .u8)) (Arr.rep 48 (0 : Int))]) rfl sz81 e2 rfl rfl (len_cellsOf _) (one_cellsOf _) b2 (Spl.segs _ 0 2 [Seg.cell (.int .i64 (0 : Int)), Kd.seg (kA 48 (kI .u8)) (Arr.rep 48 (0 : Int))] rfl rfl)) rfl rfl ?_
      rintro _ w16 ⟨b2, q15⟩
      have fB := fB.wr q15 z4
      refine ol_val (v := .bool false) (by exact xr_assign rfl rfl) rfl rfl rfl ?_
      refine ol_nil ?_
      refine cw_ret ?_
      repeat (first | with_reducible refine thn_r ?_ | with_reducible refine blk_r ?_)
      obtain rfl := Option.some.inj h
      refine fin_cell_tmp Try.results70 e2 ag81 sz81 b2 (by rfl) rfl ?_
      exact ⟨_, rfl, rfl, fB⟩
    · refine cw_condF e26 c14 ?_
      refine cw_skip ?_
      refine cw_seq ?_
      refine cw_region ?_
      refine ol_val (v := .int .i64 t7.2.1) (by exact xr_move rfl e5) rfl rfl rfl ?_
      refine ol_val (v := aggV [Seg.cell (.int .i64 t7.2.1), Kd.seg (kA 48 (kI .u8)) (Arr.rep 48 (0 : Int))]) (by exact xr_build (vals := [(0, .int .i64 t7.2.1)]) rfl ⟨rfl, rfl, trivial⟩ (bl81_0 t7.2.1 _)) rfl rfl rfl ?_
      refine ol_op (by exact opv_alloc (ss := [Seg.cell (.int .i64 (0 : Int)), Kd.seg (kA 48 (kI .u8)) (Arr.rep 48 (0 : Int))]) rfl ze81 rfl) rfl rfl rfl ?_
      rintro _ w22 ⟨G17, rfl, b18, q19, z20⟩
      have n23 := Blk.ne b2 z20
      have z20 := Nat.le_trans fB.size z20
      have b2 := b2.gr q19
      have fB := fB.gr q19
      refine ol_op0 (by exact opv_store (ss' := [Seg.cell (.int .i64 t7.2.1), Kd.seg (kA 48 (kI .u8)) (Arr.rep 48 (0 : Int))]) (xs := cellsOf [Seg.cell (.int .i64 t7.2.1), Kd.seg (kA 48 (kI .u8)) (Arr.rep 48 (0 : Int))]) rfl sz81 rfl rfl rfl (len_cellsOf _) (one_cellsOf _) b18 (Spl.segs _ 0 2 [Seg.cell (.int .i64 t7.2.1), Kd.seg (kA 48 (kI .u8)) (Arr.rep 48 (0 : Int))] rfl rfl)) rfl rfl ?_
      rintro _ w25 ⟨b18, q24⟩
      have b2 := b2.wr q24 n23
      have fB := fB.wr q24 z20
      refine ol_nil ?_
      refine cw_seq ?_
      refine cw_seq ?_
      refine cw_region ?_
      refine ol_val (v := .int .i64 0) (by exact xr_assign rfl rfl) rfl rfl rfl ?_
      refine ol_nil ?_
      obtain ⟨e27, l28, h29⟩ := bs h
      refine cw_mid (fun ρ' w' => ρ' 0 = V0_0 ∧ ρ' 2 = .pointer (some ⟨G1, 0, none⟩) ∧ ρ' 8 = .pointer (some ⟨G17, 0, none⟩) ∧ Blk w' G1 81 [Seg.cell (.int .i64 (0 : Int)), Kd.seg (kA 48 (kI .u8)) (Arr.rep 48 (0 : Int))] ∧ Blk w' G17 81 [Seg.cell (.int .i64 e27.Place), Kd.seg (kA 48 (kI .u8)) e27.Bits] ∧ Gr w w') ?_ ?_
      · refine cw_block ?_
        refine cw_round (fun (s26 : Int × S_api_Chart) ρ' w' => ρ' 0 = V0_0 ∧ ρ' 2 = .pointer (some ⟨G1, 0, none⟩) ∧ ρ' 6 = sv t7.2.2.1 ∧ ρ' 8 = .pointer (some ⟨G17, 0, none⟩) ∧ ρ' 9 = .int .i64 s26.1 ∧ Blk w' G1 81 [Seg.cell (.int .i64 (0 : Int)), Kd.seg (kA 48 (kI .u8)) (Arr.rep 48 (0 : Int))] ∧ Blk w' G17 81 [Seg.cell (.int .i64 s26.2.Place), Kd.seg (kA 48 (kI .u8)) s26.2.Bits] ∧ Gr w w') l28 ?_ ?_
        · skip
          exact ⟨e0, e2, e6, rfl, rfl, b2, b18, fB⟩
        · rintro s26 x32 ρ30 w31 ⟨e0, e2, e6, e8, e9, b2, b18, fB⟩ h
          unfold rickyardref10_Get.s0 at h
          refine cw_seq ?_
          refine cw_seq ?_
          refine cw_region ?_
          refine ol_val (v := .int .i64 s26.1) (by exact xr_move rfl e9) rfl rfl rfl ?_
          refine ol_val (v := .bool (decide (s26.1 < 48))) (by exact xr_lss rfl rfl rfl) rfl rfl rfl ?_
          refine ol_nil ?_
          rcases is h with ⟨c33, h⟩ | ⟨c33, h⟩
          · refine cw_condT rfl c33 ?_
            refine cw_skip ?_
            refine cw_seq ?_
            refine cw_block ?_
            refine cw_region ?_
            refine ol_val (v := .int .i64 s26.1) (by exact xr_move rfl e9) rfl rfl rfl ?_
            refine ol_val (v := sv t7.2.2.1) (by exact xr_move rfl e6) rfl rfl rfl ?_
            refine ol_val (v := .int .i64 s26.1) (by exact xr_move rfl e9) rfl rfl rfl ?_
            obtain ⟨g34, h⟩ := gs h
            refine ol_val (v := .int .u8 (ofB (List.getD t7.2.2.1 (Int.toNat s26.1) 0))) (by exact xr_indexStr rfl Try.underlying9 rfl rfl g34.1 g34.2) rfl rfl rfl ?_
            refine ol_val (v := .pointer (some ⟨G17, 1, none⟩)) (by exact xr_fieldAddr (p := 0) (q := 1) rfl fl81_1 e8) rfl rfl rfl ?_
            obtain ⟨g35, h⟩ := gs h
            refine ol_val (v := .pointer (some ⟨G17, 1 + Int.toNat s26.1 * 1, none⟩)) (by exact xr_indexA (p := 1) (s := 1) rfl Try.underlying79 sz5 rfl rfl g35.1 g35.2) rfl rfl rfl ?_
            refine ol_op0 (by exact opv_store (ss' := [Seg.cell (.int .i64 s26.2.Place), Kd.seg (kA 48 (kI .u8)) (Arr.set s26.2.Bits s26.1 (ofB (List.getD t7.2.2.1 (Int.toNat s26.1) 0)))]) (xs := cellsOf [Seg.cell (.int .u8 (ofB (List.getD t7.2.2.1 (Int.toNat s26.1) 0)))]) rfl sz5 rfl rfl rfl (len_cellsOf _) (one_cellsOf _) b18 (Spl.seg_in _ 1 (Kd.seg (kA 48 (kI .u8)) (Arr.set s26.2.Bits s26.1 (ofB (List.getD t7.2.2.1 (Int.toNat s26.1) 0)))) rfl rfl (Spl.arr s26.2.Bits s26.1 (ofB (List.getD t7.2.2.1 (Int.toNat s26.1) 0)) g35.1 g35.2 (Spl.whole ((Kd.len _ _).trans (Kd.len _ _).symm))))) rfl rfl ?_
            rintro _ w37 ⟨b18, q36⟩
            have b2 := b2.wr q36 n23
            have fB := fB.wr q36 z20
            refine ol_nil ?_
            refine blk_i ?_
            refine cw_region ?_
            refine ol_val (v := .int .i64 s26.1) (by exact xr_move rfl e9) rfl rfl rfl ?_
            refine ol_val (v := .int .i64 (IntKind.i64.wrap (s26.1 + 1))) (by exact xr_add rfl rfl rfl) rfl rfl rfl ?_
            refine ol_val (v := .int .i64 (IntKind.i64.wrap (s26.1 + 1))) (by exact xr_assign rfl rfl) rfl rfl rfl ?_
            refine ol_nil ?_
            obtain rfl := Option.some.inj h
            refine lp_in ?_
            exact ⟨e0, e2, e6, e8, rfl, b2, b18, fB⟩
          · refine cw_condF rfl c33 ?_
            refine cw_exit ?_
            repeat (first | with_reducible refine thn_e ?_ | with_reducible refine blk_e rfl ?_)
            obtain rfl := Option.some.inj h
            refine lp_exit ?_
            rintro rfl
            refine thn_x ?_
            exact ⟨e0, e2, e8, b2, b18, fB⟩
      · rintro ρ38 w39 ⟨e0, e2, e8, b2, b18, fB⟩
        have h := h29
        refine cw_seq ?_
        refine cw_seq ?_
        obtain ⟨t40, k41, h⟩ := bs h
        refine cw_drawL 4 [fun vz wz => vz = (aggV [Seg.cell (.int .i64 e27.Place), Kd.seg (kA 48 (kI .u8)) e27.Bits] : Value), fun vz wz => vz = (sv t40 : Value), fun vz wz => vz = (V0_0 : Value), fun vz wz => vz = (sv (List.map toB a0) : Value)] mo rfl ⟨fun _ _ _ h _ => h, fun _ _ _ h _ => h, fun _ _ _ h _ => h, fun _ _ _ h _ => h, trivial⟩ ?_ ?_
        · refine ⟨?_, ?_, ?_, ?_, trivial⟩
          · intro ρz wz hz hk hd
            exact sk_val (by exact xr_loadS (ss := [Seg.cell (.int .i64 e27.Place), Kd.seg (kA 48 (kI .u8)) e27.Bits]) rfl ag81 sz81 rfl ((hk 8 rfl).trans e8) ((b18.gr hz).segs 0 2 rfl)) rfl rfl
          · intro ρz wz hz hk hd
            have d40 := hd 0 rfl 40 rfl
            refine sk_op (by exact opv_call rfl cal72 (ac d40 an) (rickyardref10_Put.ok fu _ e27 _ k41)) rfl ?_
            rintro _ wy ⟨rfl, q42⟩
            exact ⟨rfl, q42⟩
          · intro ρz wz hz hk hd
            exact sk_val (v := V0_0) (by exact xr_move rfl ((hk 0 rfl).trans e0)) rfl rfl
          · intro ρz wz hz hk hd
            have d42 := hd 2 rfl 42 rfl
            exact sk_val (v := sv (List.map toB a0)) (by exact xr_toStr rfl Try.underlying22 Try.underlying5 Try.underlying9 d42 (R0_0.gr (fB.gr hz))) rfl rfl
        · intro ρ43 w44 q45 hk hd
          have e2 := (hk 2 rfl).trans e2
          have e8 := (hk 8 rfl).trans e8
          have e41 := hd 1 rfl 41 rfl
          have e43 := hd 3 rfl 43 rfl
          have b2 := b2.gr q45
          have b18 := b18.gr q45
          have fB := fB.gr q45
          refine ol_val (v := .bool (!decide (t40 = (List.map toB a0)))) (by exact xr_neStr rfl Try.underlying9 e41 e43) rfl rfl rfl ?_
          refine ol_nil ?_
          rcases is h with ⟨c46, h⟩ | ⟨c46, h⟩
          · refine cw_condT rfl c46 ?_
            refine cw_seq ?_
            refine cw_region ?_
            refine ol_val (v := aggV [Seg.cell (.int .i64 (0 : Int)), Kd.seg (kA 48 (kI .u8)) (Arr.rep 48 (0 : Int))]) (by exact xr_build (vals := []) rfl trivial (bl81_ _)) rfl rfl rfl ?_
            refine ol_op0 (by exact opv_store (ss' := [Seg.cell (.int .i64 (0 : Int)), Kd.seg (kA 48 (kI .u8)) (Arr.rep 48 (0 : Int))]) (xs := cellsOf [Seg.cell (.int .i64 (0 : Int)), Kd.seg (kA 48 (kI .u8)) (Arr.rep 48 (0 : Int))]) rfl sz81 e2 rfl rfl (len_cellsOf _) (one_cellsOf _) b2 (Spl.segs _ 0 2 [Seg.cell (.int .i64 (0 : Int)), Kd.seg (kA 48 (kI .u8)) (Arr.rep 48 (0 : Int))] rfl rfl)) rfl rfl ?_
            rintro _ w48 ⟨b2, q47⟩
            have fB := fB.wr q47 z4
            refine ol_val (v := .bool false) (by exact xr_assign rfl rfl) rfl rfl rfl ?_
            refine ol_nil ?_
            refine cw_ret ?_
            repeat (first | with_reducible refine thn_r ?_ | with_reducible refine blk_r ?_)
            obtain rfl := Option.some.inj h
            refine fin_cell_tmp Try.results70 e2 ag81 sz81 b2 (by rfl) rfl ?_
            exact ⟨_, rfl, rfl, fB⟩
          · refine cw_condF rfl c46 ?_
            refine cw_skip ?_
            refine cw_seq ?_
            refine cw_region ?_
            refine ol_val (v := aggV [Seg.cell (.int .i64 e27.Place), Kd.seg (kA 48 (kI .u8)) e27.Bits]) (by exact xr_loadS (ss := [Seg.cell (.int .i64 e27.Place), Kd.seg (kA 48 (kI .u8)) e27.Bits]) rfl ag81 sz81 rfl e8 (b18.segs 0 2 rfl)) rfl rfl rfl ?_
            refine ol_op0 (by exact opv_store (ss' := [Seg.cell (.int .i64 e27.Place), Kd.seg (kA 48 (kI .u8)) e27.Bits]) (xs := cellsOf [Seg.cell (.int .i64 e27.Place), Kd.seg (kA 48 (kI .u8)) e27.Bits]) rfl sz81 e2 rfl rfl (len_cellsOf _) (one_cellsOf _) b2 (Spl.segs _ 0 2 [Seg.cell (.int .i64 e27.Place), Kd.seg (kA 48 (kI .u8)) e27.Bits] rfl rfl)) rfl rfl ?_
            rintro _ w50 ⟨b2, q49⟩
            have fB := fB.wr q49 z4
            refine ol_val (v := .bool true) (by exact xr_assign rfl rfl) rfl rfl rfl ?_
            refine ol_nil ?_
            refine cw_ret ?_
            repeat (first | with_reducible refine thn_r ?_ | with_reducible refine blk_r ?_)
            obtain rfl := Option.some.inj h
            refine fin_cell_tmp Try.results70 e2 ag81 sz81 b2 (by rfl) rfl ?_
            exact ⟨_, rfl, rfl, fB⟩
end Go.Proofs.Ytjhajfkfhdnciaa

/- rickyard/rickyardlaw10.ChartGets: its model, and that the Go function computes it: written by gen.py. -/
set_option linter.unusedVariables false
namespace Go.Proofs.Ytjhajfkfhdnciaa
open Go Go.Xw
def rickyardlaw10_ChartGets.f (fu : Nat) (a0 : List Int) : Option Bool := ((((rickyardlaw10_awake.f fu : Option Bool).bind fun t3 => (if (!t3) = true then some (true) else some ((decide ((List.length a0 : Int) > 200))))) : Option Bool).bind fun x1 => (if x1 = true then ((rickyardlaw10_awake.f fu : Option Bool).bind fun t12 => some (t12)) else ((chart_Get.f fu a0 : Option (S_api_Chart × Bool)).bind fun t16 => ((rickyardref10_Get.f fu a0 : Option (S_api_Chart × Bool)).bind fun t28 => some ((if (decide (t16.2 = t28.2)) = true then (decide (t16.1 = t28.1)) else false))))))
set_option maxRecDepth 100000 in
set_option maxHeartbeats 400000 in
theorem rickyardlaw10_ChartGets.ok (fu : Nat) (w : World) (a0 : List Int) (V0_0 : Value) (R0_0 : Rd (kI .u8) w V0_0 a0) (r : Bool) (h : rickyardlaw10_ChartGets.f fu a0 = some r) :
    Calls Try.prog 17 (([V0_0] : List Value).toArray) w (fun e w' => ∃ v, e = .returned v ∧ v = .bool r ∧ Gr w w') := by
  unfold rickyardlaw10_ChartGets.f at h
  have fB : Gr w w := Fr.refl _ _
  refine calls_cw Try.func17 rfl Try.ntmps17 rfl ?_
  refine cw_seq ?_
  refine cw_region ?_
  refine ol_val (v := .bool false) (by exact xr_assign rfl rfl) rfl rfl rfl ?_
  refine ol_nil ?_
  refine cw_seq ?_
  refine cw_seq ?_
  obtain ⟨x1, j2, h⟩ := bs h
  refine cw_mid (fun ρ' w' => ρ' 0 = V0_0 ∧ ρ' 13 = .bool x1 ∧ Gr w w') ?_ ?_
  · skip
    refine cw_region ?_
    obtain ⟨t3, k4, j2⟩ := bs j2
    refine ol_op (by exact opv_call rfl cal59 an (rickyardlaw10_awake.ok fu _ _ k4)) rfl rfl rfl ?_
    rintro _ w6 ⟨rfl, q5⟩
    have fB := fB.gr q5
    refine ol_val (v := .bool (!t3)) (by exact xr_not rfl rfl) rfl rfl rfl ?_
    refine ol_val (v := .bool (!t3)) (by exact xr_move rfl rfl) rfl rfl rfl ?_
    rcases is j2 with ⟨c7, j2⟩ | ⟨c7, j2⟩
    · skip
      refine ol_gskip rfl rfl rfl rfl rfl c7 ?_
      refine ol_gskip rfl rfl rfl rfl rfl c7 ?_
      refine ol_gskip rfl rfl rfl rfl rfl c7 ?_
      refine ol_val (v := .bool true) (by exact xr_pickT rfl rfl c7 rfl) rfl rfl rfl ?_
      refine ol_nil ?_
      obtain rfl := Option.some.inj j2
      refine thn_i ?_
      exact ⟨rfl, rfl, q5⟩
    · skip
      refine ol_gval (v := V0_0) (by exact xr_move rfl rfl) rfl rfl rfl rfl rfl c7 ?_
      refine ol_gval (v := .int .i64 (List.length a0 : Int)) (by exact xr_lenR rfl Try.underlying22 rfl (R0_0.gr fB)) rfl rfl rfl rfl rfl c7 ?_
      refine ol_gval (v := .bool (decide ((List.length a0 : Int) > 200))) (by exact xr_gtr rfl rfl rfl) rfl rfl rfl rfl rfl c7 ?_
      refine ol_val (v := .bool (decide ((List.length a0 : Int) > 200))) (by exact xr_pickF rfl rfl c7 rfl) rfl rfl rfl ?_
      refine ol_nil ?_
      obtain rfl := Option.some.inj j2
      refine thn_i ?_
      exact ⟨rfl, rfl, q5⟩
  · skip
    rintro ρ8 w9 ⟨e0, e13, q10⟩
    have fB := fB.gr q10
    rcases is h with ⟨c11, h⟩ | ⟨c11, h⟩
    · refine cw_condT e13 c11 ?_
      refine cw_seq ?_
      refine cw_region ?_
      obtain ⟨t12, k13, h⟩ := bs h
      refine ol_op (by exact opv_call rfl cal59 an (rickyardlaw10_awake.ok fu _ _ k13)) rfl rfl rfl ?_
      rintro _ w15 ⟨rfl, q14⟩
      have fB := fB.gr q14
      refine ol_val (v := .bool t12) (by exact xr_assign rfl rfl) rfl rfl rfl ?_
      refine ol_nil ?_
      refine cw_ret ?_
      repeat (first | with_reducible refine thn_r ?_ | with_reducible refine blk_r ?_)
      obtain rfl := Option.some.inj h
      refine fin_ret1 Try.results17 rfl ?_
      exact ⟨_, rfl, rfl, fB⟩
    · refine cw_condF e13 c11 ?_
      refine cw_skip ?_
      refine cw_seq ?_
      refine cw_region ?_
      refine ol_val (v := V0_0) (by exact xr_move rfl e0) rfl rfl rfl ?_
      obtain ⟨t16, k17, h⟩ := bs h
      refine ol_op (by exact opv_call rfl cal69 (ac rfl an) (chart_Get.ok fu _ a0 V0_0 (R0_0.gr fB) _ k17)) rfl rfl rfl ?_
      rintro _ w19 ⟨rfl, q18⟩
      have fB := fB.gr q18
      refine ol_val (v := .tuple #[aggV [Seg.cell (.int .i64 t16.1.Place), Kd.seg (kA 48 (kI .u8)) t16.1.Bits], .bool t16.2]) (by exact xr_move rfl rfl) rfl rfl rfl ?_
      refine ol_val (v := aggV [Seg.cell (.int .i64 t16.1.Place), Kd.seg (kA 48 (kI .u8)) t16.1.Bits]) (by exact xr_extract rfl rfl rfl) rfl rfl rfl ?_
      refine ol_val (v := .bool t16.2) (by exact xr_extract rfl rfl rfl) rfl rfl rfl ?_
      refine ol_op (by exact opv_alloc (ss := [Seg.cell (.int .i64 (0 : Int)), Kd.seg (kA 48 (kI .u8)) (Arr.rep 48 (0 : Int))]) rfl ze81 rfl) rfl rfl rfl ?_
      rintro _ w25 ⟨G20, rfl, b21, q22, z23⟩
      have z23 := Nat.le_trans fB.size z23
      have fB := fB.gr q22
      refine ol_op0 (by exact opv_store (ss' := [Seg.cell (.int .i64 t16.1.Place), Kd.seg (kA 48 (kI .u8)) t16.1.Bits]) (xs := cellsOf [Seg.cell (.int .i64 t16.1.Place), Kd.seg (kA 48 (kI .u8)) t16.1.Bits]) rfl sz81 rfl rfl rfl (len_cellsOf _) (one_cellsOf _) b21 (Spl.segs _ 0 2 [Seg.cell (.int .i64 t16.1.Place), Kd.seg (kA 48 (kI .u8)) t16.1.Bits] rfl rfl)) rfl rfl ?_
      rintro _ w27 ⟨b21, q26⟩
      have fB := fB.wr q26 z23
      refine ol_val (v := .bool t16.2) (by exact xr_assign rfl rfl) rfl rfl rfl ?_
      refine ol_nil ?_
      refine cw_seq ?_
      refine cw_region ?_
      refine ol_val (v := V0_0) (by exact xr_move rfl e0) rfl rfl rfl ?_
      obtain ⟨t28, k29, h⟩ := bs h
      refine ol_op (by exact opv_call rfl cal70 (ac rfl an) (rickyardref10_Get.ok fu _ a0 V0_0 (R0_0.gr fB) _ k29)) rfl rfl rfl ?_
      rintro _ w31 ⟨rfl, q30⟩
      have b21 := b21.gr q30
      have fB := fB.gr q30
      refine ol_val (v := .tuple #[aggV [Seg.cell (.int .i64 t28.1.Place), Kd.seg (kA 48 (kI .u8)) t28.1.Bits], .bool t28.2]) (by exact xr_move rfl rfl) rfl rfl rfl ?_
      refine ol_val (v := aggV [Seg.cell (.int .i64 t28.1.Place), Kd.seg (kA 48 (kI .u8)) t28.1.Bits]) (by exact xr_extract rfl rfl rfl) rfl rfl rfl ?_
      refine ol_val (v := .bool t28.2) (by exact xr_extract rfl rfl rfl) rfl rfl rfl ?_
      refine ol_op (by exact opv_alloc (ss := [Seg.cell (.int .i64 (0 : Int)), Kd.seg (kA 48 (kI .u8)) (Arr.rep 48 (0 : Int))]) rfl ze81 rfl) rfl rfl rfl ?_
      rintro _ w37 ⟨G32, rfl, b33, q34, z35⟩
      have n38 := Blk.ne b21 z35
      have z35 := Nat.le_trans fB.size z35
      have b21 := b21.gr q34
      have fB := fB.gr q34
      refine ol_op0 (by exact opv_store (ss' := [Seg.cell (.int .i64 t28.1.Place), Kd.seg (kA 48 (kI .u8)) t28.1.Bits]) (xs := cellsOf [Seg.cell (.int .i64 t28.1.Place), Kd.seg (kA 48 (kI .u8)) t28.1.Bits]) rfl sz81 rfl rfl rfl (len_cellsOf _) (one_cellsOf _) b33 (Spl.segs _ 0 2 [Seg.cell (.int .i64 t28.1.Place), Kd.seg (kA 48 (kI .u8)) t28.1.Bits] rfl rfl)) rfl rfl ?_
      rintro _ w40 ⟨b33, q39⟩
      have b21 := b21.wr q39 n38
      have fB := fB.wr q39 z35
      refine ol_val (v := .bool t28.2) (by exact xr_assign rfl rfl) rfl rfl rfl ?_
      refine ol_nil ?_
      refine cw_seq ?_
      refine cw_mid (fun ρ' w' => ρ' 2 = .bool (if (decide (t16.2 = t28.2)) = true then (decide (t16.1 = t28.1)) else false) ∧ w40 = w') ?_ ?_
      · skip
        refine cw_region ?_
        refine ol_val (v := .bool t16.2) (by exact xr_move rfl rfl) rfl rfl rfl ?_
        refine ol_val (v := .bool t28.2) (by exact xr_move rfl rfl) rfl rfl rfl ?_
        refine ol_val (v := .bool (decide (t16.2 = t28.2))) (by exact xr_eqB rfl Try.underlying4 rfl rfl) rfl rfl rfl ?_
        refine ol_val (v := .bool (decide (t16.2 = t28.2))) (by exact xr_move rfl rfl) rfl rfl rfl ?_
        rcases bt (decide (t16.2 = t28.2)) with c41 | c41
        · skip
          refine ol_gval (v := aggV [Seg.cell (.int .i64 t16.1.Place), Kd.seg (kA 48 (kI .u8)) t16.1.Bits]) (by exact xr_loadS (ss := [Seg.cell (.int .i64 t16.1.Place), Kd.seg (kA 48 (kI .u8)) t16.1.Bits]) rfl ag81 sz81 rfl rfl (b21.segs 0 2 rfl)) rfl rfl rfl rfl rfl c41 ?_
          refine ol_gval (v := aggV [Seg.cell (.int .i64 t28.1.Place), Kd.seg (kA 48 (kI .u8)) t28.1.Bits]) (by exact xr_loadS (ss := [Seg.cell (.int .i64 t28.1.Place), Kd.seg (kA 48 (kI .u8)) t28.1.Bits]) rfl ag81 sz81 rfl rfl (b33.segs 0 2 rfl)) rfl rfl rfl rfl rfl c41 ?_
          refine ol_gval (v := .bool (decide (t16.1 = t28.1))) (by exact xr_eqA (a := t16.1) (b := t28.1) rfl eqa81 rfl Try.eqGuardType80 rfl rfl rfl rfl) rfl rfl rfl rfl rfl c41 ?_
          refine ol_val (v := .bool (decide (t16.1 = t28.1))) (by exact xr_pickT rfl rfl c41 rfl) rfl rfl rfl ?_
          refine ol_val (v := .bool (decide (t16.1 = t28.1))) (by exact xr_assign rfl rfl) rfl rfl rfl ?_
          refine ol_nil ?_
          refine thn_i ?_
          exact ⟨(rfl).trans (congrArg (fun z => (.bool z : Value)) (show (decide (t16.1 = t28.1)) = (if (decide (t16.2 = t28.2)) = true then (decide (t16.1 = t28.1)) else false) from by rw [ite_t c41])), rfl⟩
        · skip
          refine ol_gskip rfl rfl rfl rfl rfl c41 ?_
          refine ol_gskip rfl rfl rfl rfl rfl c41 ?_
          refine ol_gskip rfl rfl rfl rfl rfl c41 ?_
          refine ol_val (v := .bool false) (by exact xr_pickF rfl rfl c41 rfl) rfl rfl rfl ?_
          refine ol_val (v := .bool false) (by exact xr_assign rfl rfl) rfl rfl rfl ?_
          refine ol_nil ?_
          refine thn_i ?_
          exact ⟨(rfl).trans (congrArg (fun z => (.bool z : Value)) (show false = (if (decide (t16.2 = t28.2)) = true then (decide (t16.1 = t28.1)) else false) from by rw [ite_f c41])), rfl⟩
      · skip
        rintro ρ42 _ ⟨e2, rfl⟩
        refine cw_ret ?_
        repeat (first | with_reducible refine thn_r ?_ | with_reducible refine blk_r ?_)
        obtain rfl := Option.some.inj h
        refine fin_ret1 Try.results17 e2 ?_
        exact ⟨_, rfl, rfl, fB⟩
end Go.Proofs.Ytjhajfkfhdnciaa

/- What a row's arguments are: the readings of arguments opened into records, lists and their facts. -/
set_option linter.unusedVariables false
set_option linter.unusedSimpArgs false
namespace Go.Xw
open Go
variable {P : Program} {w : World}
def Opn {α : Type} (P : Program) (w : World) (T : TypeId) (K : Kd α) (ok : α → Prop) : Prop :=
  ∀ {H : Type} (enc : TypeId × Value → H) (base : Nat) (sp : Nat → Bool) (held : Bool) (fuel : Nat) (cs : List Value) (x : DataW H × List MemPlace), DataW.trod enc P w base sp held fuel T cs = some x → ∃ a : α, cs = K.enc a ∧ ok a
theorem opn_int {T : TypeId} {k : IntKind} (ht : P.underlying T = some (.int k)) : Opn P w T (kI k) (fun n => (Lit.int k n).wf = true) := by
  intro H enc base sp held fuel cs x h
  obtain ⟨n, rfl, _, hw⟩ := DataW.trod_int ht h
  exact ⟨n, rfl, hw⟩
theorem opn_bool {T : TypeId} (ht : P.underlying T = some .bool) : Opn P w T kB (fun _ => True) := by
  intro H enc base sp held fuel cs x h
  obtain ⟨b, rfl, _⟩ := DataW.trod_bool ht h
  exact ⟨b, rfl, trivial⟩
theorem opn_str {T : TypeId} (ht : P.underlying T = some .string) : Opn P w T kS (fun l => l.length ≤ maxLen) := by
  intro H enc base sp held fuel cs x h
  obtain ⟨⟨⟨l⟩⟩, rfl, _, hs⟩ := DataW.trod_string ht h
  exact ⟨l, rfl, by simpa [ByteArray.size] using hs⟩
theorem chunks {α : Type} (K : Kd α) (ok : α → Prop) : ∀ (n : Nat) (cs : List Value), cs.length = n * K.size → (∀ i, i < n → ∃ a, (cs.drop (i * K.size)).take K.size = K.enc a ∧ ok a) → ∃ l : List α, l.length = n ∧ cs = l.flatMap K.enc ∧ ∀ a ∈ l, ok a
  | 0, cs, hl, _ => ⟨[], rfl, by simpa using hl, by simp⟩
  | n + 1, cs, hl, h => by
    obtain ⟨a, ha, hok⟩ := h 0 (by omega)
    rw [Nat.zero_mul, List.drop_zero] at ha
    have hl' : cs.length = n * K.size + K.size := by rw [hl, Nat.succ_mul]
    obtain ⟨l, h1, h2, h3⟩ := chunks K ok n (cs.drop K.size) (by rw [List.length_drop]; omega) (fun i hi => by
      have := h (i + 1) (by omega)
      rw [List.drop_drop, Nat.add_comm, ← Nat.succ_mul]
      exact this)
    refine ⟨a :: l, by simp [h1], ?_, ?_⟩
    · rw [List.flatMap_cons, ← h2, ← ha, List.take_append_drop]
    · intro b hb
      rcases List.mem_cons.1 hb with rfl | hb
      · exact hok
      · exact h3 b hb
theorem ms_len {α β : Type} {f : α → Option β} : ∀ {l : List α} {ys : List β}, l.mapM f = some ys → ys.length = l.length
  | [], ys, h => by simp at h; subst h; rfl
  | a :: l, ys, h => by
    rw [List.mapM_cons] at h
    obtain ⟨b, _, h⟩ := Option.bind_eq_some_iff.1 h
    obtain ⟨bs, hb, h⟩ := Option.bind_eq_some_iff.1 h
    simp at h
    subst h
    simp [ms_len hb]
theorem ms_get {α β : Type} {f : α → Option β} : ∀ {l : List α} {ys : List β}, l.mapM f = some ys → ∀ (i : Nat) (a : α), l[i]? = some a → ∃ y, ys[i]? = some y ∧ f a = some y
  | [], ys, h, i, a, ha => by simp at ha
  | b :: l, ys, h, i, a, ha => by
    rw [List.mapM_cons] at h
    obtain ⟨c, hc, h⟩ := Option.bind_eq_some_iff.1 h
    obtain ⟨bs, hb, h⟩ := Option.bind_eq_some_iff.1 h
    simp at h
    subst h
    cases i with
    | zero =>
      simp at ha
      subst ha
      exact ⟨c, rfl, hc⟩
    | succ i =>
      simp at ha
      obtain ⟨y, h1, h2⟩ := ms_get hb i a ha
      exact ⟨y, by simpa using h1, h2⟩
theorem trod_arr {H : Type} {enc : TypeId × Value → H} {base : Nat} {sp : Nat → Bool} {held : Bool} {fuel : Nat} {T e : TypeId} {n : Nat} {cs : List Value} {x : DataW H × List MemPlace} (ht : P.underlying T = some (.array n e)) (h : DataW.trod enc P w base sp held fuel T cs = some x) :
    cs.length = P.cellsOf T ∧ ∃ m, ∀ i, i < n → ∃ y, DataW.trod enc P w base sp held m e ((cs.drop (i * P.cellsOf e)).take (P.cellsOf e)) = some y := by
  cases fuel with
  | zero => simp [DataW.trod] at h
  | succ m =>
    unfold DataW.trod at h
    rw [ht] at h
    simp only at h
    split at h
    · rename_i hl
      refine ⟨hl, m, fun i hi => ?_⟩
      obtain ⟨xs, hx, _⟩ := Option.map_eq_some_iff.1 h
      obtain ⟨y, _, hy⟩ := ms_get hx i i (by simp [hi])
      exact ⟨y, hy⟩
    · cases h
theorem opn_arr {α : Type} {K : Kd α} {ok : α → Prop} {T e : TypeId} {n : Nat} (ht : P.underlying T = some (.array n e)) (hc : P.cellsOf T = n * P.cellsOf e) (he : P.cellsOf e = K.size) (ho : Opn P w e K ok) : Opn P w T (kA n K) (fun a => ∀ x ∈ a.l, ok x) := by
  intro H enc base sp held fuel cs x h
  obtain ⟨hl, m, hm⟩ := trod_arr ht h
  obtain ⟨l, h1, h2, h3⟩ := chunks K ok n cs (by rw [hl, hc, he]) (fun i hi => by
    obtain ⟨y, hy⟩ := hm i hi
    obtain ⟨a, ha⟩ := ho enc base sp held m _ y hy
    rw [he] at ha
    exact ⟨a, ha⟩)
  exact ⟨⟨l, h1⟩, h2, h3⟩
/-- The fields of a struct, one behind another. -/
theorem fld_cons {cs : List Value} {o n : Nat} {c r : List Value} (h : (cs.drop o).take n = c) (hr : cs.drop (o + n) = r) : cs.drop o = c ++ r := by
  rw [← h, ← hr, ← List.drop_drop, List.take_append_drop]
theorem trod_st {H : Type} {enc : TypeId × Value → H} {base : Nat} {sp : Nat → Bool} {held : Bool} {fuel : Nat} {T : TypeId} {fs : Array Field} {cs : List Value} {x : DataW H × List MemPlace} (ht : P.underlying T = some (.struct fs)) (h : DataW.trod enc P w base sp held fuel T cs = some x) :
    cs.length = P.cellsOf T ∧ ∃ m, ∀ (i : Nat) (f : Field), fs[i]? = some f → ∃ y, DataW.trod enc P w base sp held m f.type ((cs.drop f.offset).take (P.cellsOf f.type)) = some y := by
  obtain ⟨xs, m, _, _, hl, hn, hf⟩ := DataW.trod_struct ht h
  refine ⟨hl, m, fun i f hi => ?_⟩
  have hx : i < xs.length := by rw [hn]; exact (Array.getElem?_eq_some_iff.1 hi).1
  exact ⟨xs[i], by rw [hf i f hi, List.getElem?_eq_getElem hx]⟩
/-- Slices: a cell that reads as a list. -/
def OpnS {α : Type} (P : Program) (w : World) (T : TypeId) (K : Kd α) (ok : α → Prop) : Prop :=
  ∀ {H : Type} (enc : TypeId × Value → H) (base : Nat) (sp : Nat → Bool) (held : Bool) (fuel : Nat) (cs : List Value) (x : DataW H × List MemPlace), DataW.trod enc P w base sp held fuel T cs = some x → ∃ (l : List α) (V : Value), cs = [V] ∧ Rd K w V l ∧ (∀ a ∈ l, ok a) ∧ l.length ≤ maxLen ∧ (sb V < w.heap.size ∨ l = [])
theorem cells_get {base : Nat} {a : Addr} {n : Nat} {cs : List Value} (h : w.cells? base a n = some cs) : cs.length = n ∧ ∀ j, j < n → w.cell? (a.add j) = cs[j]? := by
  unfold World.cells? at h
  split at h
  · refine ⟨by simpa using ms_len h, fun j hj => ?_⟩
    obtain ⟨y, h1, h2⟩ := ms_get h j j (by simp [hj])
    rw [h1, h2]
  · cases h
theorem opn_slice {α : Type} {K : Kd α} {ok : α → Prop} {T e : TypeId} (ht : P.underlying T = some (.slice e)) (he : P.cellsOf e = K.size) (hk : 0 < K.size) (ho : Opn P w e K ok) : OpnS P w T K ok := by
  intro H enc base sp held fuel cs x h
  rcases DataW.trod_slice ht h with ⟨rfl, _⟩ | ⟨a, len, cap, elems, rest, n, rfl, rfl, _, _, hl, hm, hlen, hel, _, _⟩
  · exact ⟨[], _, rfl, Rd.nil K w, by simp, by simp, .inr rfl⟩
  · have hex : ∀ i, i < len → ∃ b, (∀ j z, (K.enc b)[j]? = some z → w.cell? (a.add (i * K.size + j)) = some z) ∧ ok b := by
      intro i hi
      have h1 := hel i hi
      rw [List.getElem?_eq_getElem (by omega)] at h1
      obtain ⟨cs, h2, h3⟩ := Option.bind_eq_some_iff.1 h1
      obtain ⟨b, rfl, hb⟩ := ho enc base sp held n cs _ h3
      obtain ⟨h4, h5⟩ := cells_get h2
      rw [he] at h4 h5
      refine ⟨b, fun j z hz => ?_, hb⟩
      have hj : j < K.size := by rw [← h4]; exact (List.getElem?_eq_some_iff.1 hz).1
      have := h5 j hj
      rw [hz] at this
      rw [← this]
      congr 1
      unfold Addr.add
      by_cases hi0 : i * K.size = 0
      · by_cases hj0 : j = 0
        · simp [hi0, hj0]
        · simp [hi0, hj0]
      · by_cases hj0 : j = 0
        · simp [hi0, hj0]
        · have : i * K.size + j ≠ 0 := by omega
          simp [hi0, hj0, this, Nat.add_assoc]
    have hlist : ∀ m, m ≤ len → ∃ l : List α, l.length = m ∧ (∀ b ∈ l, ok b) ∧ ∀ j z, (l.flatMap K.enc)[j]? = some z → w.cell? (a.add j) = some z := by
      intro m
      induction m with
      | zero => intro _; exact ⟨[], rfl, by simp, by simp⟩
      | succ m ih =>
        intro hm
        obtain ⟨l, h1, h2, h3⟩ := ih (by omega)
        obtain ⟨b, h4, h5⟩ := hex m (by omega)
        refine ⟨l ++ [b], by simp [h1], ?_, ?_⟩
        · intro c hc
          rcases List.mem_append.1 hc with hc | hc
          · exact h2 c hc
          · obtain rfl := List.mem_singleton.1 hc
            exact h5
        · intro j z hz
          have hL : (l.flatMap K.enc).length = m * K.size := by rw [len_flat, h1]
          simp only [List.flatMap_append, List.flatMap_cons, List.flatMap_nil, List.append_nil] at hz
          by_cases hj : j < m * K.size
          · rw [List.getElem?_append_left (by omega)] at hz
            exact h3 j z hz
          · rw [List.getElem?_append_right (by omega), hL] at hz
            have := h4 (j - m * K.size) z hz
            rwa [show m * K.size + (j - m * K.size) = j from by omega] at this
    obtain ⟨l, h1, h2, h3⟩ := hlist len (Nat.le_refl _)
    have hpos : 0 < l.length → ∃ z, w.cell? a = some z := by
      intro hp
      cases l with
      | nil => simp at hp
      | cons b l =>
        have hb : (K.enc b).length = K.size := K.len b
        have : ∃ z, ((b :: l).flatMap K.enc)[0]? = some z := ⟨_, List.getElem?_eq_getElem (by simp [List.flatMap_cons, hb]; omega)⟩
        obtain ⟨z, hz⟩ := this
        have := h3 0 z hz
        exact ⟨z, by simpa [Addr.add] using this⟩
    refine ⟨l, _, rfl, ⟨some a, cap, by rw [h1], by omega, fun hp => ?_⟩, h2, by omega, ?_⟩
    · obtain ⟨z, hz⟩ := hpos hp
      obtain ⟨b, o, s⟩ := a
      have hs : s = none := by
        unfold World.cell? at hz
        split at hz
        · cases s with
          | none => rfl
          | some _ => simp at hz
        · cases hz
      subst hs
      refine ⟨b, o, rfl, fun j v hv => ?_⟩
      have := h3 j v hv
      rwa [Addr.add_lit] at this
    · rcases Nat.eq_zero_or_pos l.length with h0 | hp
      · exact .inr (List.eq_nil_of_length_eq_zero h0)
      · obtain ⟨z, hz⟩ := hpos hp
        refine .inl ?_
        unfold World.cell? at hz
        split at hz
        · rename_i hh
          exact (Array.getElem?_eq_some_iff.1 hh).1
        · cases hz
theorem agg_of {T : TypeId} {v : Value} {cs : List Value} {base : Nat} (h : aggB P T = some true) (hv : Value.okWide P w .any base T v) (hc : v.cells.toList = cs) : v = .agg cs.toArray := by
  unfold aggB at h
  obtain ⟨d, hu, hd⟩ := Option.map_eq_some_iff.1 h
  unfold Value.okWide at hv
  rw [hu] at hv
  cases d <;> simp at hd <;> (obtain ⟨c2, rfl, _⟩ := hv; subst hc; simp [Value.cells])
end Go.Xw

/- What the laws' arguments open into: written by rows.py. -/
set_option linter.unusedVariables false
set_option linter.unusedSimpArgs false
namespace Go.Proofs.Ytjhajfkfhdnciaa
open Go Go.Xw
def ok_api_Seat (a : S_api_Seat) : Prop := True ∧ (Lit.int .i64 a.Gen).wf = true ∧ (Lit.int .i64 a.Next).wf = true
theorem opn_api_Seat {w : World} : Opn Try.prog w 58 k_api_Seat ok_api_Seat := by
  intro H enc base sp held fuel cs x h
  obtain ⟨hl, m, hf⟩ := trod_st Try.underlying58 h
  obtain ⟨y0, h0⟩ := hf 0 _ rfl
  have c0 : Try.prog.cellsOf 4 = 1 := by kernel_rfl
  obtain ⟨b0, e0, o0⟩ := (opn_bool Try.underlying4) enc base sp held m _ y0 h0
  have e0 : (cs.drop 0).take 1 = kB.enc b0 := (congrArg (fun n => (cs.drop 0).take n) c0).symm.trans e0
  obtain ⟨y1, h1⟩ := hf 1 _ rfl
  have c1 : Try.prog.cellsOf 3 = 1 := by kernel_rfl
  obtain ⟨b1, e1, o1⟩ := (opn_int Try.underlying3) enc base sp held m _ y1 h1
  have e1 : (cs.drop 1).take 1 = (kI .i64).enc b1 := (congrArg (fun n => (cs.drop 1).take n) c1).symm.trans e1
  obtain ⟨y2, h2⟩ := hf 2 _ rfl
  have c2 : Try.prog.cellsOf 3 = 1 := by kernel_rfl
  obtain ⟨b2, e2, o2⟩ := (opn_int Try.underlying3) enc base sp held m _ y2 h2
  have e2 : (cs.drop 2).take 1 = (kI .i64).enc b2 := (congrArg (fun n => (cs.drop 2).take n) c2).symm.trans e2
  have hn : cs.drop 3 = [] := List.drop_eq_nil_of_le (by rw [hl]; exact Nat.le_of_eq (by kernel_rfl))
  have hc : cs = kB.enc b0 ++ ((kI .i64).enc b1 ++ ((kI .i64).enc b2 ++ [])) := (fld_cons (o := 0) (n := 1) e0 (fld_cons (o := 1) (n := 1) e1 (fld_cons (o := 2) (n := 1) e2 hn)))
  refine ⟨⟨b0, b1, b2⟩, ?_, o0, o1, o2⟩
  rw [hc]
  simp [kA, kI, kB, kS, kT, cellsOf, Seg.cell, Kd.seg, k_api_Seat, k_api_Leaf, segs_api_Seat, segs_api_Leaf]
def ok_api_Leaf (a : S_api_Leaf) : Prop := (∀ x ∈ a.Seats.l, ok_api_Seat x)
theorem opn_api_Leaf {w : World} : Opn Try.prog w 61 k_api_Leaf ok_api_Leaf := by
  intro H enc base sp held fuel cs x h
  obtain ⟨hl, m, hf⟩ := trod_st Try.underlying61 h
  obtain ⟨y0, h0⟩ := hf 0 _ rfl
  have c0 : Try.prog.cellsOf 59 = 21 := by kernel_rfl
  obtain ⟨b0, e0, o0⟩ := (opn_arr Try.underlying59 (by kernel_rfl) (by kernel_rfl) (opn_api_Seat (w := w))) enc base sp held m _ y0 h0
  have e0 : (cs.drop 0).take 21 = (kA 7 k_api_Seat).enc b0 := (congrArg (fun n => (cs.drop 0).take n) c0).symm.trans e0
  have hn : cs.drop 21 = [] := List.drop_eq_nil_of_le (by rw [hl]; exact Nat.le_of_eq (by kernel_rfl))
  have hc : cs = (kA 7 k_api_Seat).enc b0 ++ [] := (fld_cons (o := 0) (n := 21) e0 hn)
  refine ⟨⟨b0⟩, ?_, o0⟩
  rw [hc]
  simp [kA, kI, kB, kS, kT, cellsOf, Seg.cell, Kd.seg, k_api_Seat, k_api_Leaf, segs_api_Seat, segs_api_Leaf]
def ok_api_Fan (a : S_api_Fan) : Prop := (∀ x ∈ a.Kids.l, (Lit.int .i64 x).wf = true)
theorem opn_api_Fan {w : World} : Opn Try.prog w 73 k_api_Fan ok_api_Fan := by
  intro H enc base sp held fuel cs x h
  obtain ⟨hl, m, hf⟩ := trod_st Try.underlying73 h
  obtain ⟨y0, h0⟩ := hf 0 _ rfl
  have c0 : Try.prog.cellsOf 71 = 16 := by kernel_rfl
  obtain ⟨b0, e0, o0⟩ := (opn_arr Try.underlying71 (by kernel_rfl) (by kernel_rfl) (opn_int Try.underlying3)) enc base sp held m _ y0 h0
  have e0 : (cs.drop 0).take 16 = (kA 16 (kI .i64)).enc b0 := (congrArg (fun n => (cs.drop 0).take n) c0).symm.trans e0
  have hn : cs.drop 16 = [] := List.drop_eq_nil_of_le (by rw [hl]; exact Nat.le_of_eq (by kernel_rfl))
  have hc : cs = (kA 16 (kI .i64)).enc b0 ++ [] := (fld_cons (o := 0) (n := 16) e0 hn)
  refine ⟨⟨b0⟩, ?_, o0⟩
  rw [hc]
  simp [kA, kI, kB, kS, kT, cellsOf, Seg.cell, Kd.seg, k_api_Seat, k_api_Leaf, k_api_Fan, segs_api_Seat, segs_api_Leaf, segs_api_Fan]
def ok_api_Chart (a : S_api_Chart) : Prop := (Lit.int .i64 a.Place).wf = true ∧ (∀ x ∈ a.Bits.l, (Lit.int .u8 x).wf = true)
theorem opn_api_Chart {w : World} : Opn Try.prog w 81 k_api_Chart ok_api_Chart := by
  intro H enc base sp held fuel cs x h
  obtain ⟨hl, m, hf⟩ := trod_st Try.underlying81 h
  obtain ⟨y0, h0⟩ := hf 0 _ rfl
  have c0 : Try.prog.cellsOf 3 = 1 := by kernel_rfl
  obtain ⟨b0, e0, o0⟩ := (opn_int Try.underlying3) enc base sp held m _ y0 h0
  have e0 : (cs.drop 0).take 1 = (kI .i64).enc b0 := (congrArg (fun n => (cs.drop 0).take n) c0).symm.trans e0
  obtain ⟨y1, h1⟩ := hf 1 _ rfl
  have c1 : Try.prog.cellsOf 79 = 48 := by kernel_rfl
  obtain ⟨b1, e1, o1⟩ := (opn_arr Try.underlying79 (by kernel_rfl) (by kernel_rfl) (opn_int Try.underlying5)) enc base sp held m _ y1 h1
  have e1 : (cs.drop 1).take 48 = (kA 48 (kI .u8)).enc b1 := (congrArg (fun n => (cs.drop 1).take n) c1).symm.trans e1
  have hn : cs.drop 49 = [] := List.drop_eq_nil_of_le (by rw [hl]; exact Nat.le_of_eq (by kernel_rfl))
  have hc : cs = (kI .i64).enc b0 ++ ((kA 48 (kI .u8)).enc b1 ++ []) := (fld_cons (o := 0) (n := 1) e0 (fld_cons (o := 1) (n := 48) e1 hn))
  refine ⟨⟨b0, b1⟩, ?_, o0, o1⟩
  rw [hc]
  simp [kA, kI, kB, kS, kT, cellsOf, Seg.cell, Kd.seg, k_api_Seat, k_api_Leaf, k_api_Fan, k_api_Chart, segs_api_Seat, segs_api_Leaf, segs_api_Fan, segs_api_Chart]
end Go.Proofs.Ytjhajfkfhdnciaa

/- Plain words on the models: rounds, numbers that fit, lists. -/
set_option linter.unusedVariables false
set_option linter.unusedSimpArgs false
namespace Go.Xw
open Go
theorem w64 {n : Int} (h1 : -9223372036854775808 ≤ n) (h2 : n ≤ 9223372036854775807) : IntKind.i64.wrap n = n := by
  unfold IntKind.wrap
  simp only [IntKind.signed, IntKind.bits]
  simp
  split <;> omega
theorem wu8 {n : Int} (h1 : 0 ≤ n) (h2 : n ≤ 255) : IntKind.u8.wrap n = n := by
  unfold IntKind.wrap
  simp only [IntKind.signed, IntKind.bits]
  simp
  omega
theorem wu64 {n : Int} (h1 : 0 ≤ n) (h2 : n ≤ 18446744073709551615) : IntKind.u64.wrap n = n := by
  unfold IntKind.wrap
  simp only [IntKind.signed, IntKind.bits]
  simp
  omega
theorem wu32 {n : Int} (h1 : 0 ≤ n) (h2 : n ≤ 4294967295) : IntKind.u32.wrap n = n := by
  unfold IntKind.wrap
  simp only [IntKind.signed, IntKind.bits]
  simp
  omega
theorem wf64 {n : Int} : (Lit.int .i64 n).wf = true ↔ -9223372036854775808 ≤ n ∧ n ≤ 9223372036854775807 := by
  simp only [Lit.wf, IntKind.min, IntKind.max, IntKind.signed, IntKind.bits, Bool.and_eq_true, decide_eq_true_eq]
  simp
theorem wfu64 {n : Int} : (Lit.int .u64 n).wf = true ↔ 0 ≤ n ∧ n ≤ 18446744073709551615 := by
  simp only [Lit.wf, IntKind.min, IntKind.max, IntKind.signed, IntKind.bits, Bool.and_eq_true, decide_eq_true_eq]
  simp
theorem wf8 {n : Int} : (Lit.int .u8 n).wf = true ↔ 0 ≤ n ∧ n ≤ 255 := by
  simp only [Lit.wf, IntKind.min, IntKind.max, IntKind.signed, IntKind.bits, Bool.and_eq_true, decide_eq_true_eq]
  simp
theorem loopM_from {σ ε : Type} {step : σ → Option (Sum ε σ)} (S : Nat → σ) (n : Nat) (e : ε) (h : ∀ j, j < n → step (S j) = some (.inr (S (j + 1)))) (he : step (S n) = some (.inl e)) : ∀ k m, m ≤ n → n - m < k → loopM step k (S m) = some e
  | 0, m, _, hk => by omega
  | k + 1, m, hm, hk => by
    unfold loopM
    by_cases e1 : m = n
    · subst e1
      rw [he]
    · rw [h m (by omega)]
      exact loopM_from S n e h he k (m + 1) (by omega) (by omega)
theorem loopM_run {σ ε : Type} {step : σ → Option (Sum ε σ)} (S : Nat → σ) (n : Nat) {e : ε} {k : Nat} {s : σ} (hs : S 0 = s) (h : ∀ j, j < n → step (S j) = some (.inr (S (j + 1)))) (he : step (S n) = some (.inl e)) (hk : n < k) : loopM step k s = some e := by
  subst hs
  exact loopM_from S n e h he k 0 (by omega) (by omega)
theorem loopM_bad {σ ε : Type} {step : σ → Option (Sum ε σ)} (S : Nat → σ) (N : Nat) (good : Nat → Prop) {e : ε} {k : Nat} {s : σ} (hs : S 0 = s) (hex : ∃ j, j < N ∧ ¬ good j)
    (h : ∀ j, j < N → (∀ i, i < j → good i) → good j → step (S j) = some (.inr (S (j + 1)))) (hb : ∀ j, j < N → (∀ i, i < j → good i) → ¬ good j → step (S j) = some (.inl e)) (hk : N < k) : loopM step k s = some e := by
  have hmin : ∀ m j, j ≤ m → (j < N ∧ ¬ good j) → ∃ n, (n < N ∧ ¬ good n) ∧ ∀ i, i < n → good i := by
    intro m
    induction m with
    | zero =>
      intro j hj hjj
      exact ⟨j, hjj, fun i hi => by omega⟩
    | succ m ih =>
      intro j hj hjj
      by_cases hx : ∃ i, i < j ∧ ¬ good i
      · obtain ⟨i, hi, hgi⟩ := hx
        exact ih i (by omega) ⟨by omega, hgi⟩
      · exact ⟨j, hjj, fun i hi => Classical.byContradiction fun hg => hx ⟨i, hi, hg⟩⟩
  obtain ⟨j, hj⟩ := hex
  obtain ⟨n, ⟨hn, hg⟩, hall⟩ := hmin j j (Nat.le_refl _) hj
  exact loopM_run S n hs (fun i hi => h i (by omega) (fun q hq => hall q (by omega)) (hall i hi)) (hb n hn hall hg) (by omega)
end Go.Xw

/- rickyard/rickyardref01.Rest: its model, and that the Go function computes it: written by gen.py. -/
set_option linter.unusedVariables false
namespace Go.Proofs.Ytjhajfkfhdnciaa
open Go Go.Xw
def rickyardref01_Rest.f (fu : Nat) (a0 : Int) (a1 : Int) : Option Int := (if a1 ≠ 0 then (if a1 ≠ 0 then some ((Int.tmod (IntKind.i64.wrap ((Int.tmod a0 a1) + a1)) a1)) else none) else none)
set_option maxRecDepth 100000 in
set_option maxHeartbeats 400000 in
theorem rickyardref01_Rest.ok (fu : Nat) (w : World) (a0 : Int) (a1 : Int) (r : Int) (h : rickyardref01_Rest.f fu a0 a1 = some r) :
    Calls Try.prog 34 (([.int .i64 a0, .int .i64 a1] : List Value).toArray) w (fun e w' => ∃ v, e = .returned v ∧ v = .int .i64 r ∧ Gr w w') := by
  unfold rickyardref01_Rest.f at h
  have fB : Gr w w := Fr.refl _ _
  refine calls_cw Try.func34 rfl Try.ntmps34 rfl ?_
  refine cw_seq ?_
  refine cw_region ?_
  refine ol_val (v := .int .i64 0) (by exact xr_assign rfl rfl) rfl rfl rfl ?_
  refine ol_nil ?_
  refine cw_seq ?_
  refine cw_region ?_
  refine ol_val (v := .int .i64 a0) (by exact xr_move rfl rfl) rfl rfl rfl ?_
  refine ol_val (v := .int .i64 a1) (by exact xr_move rfl rfl) rfl rfl rfl ?_
  obtain ⟨g1, h⟩ := gs h
  refine ol_val (v := .int .i64 (Int.tmod a0 a1)) (by exact xr_rem rfl rfl rfl g1) rfl rfl rfl ?_
  refine ol_val (v := .int .i64 a1) (by exact xr_move rfl rfl) rfl rfl rfl ?_
  refine ol_val (v := .int .i64 (IntKind.i64.wrap ((Int.tmod a0 a1) + a1))) (by exact xr_add rfl rfl rfl) rfl rfl rfl ?_
  refine ol_val (v := .int .i64 a1) (by exact xr_move rfl rfl) rfl rfl rfl ?_
  obtain ⟨g2, h⟩ := gs h
  refine ol_val (v := .int .i64 (Int.tmod (IntKind.i64.wrap ((Int.tmod a0 a1) + a1)) a1)) (by exact xr_rem rfl rfl rfl g2) rfl rfl rfl ?_
  refine ol_val (v := .int .i64 (Int.tmod (IntKind.i64.wrap ((Int.tmod a0 a1) + a1)) a1)) (by exact xr_assign rfl rfl) rfl rfl rfl ?_
  refine ol_nil ?_
  refine cw_ret ?_
  repeat (first | with_reducible refine thn_r ?_ | with_reducible refine blk_r ?_)
  obtain rfl := Option.some.inj h
  refine fin_ret1 Try.results34 rfl ?_
  exact ⟨_, rfl, rfl, fB⟩
end Go.Proofs.Ytjhajfkfhdnciaa

/- rickyard/rickyardref10.Right: its model, and that the Go function computes it: written by gen.py. -/
set_option linter.unusedVariables false
namespace Go.Proofs.Ytjhajfkfhdnciaa
open Go Go.Xw
def rickyardref10_Right.f (fu : Nat) (a0 : S_api_Chart) : Option Bool := some ((if (decide (a0.Place ≥ 0)) = true then (decide (a0.Place ≤ 7)) else false))
set_option maxRecDepth 100000 in
set_option maxHeartbeats 400000 in
theorem rickyardref10_Right.ok (fu : Nat) (w : World) (a0 : S_api_Chart) (r : Bool) (h : rickyardref10_Right.f fu a0 = some r) :
    Calls Try.prog 61 (([aggV [Seg.cell (.int .i64 a0.Place), Kd.seg (kA 48 (kI .u8)) a0.Bits]] : List Value).toArray) w (fun e w' => ∃ v, e = .returned v ∧ v = .bool r ∧ Gr w w') := by
  unfold rickyardref10_Right.f at h
  have fB : Gr w w := Fr.refl _ _
  refine calls_cw Try.func61 rfl Try.ntmps61 rfl ?_
  refine cw_seq ?_
  refine cw_region ?_
  refine ol_op (by exact opv_box (ss := [Seg.cell (.int .i64 a0.Place), Kd.seg (kA 48 (kI .u8)) a0.Bits]) rfl rfl rfl) rfl rfl rfl ?_
  rintro _ w6 ⟨G1, rfl, b2, q3, z4⟩
  have z4 := Nat.le_trans fB.size z4
  have fB := fB.gr q3
  refine ol_val (v := .bool false) (by exact xr_assign rfl rfl) rfl rfl rfl ?_
  refine ol_nil ?_
  refine cw_seq ?_
  refine cw_mid (fun ρ' w' => ρ' 2 = .bool (if (decide (a0.Place ≥ 0)) = true then (decide (a0.Place ≤ 7)) else false) ∧ w6 = w') ?_ ?_
  · skip
    refine cw_region ?_
    refine ol_val (v := .pointer (some ⟨G1, 0, none⟩)) (by exact xr_fieldAddr (p := 0) (q := 0) rfl fl81_0 rfl) rfl rfl rfl ?_
    refine ol_val (v := .int .i64 a0.Place) (by exact xr_load1 (v := .int .i64 a0.Place) rfl ag3 rfl (b2.seg 0 rfl rfl)) rfl rfl rfl ?_
    refine ol_val (v := .bool (decide (a0.Place ≥ 0))) (by exact xr_geq rfl rfl rfl) rfl rfl rfl ?_
    refine ol_val (v := .bool (decide (a0.Place ≥ 0))) (by exact xr_move rfl rfl) rfl rfl rfl ?_
    rcases bt (decide (a0.Place ≥ 0)) with c7 | c7
    · skip
      refine ol_gval (v := .pointer (some ⟨G1, 0, none⟩)) (by exact xr_fieldAddr (p := 0) (q := 0) rfl fl81_0 rfl) rfl rfl rfl rfl rfl c7 ?_
      refine ol_gval (v := .int .i64 a0.Place) (by exact xr_load1 (v := .int .i64 a0.Place) rfl ag3 rfl (b2.seg 0 rfl rfl)) rfl rfl rfl rfl rfl c7 ?_
      refine ol_gval (v := .bool (decide (a0.Place ≤ 7))) (by exact xr_leq rfl rfl rfl) rfl rfl rfl rfl rfl c7 ?_
      refine ol_val (v := .bool (decide (a0.Place ≤ 7))) (by exact xr_pickT rfl rfl c7 rfl) rfl rfl rfl ?_
      refine ol_val (v := .bool (decide (a0.Place ≤ 7))) (by exact xr_assign rfl rfl) rfl rfl rfl ?_
      refine ol_nil ?_
      refine thn_i ?_
      exact ⟨(rfl).trans (congrArg (fun z => (.bool z : Value)) (show (decide (a0.Place ≤ 7)) = (if (decide (a0.Place ≥ 0)) = true then (decide (a0.Place ≤ 7)) else false) from by rw [ite_t c7])), rfl⟩
    · skip
      refine ol_gskip rfl rfl rfl rfl rfl c7 ?_
      refine ol_gskip rfl rfl rfl rfl rfl c7 ?_
      refine ol_gskip rfl rfl rfl rfl rfl c7 ?_
      refine ol_val (v := .bool false) (by exact xr_pickF rfl rfl c7 rfl) rfl rfl rfl ?_
      refine ol_val (v := .bool false) (by exact xr_assign rfl rfl) rfl rfl rfl ?_
      refine ol_nil ?_
      refine thn_i ?_
      exact ⟨(rfl).trans (congrArg (fun z => (.bool z : Value)) (show false = (if (decide (a0.Place ≥ 0)) = true then (decide (a0.Place ≤ 7)) else false) from by rw [ite_f c7])), rfl⟩
  · skip
    rintro ρ8 _ ⟨e2, rfl⟩
    refine cw_ret ?_
    repeat (first | with_reducible refine thn_r ?_ | with_reducible refine blk_r ?_)
    obtain rfl := Option.some.inj h
    refine fin_ret1 Try.results61 e2 ?_
    exact ⟨_, rfl, rfl, fB⟩
end Go.Proofs.Ytjhajfkfhdnciaa

/- rickyard/rickyardref10.List: its model, and that the Go function computes it: written by gen.py. -/
set_option linter.unusedVariables false
namespace Go.Proofs.Ytjhajfkfhdnciaa
open Go Go.Xw
def rickyardref10_List.s2 (fu : Nat) (a0 : S_api_Chart) (s10 : (List Int) × Int) : ((List Int) × Int × Int) → Option (Sum (List Int) ((List Int) × Int × Int)) := fun s35 => (if (decide (s35.2.2 < 8)) = true then (((if (decide ((Int.tmod s35.2.1 2) = 1)) = true then (if List.length s35.1 + List.length [(IntKind.i64.wrap ((IntKind.i64.wrap ((IntKind.i64.wrap (384 * a0.Place)) + (IntKind.i64.wrap (8 * s10.2)))) + s35.2.2))] ≤ LIM then some ((s35.1 ++ [(IntKind.i64.wrap ((IntKind.i64.wrap ((IntKind.i64.wrap (384 * a0.Place)) + (IntKind.i64.wrap (8 * s10.2)))) + s35.2.2))])) else none) else some (s35.1)) : Option (List Int)).bind fun x49 => some (Sum.inr (x49, (IntKind.i64.wrap (Int.tdiv s35.2.1 2)), (IntKind.i64.wrap (s35.2.2 + 1))))) else some (Sum.inl (s35.1)))
def rickyardref10_List.s1 (fu : Nat) (a0 : S_api_Chart) : ((List Int) × Int) → Option (Sum (List Int) ((List Int) × Int)) := fun s10 => (((if (decide (s10.2 < 48)) = true then ((rickyardref10_Right.f fu a0 : Option Bool).bind fun t26 => some (t26)) else some (false)) : Option Bool).bind fun x23 => (if x23 = true then (if 0 ≤ s10.2 ∧ s10.2 < 48 then ((loopM (rickyardref10_List.s2 fu a0 s10) fu (s10.1, (IntKind.i64.wrap (Arr.get a0.Bits s10.2)), 0)).bind fun e36 => some (Sum.inr (e36, (IntKind.i64.wrap (s10.2 + 1))))) else none) else some (Sum.inl (s10.1))))
def rickyardref10_List.f (fu : Nat) (a0 : S_api_Chart) : Option (List Int) := ((loopM (rickyardref10_List.s1 fu a0) fu ([], 0)).bind fun e11 => some (e11))
set_option maxRecDepth 100000 in
set_option maxHeartbeats 400000 in
theorem rickyardref10_List.ok (fu : Nat) (w : World) (a0 : S_api_Chart) (r : (List Int)) (h : rickyardref10_List.f fu a0 = some r) :
    Calls Try.prog 62 (([aggV [Seg.cell (.int .i64 a0.Place), Kd.seg (kA 48 (kI .u8)) a0.Bits]] : List Value).toArray) w (fun e w' => ∃ v, e = .returned v ∧ ∃ u1 : Value, ∃ o2 : Own (kI .i64) 3 w' w.heap.size u1 r, v = u1 ∧ Gr w w') := by
  unfold rickyardref10_List.f at h
  have fB : Gr w w := Fr.refl _ _
  refine calls_cw Try.func62 rfl Try.ntmps62 rfl ?_
  refine cw_seq ?_
  refine cw_region ?_
  refine ol_op (by exact opv_box (ss := [Seg.cell (.int .i64 a0.Place), Kd.seg (kA 48 (kI .u8)) a0.Bits]) rfl rfl rfl) rfl rfl rfl ?_
  rintro _ w9 ⟨G4, rfl, b5, q6, z7⟩
  have z7 := Nat.le_trans fB.size z7
  have fB := fB.gr q6
  refine ol_val (v := .slice none 0 0) (by exact xr_assign rfl rfl) rfl rfl rfl ?_
  refine ol_nil ?_
  refine cw_seq ?_
  refine cw_region ?_
  refine ol_val (v := .slice none 0 0) (by exact xr_assign rfl rfl) rfl rfl rfl ?_
  refine ol_nil ?_
  refine cw_seq ?_
  refine cw_seq ?_
  refine cw_region ?_
  refine ol_val (v := .int .i64 0) (by exact xr_assign rfl rfl) rfl rfl rfl ?_
  refine ol_nil ?_
  obtain ⟨e11, l12, h13⟩ := bs h
  refine cw_mid (fun ρ' w' => ∃ v14 : Value, ∃ o15 : Own (kI .i64) 3 w' w.heap.size v14 e11, ρ' 3 = v14 ∧ Gr w w') ?_ ?_
  · refine cw_block ?_
    refine cw_round (fun (s10 : (List Int) × Int) ρ' w' => ∃ v17 : Value, ∃ o18 : Own (kI .i64) 3 w' w.heap.size v17 s10.1, ρ' 1 = .pointer (some ⟨G4, 0, none⟩) ∧ ρ' 3 = v17 ∧ ρ' 4 = .int .i64 s10.2 ∧ Blk w' G4 81 [Seg.cell (.int .i64 a0.Place), Kd.seg (kA 48 (kI .u8)) a0.Bits] ∧ Gr w w') l12 ?_ ?_
    · skip
      exact ⟨(.slice none 0 0), Own.nil _ _ _ _, rfl, rfl, rfl, b5, fB⟩
    · rintro s10 x22 ρ20 w21 ⟨v17, o18, e1, e3, e4, b5, fB⟩ h
      unfold rickyardref10_List.s1 at h
      refine cw_seq ?_
      refine cw_seq ?_
      obtain ⟨x23, j24, h⟩ := bs h
      refine cw_mid (fun ρ' w' => ρ' 1 = .pointer (some ⟨G4, 0, none⟩) ∧ ρ' 3 = v17 ∧ ρ' 4 = .int .i64 s10.2 ∧ ρ' 12 = .bool x23 ∧ Gr w21 w') ?_ ?_
      · skip
        refine cw_region ?_
        refine ol_val (v := .int .i64 s10.2) (by exact xr_move rfl e4) rfl rfl rfl ?_
        refine ol_val (v := .bool (decide (s10.2 < 48))) (by exact xr_lss rfl rfl rfl) rfl rfl rfl ?_
        refine ol_val (v := .bool (decide (s10.2 < 48))) (by exact xr_move rfl rfl) rfl rfl rfl ?_
        rcases is j24 with ⟨c25, j24⟩ | ⟨c25, j24⟩
        · skip
          refine ol_gval (v := aggV [Seg.cell (.int .i64 a0.Place), Kd.seg (kA 48 (kI .u8)) a0.Bits]) (by exact xr_loadS (ss := [Seg.cell (.int .i64 a0.Place), Kd.seg (kA 48 (kI .u8)) a0.Bits]) rfl ag81 sz81 rfl e1 (b5.segs 0 2 rfl)) rfl rfl rfl rfl rfl c25 ?_
          obtain ⟨t26, k27, j24⟩ := bs j24
          refine ol_gop (by exact opv_call rfl cal61 (ac rfl an) (rickyardref10_Right.ok fu _ a0 _ k27)) rfl rfl rfl rfl rfl c25 ?_
          rintro _ w29 ⟨rfl, q28⟩
          have b5 := b5.gr q28
          have o18 := o18.gr q28
          have fB := fB.gr q28
          refine ol_val (v := .bool t26) (by exact xr_pickT rfl rfl c25 rfl) rfl rfl rfl ?_
          refine ol_nil ?_
          obtain rfl := Option.some.inj j24
          refine thn_i ?_
          exact ⟨e1, e3, e4, rfl, q28⟩
        · skip
          refine ol_gskip rfl rfl rfl rfl rfl c25 ?_
          refine ol_gskip rfl rfl rfl rfl rfl c25 ?_
          refine ol_val (v := .bool false) (by exact xr_pickF rfl rfl c25 rfl) rfl rfl rfl ?_
          refine ol_nil ?_
          obtain rfl := Option.some.inj j24
          refine thn_i ?_
          exact ⟨e1, e3, e4, rfl, Fr.refl _ _⟩
      · skip
        rintro ρ30 w31 ⟨e1, e3, e4, e12, q32⟩
        have b5 := b5.gr q32
        have o18 := o18.gr q32
        have fB := fB.gr q32
        rcases is h with ⟨c33, h⟩ | ⟨c33, h⟩
        · refine cw_condT e12 c33 ?_
          refine cw_skip ?_
          refine cw_seq ?_
          refine cw_block ?_
          refine cw_seq ?_
          refine cw_region ?_
          refine ol_val (v := .int .i64 s10.2) (by exact xr_move rfl e4) rfl rfl rfl ?_
          refine ol_val (v := .pointer (some ⟨G4, 1, none⟩)) (by exact xr_fieldAddr (p := 0) (q := 1) rfl fl81_1 e1) rfl rfl rfl ?_
          obtain ⟨g34, h⟩ := gs h
          refine ol_val (v := .pointer (some ⟨G4, 1 + Int.toNat s10.2 * 1, none⟩)) (by exact xr_indexA (p := 1) (s := 1) rfl Try.underlying79 sz5 rfl rfl g34.1 g34.2) rfl rfl rfl ?_
          refine ol_val (v := .int .u8 (Arr.get a0.Bits s10.2)) (by exact xr_load1 (v := .int .u8 (Arr.get a0.Bits s10.2)) rfl ag5 rfl (At.arr (a := a0.Bits) (b5.seg 1 rfl rfl) g34.1 g34.2)) rfl rfl rfl ?_
          refine ol_val (v := .int .i64 (IntKind.i64.wrap (Arr.get a0.Bits s10.2))) (by exact xr_conv rfl Try.underlying5 Try.underlying3 rfl) rfl rfl rfl ?_
          refine ol_val (v := .int .i64 (IntKind.i64.wrap (Arr.get a0.Bits s10.2))) (by exact xr_assign rfl rfl) rfl rfl rfl ?_
          refine ol_nil ?_
          refine cw_seq ?_
          refine cw_region ?_
          refine ol_val (v := .int .i64 0) (by exact xr_assign rfl rfl) rfl rfl rfl ?_
          refine ol_nil ?_
          obtain ⟨e36, l37, h38⟩ := bs h
          refine cw_mid (fun ρ' w' => ∃ v39 : Value, ∃ o40 : Own (kI .i64) 3 w' w.heap.size v39 e36, ρ' 1 = .pointer (some ⟨G4, 0, none⟩) ∧ ρ' 3 = v39 ∧ ρ' 4 = .int .i64 s10.2 ∧ Blk w' G4 81 [Seg.cell (.int .i64 a0.Place), Kd.seg (kA 48 (kI .u8)) a0.Bits] ∧ Gr w w') ?_ ?_
          · refine cw_block ?_
            refine cw_round (fun (s35 : (List Int) × Int × Int) ρ' w' => ∃ v42 : Value, ∃ o43 : Own (kI .i64) 3 w' w.heap.size v42 s35.1, ρ' 1 = .pointer (some ⟨G4, 0, none⟩) ∧ ρ' 3 = v42 ∧ ρ' 4 = .int .i64 s10.2 ∧ ρ' 5 = .int .i64 s35.2.1 ∧ ρ' 6 = .int .i64 s35.2.2 ∧ Blk w' G4 81 [Seg.cell (.int .i64 a0.Place), Kd.seg (kA 48 (kI .u8)) a0.Bits] ∧ Gr w w') l37 ?_ ?_
            · skip
              exact ⟨v17, o18, e1, e3, e4, rfl, rfl, b5, fB⟩
            · rintro s35 x47 ρ45 w46 ⟨v42, o43, e1, e3, e4, e5, e6, b5, fB⟩ h
              unfold rickyardref10_List.s2 at h
              refine cw_seq ?_
              refine cw_seq ?_
              refine cw_region ?_
              refine ol_val (v := .int .i64 s35.2.2) (by exact xr_move rfl e6) rfl rfl rfl ?_
              refine ol_val (v := .bool (decide (s35.2.2 < 8))) (by exact xr_lss rfl rfl rfl) rfl rfl rfl ?_
              refine ol_nil ?_
              rcases is h with ⟨c48, h⟩ | ⟨c48, h⟩
              · refine cw_condT rfl c48 ?_
                refine cw_skip ?_
                refine cw_seq ?_
                refine cw_block ?_
                refine cw_seq ?_
                refine cw_seq ?_
                refine cw_region ?_
                refine ol_val (v := .int .i64 s35.2.1) (by exact xr_move rfl e5) rfl rfl rfl ?_
                refine ol_val (v := .int .i64 (Int.tmod s35.2.1 2)) (by exact xr_rem rfl rfl rfl (by decide)) rfl rfl rfl ?_
                refine ol_val (v := .bool (decide ((Int.tmod s35.2.1 2) = 1))) (by exact xr_eqI rfl Try.underlying3 rfl rfl rfl) rfl rfl rfl ?_
                refine ol_nil ?_
                obtain ⟨x49, j50, h51⟩ := bs h
                refine cw_mid (fun ρ' w' => ∃ v52 : Value, ∃ o53 : Own (kI .i64) 3 w' w.heap.size v52 x49, ρ' 1 = .pointer (some ⟨G4, 0, none⟩) ∧ ρ' 3 = v52 ∧ ρ' 4 = .int .i64 s10.2 ∧ ρ' 5 = .int .i64 s35.2.1 ∧ ρ' 6 = .int .i64 s35.2.2 ∧ Blk w' G4 81 [Seg.cell (.int .i64 a0.Place), Kd.seg (kA 48 (kI .u8)) a0.Bits] ∧ Gr w w') ?_ ?_
                · have h := j50
                  rcases is h with ⟨c55, h⟩ | ⟨c55, h⟩
                  · refine cw_condT rfl c55 ?_
                    refine cw_region ?_
                    refine ol_val (v := v42) (by exact xr_move rfl e3) rfl rfl rfl ?_
                    refine ol_val (v := .pointer (some ⟨G4, 0, none⟩)) (by exact xr_fieldAddr (p := 0) (q := 0) rfl fl81_0 e1) rfl rfl rfl ?_
                    refine ol_val (v := .int .i64 a0.Place) (by exact xr_load1 (v := .int .i64 a0.Place) rfl ag3 rfl (b5.seg 0 rfl rfl)) rfl rfl rfl ?_
                    refine ol_val (v := .int .i64 (IntKind.i64.wrap (384 * a0.Place))) (by exact xr_mul rfl rfl rfl) rfl rfl rfl ?_
                    refine ol_val (v := .int .i64 s10.2) (by exact xr_move rfl e4) rfl rfl rfl ?_
                    refine ol_val (v := .int .i64 (IntKind.i64.wrap (8 * s10.2))) (by exact xr_mul rfl rfl rfl) rfl rfl rfl ?_
                    refine ol_val (v := .int .i64 (IntKind.i64.wrap ((IntKind.i64.wrap (384 * a0.Place)) + (IntKind.i64.wrap (8 * s10.2))))) (by exact xr_add rfl rfl rfl) rfl rfl rfl ?_
                    refine ol_val (v := .int .i64 s35.2.2) (by exact xr_move rfl e6) rfl rfl rfl ?_
                    refine ol_val (v := .int .i64 (IntKind.i64.wrap ((IntKind.i64.wrap ((IntKind.i64.wrap (384 * a0.Place)) + (IntKind.i64.wrap (8 * s10.2)))) + s35.2.2))) (by exact xr_add rfl rfl rfl) rfl rfl rfl ?_
                    refine ol_op (by exact opv_buildSlice (K := (kI .i64)) (xs := [(IntKind.i64.wrap ((IntKind.i64.wrap ((IntKind.i64.wrap (384 * a0.Place)) + (IntKind.i64.wrap (8 * s10.2)))) + s35.2.2))]) (vals := [.int .i64 (IntKind.i64.wrap ((IntKind.i64.wrap ((IntKind.i64.wrap (384 * a0.Place)) + (IntKind.i64.wrap (8 * s10.2)))) + s35.2.2))]) rfl Try.underlying45 el3 rfl rfl ⟨rfl, rfl, trivial⟩ rfl rfl rfl fB.size) rfl rfl rfl ?_
                    rintro v56 w61 ⟨o58, q57, z59⟩
                    have a62 := OffV.new o43 z59
                    have b5 := b5.gr q57
                    have o43 := o43.gr q57
                    have fB := fB.gr q57
                    obtain ⟨g67, h⟩ := gs h
                    have f69 := off_ty b5 o43 (by decide)
                    have f70 := o43.geO
                    refine ol_op (by exact opv_append (K := (kI .i64)) rfl Try.underlying45 el3 rfl rfl rfl rfl rfl o43 o58.rd g67 fB.size) rfl rfl rfl ?_
                    rintro v63 w71 ⟨o64, q65, n66⟩
                    have b5 := b5.wrO q65 f69
                    have fB := fB.wrO q65 f70
                    refine ol_val (v := v63) (by exact xr_assign rfl rfl) rfl rfl rfl ?_
                    refine ol_nil ?_
                    obtain rfl := Option.some.inj h
                    refine thn_i ?_
                    exact ⟨v63, o64, e1, rfl, e4, e5, e6, b5, fB⟩
                  · refine cw_condF rfl c55 ?_
                    refine cw_skip ?_
                    obtain rfl := Option.some.inj h
                    refine thn_i ?_
                    exact ⟨v42, o43, e1, e3, e4, e5, e6, b5, fB⟩
                · rintro ρ72 w73 ⟨v52, o53, e1, e3, e4, e5, e6, b5, fB⟩
                  have h := h51
                  refine cw_region ?_
                  refine ol_val (v := .int .i64 s35.2.1) (by exact xr_move rfl e5) rfl rfl rfl ?_
                  refine ol_val (v := .int .i64 (IntKind.i64.wrap (Int.tdiv s35.2.1 2))) (by exact xr_quo rfl rfl rfl (by decide)) rfl rfl rfl ?_
                  refine ol_val (v := .int .i64 (IntKind.i64.wrap (Int.tdiv s35.2.1 2))) (by exact xr_assign rfl rfl) rfl rfl rfl ?_
                  refine ol_nil ?_
                  refine blk_i ?_
                  refine cw_region ?_
                  refine ol_val (v := .int .i64 s35.2.2) (by exact xr_move rfl e6) rfl rfl rfl ?_
                  refine ol_val (v := .int .i64 (IntKind.i64.wrap (s35.2.2 + 1))) (by exact xr_add rfl rfl rfl) rfl rfl rfl ?_
                  refine ol_val (v := .int .i64 (IntKind.i64.wrap (s35.2.2 + 1))) (by exact xr_assign rfl rfl) rfl rfl rfl ?_
                  refine ol_nil ?_
                  obtain rfl := Option.some.inj h
                  refine lp_in ?_
                  exact ⟨v52, o53, e1, e3, e4, rfl, rfl, b5, fB⟩
              · refine cw_condF rfl c48 ?_
                refine cw_exit ?_
                repeat (first | with_reducible refine thn_e ?_ | with_reducible refine blk_e rfl ?_)
                obtain rfl := Option.some.inj h
                refine lp_exit ?_
                rintro rfl
                refine thn_x ?_
                exact ⟨v42, o43, e1, e3, e4, b5, fB⟩
          · rintro ρ74 w75 ⟨v39, o40, e1, e3, e4, b5, fB⟩
            have h := h38
            refine blk_i ?_
            refine cw_region ?_
            refine ol_val (v := .int .i64 s10.2) (by exact xr_move rfl e4) rfl rfl rfl ?_
            refine ol_val (v := .int .i64 (IntKind.i64.wrap (s10.2 + 1))) (by exact xr_add rfl rfl rfl) rfl rfl rfl ?_
            refine ol_val (v := .int .i64 (IntKind.i64.wrap (s10.2 + 1))) (by exact xr_assign rfl rfl) rfl rfl rfl ?_
            refine ol_nil ?_
            obtain rfl := Option.some.inj h
            refine lp_in ?_
            exact ⟨v39, o40, e1, e3, rfl, b5, fB⟩
        · refine cw_condF e12 c33 ?_
          refine cw_exit ?_
          repeat (first | with_reducible refine thn_e ?_ | with_reducible refine blk_e rfl ?_)
          obtain rfl := Option.some.inj h
          refine lp_exit ?_
          rintro rfl
          refine thn_x ?_
          exact ⟨v17, o18, e3, fB⟩
  · rintro ρ76 w77 ⟨v14, o15, e3, fB⟩
    have h := h13
    refine cw_seq ?_
    refine cw_region ?_
    refine ol_val (v := v14) (by exact xr_move rfl e3) rfl rfl rfl ?_
    refine ol_val (v := v14) (by exact xr_assign rfl rfl) rfl rfl rfl ?_
    refine ol_nil ?_
    refine cw_ret ?_
    repeat (first | with_reducible refine thn_r ?_ | with_reducible refine blk_r ?_)
    obtain rfl := Option.some.inj h
    refine fin_ret1 Try.results62 rfl ?_
    exact ⟨_, rfl, v14, o15, rfl, fB⟩
end Go.Proofs.Ytjhajfkfhdnciaa

/- rickyard/rickyardref10.Has: its model, and that the Go function computes it: written by gen.py. -/
set_option linter.unusedVariables false
namespace Go.Proofs.Ytjhajfkfhdnciaa
open Go Go.Xw
def rickyardref10_Has.s0 (fu : Nat) (a0 : List Int) (a1 : Int) : Int → Option (Sum (Sum Bool Unit) Int) := fun s1 => (if (decide (s1 < (List.length a0 : Int))) = true then (if 0 ≤ s1 ∧ s1 < (List.length a0 : Int) then (if (decide ((ix a0 s1) = a1)) = true then some (Sum.inl (Sum.inl (true))) else some (Sum.inr ((IntKind.i64.wrap (s1 + 1))))) else none) else some (Sum.inl (Sum.inr ())))
def rickyardref10_Has.f (fu : Nat) (a0 : List Int) (a1 : Int) : Option Bool := ((loopM (rickyardref10_Has.s0 fu a0 a1) fu (0)).bind fun e2 => match e2 with | Sum.inl p => some p | Sum.inr x5 => some (false))
set_option maxRecDepth 100000 in
set_option maxHeartbeats 400000 in
theorem rickyardref10_Has.ok (fu : Nat) (w : World) (a0 : List Int) (V0_0 : Value) (R0_0 : Rd (kI .i64) w V0_0 a0) (a1 : Int) (r : Bool) (h : rickyardref10_Has.f fu a0 a1 = some r) :
    Calls Try.prog 63 (([V0_0, .int .i64 a1] : List Value).toArray) w (fun e w' => ∃ v, e = .returned v ∧ v = .bool r ∧ Gr w w') := by
  unfold rickyardref10_Has.f at h
  have fB : Gr w w := Fr.refl _ _
  refine calls_cw Try.func63 rfl Try.ntmps63 rfl ?_
  refine cw_seq ?_
  refine cw_region ?_
  refine ol_val (v := .bool false) (by exact xr_assign rfl rfl) rfl rfl rfl ?_
  refine ol_nil ?_
  refine cw_seq ?_
  refine cw_seq ?_
  refine cw_region ?_
  refine ol_val (v := .int .i64 0) (by exact xr_assign rfl rfl) rfl rfl rfl ?_
  refine ol_nil ?_
  obtain ⟨e2, l3, h4⟩ := bs h
  refine cw_mid (fun ρ' w' => ∃ x5, e2 = Sum.inr x5 ∧ Gr w w') ?_ ?_
  · refine cw_block ?_
    refine cw_round (fun (s1 : Int) ρ' w' => ρ' 0 = V0_0 ∧ ρ' 1 = .int .i64 a1 ∧ ρ' 5 = .int .i64 s1 ∧ Gr w w') l3 ?_ ?_
    · skip
      exact ⟨rfl, rfl, rfl, fB⟩
    · rintro s1 x8 ρ6 w7 ⟨e0, e1, e5, fB⟩ h
      unfold rickyardref10_Has.s0 at h
      refine cw_seq ?_
      refine cw_seq ?_
      refine cw_region ?_
      refine ol_val (v := .int .i64 s1) (by exact xr_move rfl e5) rfl rfl rfl ?_
      refine ol_val (v := V0_0) (by exact xr_move rfl e0) rfl rfl rfl ?_
      refine ol_val (v := .int .i64 (List.length a0 : Int)) (by exact xr_lenR rfl Try.underlying45 rfl (R0_0.gr fB)) rfl rfl rfl ?_
      refine ol_val (v := .bool (decide (s1 < (List.length a0 : Int)))) (by exact xr_lss rfl rfl rfl) rfl rfl rfl ?_
      refine ol_nil ?_
      rcases is h with ⟨c9, h⟩ | ⟨c9, h⟩
      · refine cw_condT rfl c9 ?_
        refine cw_skip ?_
        refine cw_seq ?_
        refine cw_block ?_
        refine cw_seq ?_
        refine cw_region ?_
        refine ol_val (v := V0_0) (by exact xr_move rfl e0) rfl rfl rfl ?_
        refine ol_val (v := .int .i64 s1) (by exact xr_move rfl e5) rfl rfl rfl ?_
        obtain ⟨g10, h⟩ := gs h
        refine ol_val (v := .pointer (some ⟨(sb V0_0), so V0_0 + Int.toNat s1 * 1, none⟩)) (by exact xr_indexR (K := (kI .i64)) (v := V0_0) rfl Try.underlying45 sz3 rfl (R0_0.gr fB) rfl g10.1 g10.2) rfl rfl rfl ?_
        refine ol_val (v := .int .i64 (ix a0 s1)) (by exact xr_load1 (v := .int .i64 (ix a0 s1)) rfl ag3 rfl ((R0_0.gr fB).elem g10.1 g10.2)) rfl rfl rfl ?_
        refine ol_val (v := .int .i64 a1) (by exact xr_move rfl e1) rfl rfl rfl ?_
        refine ol_val (v := .bool (decide ((ix a0 s1) = a1))) (by exact xr_eqI rfl Try.underlying3 rfl rfl rfl) rfl rfl rfl ?_
        refine ol_nil ?_
        rcases is h with ⟨c11, h⟩ | ⟨c11, h⟩
        · refine cw_condT rfl c11 ?_
          refine cw_seq ?_
          refine cw_region ?_
          refine ol_val (v := .bool true) (by exact xr_assign rfl rfl) rfl rfl rfl ?_
          refine ol_nil ?_
          refine cw_ret ?_
          repeat (first | with_reducible refine thn_r ?_ | with_reducible refine blk_r ?_)
          obtain rfl := Option.some.inj h
          refine lp_ret ?_
          rintro rfl
          repeat (first | with_reducible refine thn_r ?_ | with_reducible refine blk_r ?_)
          have h := h4
          obtain rfl := Option.some.inj h
          refine fin_ret1 Try.results63 rfl ?_
          exact ⟨_, rfl, rfl, fB⟩
        · refine cw_condF rfl c11 ?_
          refine cw_skip ?_
          refine blk_i ?_
          refine cw_region ?_
          refine ol_val (v := .int .i64 s1) (by exact xr_move rfl e5) rfl rfl rfl ?_
          refine ol_val (v := .int .i64 (IntKind.i64.wrap (s1 + 1))) (by exact xr_add rfl rfl rfl) rfl rfl rfl ?_
          refine ol_val (v := .int .i64 (IntKind.i64.wrap (s1 + 1))) (by exact xr_assign rfl rfl) rfl rfl rfl ?_
          refine ol_nil ?_
          obtain rfl := Option.some.inj h
          refine lp_in ?_
          exact ⟨e0, e1, rfl, fB⟩
      · refine cw_condF rfl c9 ?_
        refine cw_exit ?_
        repeat (first | with_reducible refine thn_e ?_ | with_reducible refine blk_e rfl ?_)
        obtain rfl := Option.some.inj h
        refine lp_exit ?_
        rintro rfl
        refine thn_x ?_
        exact ⟨_, rfl, fB⟩
  · rintro ρ12 w13 ⟨x5, rfl, fB⟩
    have h := h4
    refine cw_seq ?_
    refine cw_region ?_
    refine ol_val (v := .bool false) (by exact xr_assign rfl rfl) rfl rfl rfl ?_
    refine ol_nil ?_
    refine cw_ret ?_
    repeat (first | with_reducible refine thn_r ?_ | with_reducible refine blk_r ?_)
    obtain rfl := Option.some.inj h
    refine fin_ret1 Try.results63 rfl ?_
    exact ⟨_, rfl, rfl, fB⟩
end Go.Proofs.Ytjhajfkfhdnciaa

/- rickyard/rickyardref01.Ints: its model, and that the Go function computes it: written by gen.py. -/
set_option linter.unusedVariables false
namespace Go.Proofs.Ytjhajfkfhdnciaa
open Go Go.Xw
def rickyardref01_Ints.s0 (fu : Nat) (a0 : List Int) (a1 : List Int) : Int → Option (Sum (Sum Bool Unit) Int) := fun s2 => (if (decide (s2 < (List.length a0 : Int))) = true then (if 0 ≤ s2 ∧ s2 < (List.length a0 : Int) then (if 0 ≤ s2 ∧ s2 < (List.length a1 : Int) then (if (!decide ((ix a0 s2) = (ix a1 s2))) = true then some (Sum.inl (Sum.inl (false))) else some (Sum.inr ((IntKind.i64.wrap (s2 + 1))))) else none) else none) else some (Sum.inl (Sum.inr ())))
def rickyardref01_Ints.f (fu : Nat) (a0 : List Int) (a1 : List Int) : Option Bool := (if (!decide ((List.length a0 : Int) = (List.length a1 : Int))) = true then some (false) else ((loopM (rickyardref01_Ints.s0 fu a0 a1) fu (0)).bind fun e3 => match e3 with | Sum.inl p => some p | Sum.inr x6 => some (true)))
set_option maxRecDepth 100000 in
set_option maxHeartbeats 400000 in
theorem rickyardref01_Ints.ok (fu : Nat) (w : World) (a0 : List Int) (V0_0 : Value) (R0_0 : Rd (kI .i64) w V0_0 a0) (a1 : List Int) (V1_0 : Value) (R1_0 : Rd (kI .i64) w V1_0 a1) (r : Bool) (h : rickyardref01_Ints.f fu a0 a1 = some r) :
    Calls Try.prog 66 (([V0_0, V1_0] : List Value).toArray) w (fun e w' => ∃ v, e = .returned v ∧ v = .bool r ∧ Gr w w') := by
  unfold rickyardref01_Ints.f at h
  have fB : Gr w w := Fr.refl _ _
  refine calls_cw Try.func66 rfl Try.ntmps66 rfl ?_
  refine cw_seq ?_
  refine cw_region ?_
  refine ol_val (v := .bool false) (by exact xr_assign rfl rfl) rfl rfl rfl ?_
  refine ol_nil ?_
  refine cw_seq ?_
  refine cw_seq ?_
  refine cw_region ?_
  refine ol_val (v := V0_0) (by exact xr_move rfl rfl) rfl rfl rfl ?_
  refine ol_val (v := .int .i64 (List.length a0 : Int)) (by exact xr_lenR rfl Try.underlying45 rfl (R0_0.gr fB)) rfl rfl rfl ?_
  refine ol_val (v := V1_0) (by exact xr_move rfl rfl) rfl rfl rfl ?_
  refine ol_val (v := .int .i64 (List.length a1 : Int)) (by exact xr_lenR rfl Try.underlying45 rfl (R1_0.gr fB)) rfl rfl rfl ?_
  refine ol_val (v := .bool (!decide ((List.length a0 : Int) = (List.length a1 : Int)))) (by exact xr_neI rfl Try.underlying3 rfl rfl rfl) rfl rfl rfl ?_
  refine ol_nil ?_
  rcases is h with ⟨c1, h⟩ | ⟨c1, h⟩
  · refine cw_condT rfl c1 ?_
    refine cw_seq ?_
    refine cw_region ?_
    refine ol_val (v := .bool false) (by exact xr_assign rfl rfl) rfl rfl rfl ?_
    refine ol_nil ?_
    refine cw_ret ?_
    repeat (first | with_reducible refine thn_r ?_ | with_reducible refine blk_r ?_)
    obtain rfl := Option.some.inj h
    refine fin_ret1 Try.results66 rfl ?_
    exact ⟨_, rfl, rfl, fB⟩
  · refine cw_condF rfl c1 ?_
    refine cw_skip ?_
    refine cw_seq ?_
    refine cw_seq ?_
    refine cw_region ?_
    refine ol_val (v := .int .i64 0) (by exact xr_assign rfl rfl) rfl rfl rfl ?_
    refine ol_nil ?_
    obtain ⟨e3, l4, h5⟩ := bs h
    refine cw_mid (fun ρ' w' => ∃ x6, e3 = Sum.inr x6 ∧ Gr w w') ?_ ?_
    · refine cw_block ?_
      refine cw_round (fun (s2 : Int) ρ' w' => ρ' 0 = V0_0 ∧ ρ' 1 = V1_0 ∧ ρ' 5 = .int .i64 s2 ∧ Gr w w') l4 ?_ ?_
      · skip
        exact ⟨rfl, rfl, rfl, fB⟩
      · rintro s2 x9 ρ7 w8 ⟨e0, e1, e5, fB⟩ h
        unfold rickyardref01_Ints.s0 at h
        refine cw_seq ?_
        refine cw_seq ?_
        refine cw_region ?_
        refine ol_val (v := .int .i64 s2) (by exact xr_move rfl e5) rfl rfl rfl ?_
        refine ol_val (v := V0_0) (by exact xr_move rfl e0) rfl rfl rfl ?_
        refine ol_val (v := .int .i64 (List.length a0 : Int)) (by exact xr_lenR rfl Try.underlying45 rfl (R0_0.gr fB)) rfl rfl rfl ?_
        refine ol_val (v := .bool (decide (s2 < (List.length a0 : Int)))) (by exact xr_lss rfl rfl rfl) rfl rfl rfl ?_
        refine ol_nil ?_
        rcases is h with ⟨c10, h⟩ | ⟨c10, h⟩
        · refine cw_condT rfl c10 ?_
          refine cw_skip ?_
          refine cw_seq ?_
          refine cw_block ?_
          refine cw_seq ?_
          obtain ⟨g11, h⟩ := gs h
          obtain ⟨g12, h⟩ := gs h
          refine cw_drawL 8 [fun vz wz => vz = (V0_0 : Value), fun vz wz => vz = (.int .i64 s2 : Value), fun vz wz => vz = (.pointer (some ⟨(sb V0_0), so V0_0 + Int.toNat s2 * 1, none⟩) : Value), fun vz wz => vz = (.int .i64 (ix a0 s2) : Value), fun vz wz => vz = (V1_0 : Value), fun vz wz => vz = (.int .i64 s2 : Value), fun vz wz => vz = (.pointer (some ⟨(sb V1_0), so V1_0 + Int.toNat s2 * 1, none⟩) : Value), fun vz wz => vz = (.int .i64 (ix a1 s2) : Value)] mo rfl ⟨fun _ _ _ h _ => h, fun _ _ _ h _ => h, fun _ _ _ h _ => h, fun _ _ _ h _ => h, fun _ _ _ h _ => h, fun _ _ _ h _ => h, fun _ _ _ h _ => h, fun _ _ _ h _ => h, trivial⟩ ?_ ?_
          · refine ⟨?_, ?_, ?_, ?_, ?_, ?_, ?_, ?_, trivial⟩
            · intro ρz wz hz hk hd
              exact sk_val (v := V0_0) (by exact xr_move rfl ((hk 0 rfl).trans e0)) rfl rfl
            · intro ρz wz hz hk hd
              exact sk_val (v := .int .i64 s2) (by exact xr_move rfl ((hk 5 rfl).trans e5)) rfl rfl
            · intro ρz wz hz hk hd
              have d17 := hd 0 rfl 17 rfl
              have d18 := hd 1 rfl 18 rfl
              exact sk_val (by exact xr_indexR (K := (kI .i64)) (v := V0_0) rfl Try.underlying45 sz3 d17 (R0_0.gr (fB.gr hz)) d18 g11.1 g11.2) rfl rfl
            · intro ρz wz hz hk hd
              have d19 := hd 2 rfl 19 rfl
              exact sk_val (v := .int .i64 (ix a0 s2)) (by exact xr_load1 (v := .int .i64 (ix a0 s2)) rfl ag3 d19 ((R0_0.gr (fB.gr hz)).elem g11.1 g11.2)) rfl rfl
            · intro ρz wz hz hk hd
              exact sk_val (v := V1_0) (by exact xr_move rfl ((hk 1 rfl).trans e1)) rfl rfl
            · intro ρz wz hz hk hd
              exact sk_val (v := .int .i64 s2) (by exact xr_move rfl ((hk 5 rfl).trans e5)) rfl rfl
            · intro ρz wz hz hk hd
              have d21 := hd 4 rfl 21 rfl
              have d22 := hd 5 rfl 22 rfl
              exact sk_val (by exact xr_indexR (K := (kI .i64)) (v := V1_0) rfl Try.underlying45 sz3 d21 (R1_0.gr (fB.gr hz)) d22 g12.1 g12.2) rfl rfl
            · intro ρz wz hz hk hd
              have d23 := hd 6 rfl 23 rfl
              exact sk_val (v := .int .i64 (ix a1 s2)) (by exact xr_load1 (v := .int .i64 (ix a1 s2)) rfl ag3 d23 ((R1_0.gr (fB.gr hz)).elem g12.1 g12.2)) rfl rfl
          · intro ρ13 w14 q15 hk hd
            have e0 := (hk 0 rfl).trans e0
            have e1 := (hk 1 rfl).trans e1
            have e5 := (hk 5 rfl).trans e5
            have e20 := hd 3 rfl 20 rfl
            have e24 := hd 7 rfl 24 rfl
            have fB := fB.gr q15
            refine ol_val (v := .bool (!decide ((ix a0 s2) = (ix a1 s2)))) (by exact xr_neI rfl Try.underlying3 rfl e20 e24) rfl rfl rfl ?_
            refine ol_nil ?_
            rcases is h with ⟨c16, h⟩ | ⟨c16, h⟩
            · refine cw_condT rfl c16 ?_
              refine cw_seq ?_
              refine cw_region ?_
              refine ol_val (v := .bool false) (by exact xr_assign rfl rfl) rfl rfl rfl ?_
              refine ol_nil ?_
              refine cw_ret ?_
              repeat (first | with_reducible refine thn_r ?_ | with_reducible refine blk_r ?_)
              obtain rfl := Option.some.inj h
              refine lp_ret ?_
              rintro rfl
              repeat (first | with_reducible refine thn_r ?_ | with_reducible refine blk_r ?_)
              have h := h5
              obtain rfl := Option.some.inj h
              refine fin_ret1 Try.results66 rfl ?_
              exact ⟨_, rfl, rfl, fB⟩
            · refine cw_condF rfl c16 ?_
              refine cw_skip ?_
              refine blk_i ?_
              refine cw_region ?_
              refine ol_val (v := .int .i64 s2) (by exact xr_move rfl e5) rfl rfl rfl ?_
              refine ol_val (v := .int .i64 (IntKind.i64.wrap (s2 + 1))) (by exact xr_add rfl rfl rfl) rfl rfl rfl ?_
              refine ol_val (v := .int .i64 (IntKind.i64.wrap (s2 + 1))) (by exact xr_assign rfl rfl) rfl rfl rfl ?_
              refine ol_nil ?_
              obtain rfl := Option.some.inj h
              refine lp_in ?_
              exact ⟨e0, e1, rfl, fB⟩
        · refine cw_condF rfl c10 ?_
          refine cw_exit ?_
          repeat (first | with_reducible refine thn_e ?_ | with_reducible refine blk_e rfl ?_)
          obtain rfl := Option.some.inj h
          refine lp_exit ?_
          rintro rfl
          refine thn_x ?_
          exact ⟨_, rfl, fB⟩
    · rintro ρ17 w18 ⟨x6, rfl, fB⟩
      have h := h5
      refine cw_seq ?_
      refine cw_region ?_
      refine ol_val (v := .bool true) (by exact xr_assign rfl rfl) rfl rfl rfl ?_
      refine ol_nil ?_
      refine cw_ret ?_
      repeat (first | with_reducible refine thn_r ?_ | with_reducible refine blk_r ?_)
      obtain rfl := Option.some.inj h
      refine fin_ret1 Try.results66 rfl ?_
      exact ⟨_, rfl, rfl, fB⟩
end Go.Proofs.Ytjhajfkfhdnciaa

/- rickyard/chart.List: its model, and that the Go function computes it: written by gen.py. -/
set_option linter.unusedVariables false
namespace Go.Proofs.Ytjhajfkfhdnciaa
open Go Go.Xw
def chart_List.s0 (fu : Nat) (a0 : S_api_Chart) : ((List Int) × Int) → Option (Sum (List Int) ((List Int) × Int)) := fun s10 => (if (decide (s10.2 < 384)) = true then ((chart_Has.f fu a0 (IntKind.i64.wrap ((IntKind.i64.wrap (a0.Place * 384)) + s10.2)) : Option Bool).bind fun t24 => (((if t24 = true then (if List.length s10.1 + List.length [(IntKind.i64.wrap ((IntKind.i64.wrap (a0.Place * 384)) + s10.2))] ≤ LIM then some ((s10.1 ++ [(IntKind.i64.wrap ((IntKind.i64.wrap (a0.Place * 384)) + s10.2))])) else none) else some (s10.1)) : Option (List Int)).bind fun x28 => some (Sum.inr (x28, (IntKind.i64.wrap (s10.2 + 1)))))) else some (Sum.inl (s10.1)))
def chart_List.f (fu : Nat) (a0 : S_api_Chart) : Option (List Int) := ((loopM (chart_List.s0 fu a0) fu ([], 0)).bind fun e11 => some (e11))
set_option maxRecDepth 100000 in
set_option maxHeartbeats 400000 in
theorem chart_List.ok (fu : Nat) (w : World) (a0 : S_api_Chart) (r : (List Int)) (h : chart_List.f fu a0 = some r) :
    Calls Try.prog 67 (([aggV [Seg.cell (.int .i64 a0.Place), Kd.seg (kA 48 (kI .u8)) a0.Bits]] : List Value).toArray) w (fun e w' => ∃ v, e = .returned v ∧ ∃ u1 : Value, ∃ o2 : Own (kI .i64) 3 w' w.heap.size u1 r, v = u1 ∧ Gr w w') := by
  unfold chart_List.f at h
  have fB : Gr w w := Fr.refl _ _
  refine calls_cw Try.func67 rfl Try.ntmps67 rfl ?_
  refine cw_seq ?_
  refine cw_region ?_
  refine ol_op (by exact opv_box (ss := [Seg.cell (.int .i64 a0.Place), Kd.seg (kA 48 (kI .u8)) a0.Bits]) rfl rfl rfl) rfl rfl rfl ?_
  rintro _ w9 ⟨G4, rfl, b5, q6, z7⟩
  have z7 := Nat.le_trans fB.size z7
  have fB := fB.gr q6
  refine ol_val (v := .slice none 0 0) (by exact xr_assign rfl rfl) rfl rfl rfl ?_
  refine ol_nil ?_
  refine cw_seq ?_
  refine cw_region ?_
  refine ol_val (v := .slice none 0 0) (by exact xr_assign rfl rfl) rfl rfl rfl ?_
  refine ol_nil ?_
  refine cw_seq ?_
  refine cw_seq ?_
  refine cw_region ?_
  refine ol_val (v := .int .i64 0) (by exact xr_move rfl rfl) rfl rfl rfl ?_
  refine ol_nil ?_
  obtain ⟨e11, l12, h13⟩ := bs h
  refine cw_mid (fun ρ' w' => ∃ v14 : Value, ∃ o15 : Own (kI .i64) 3 w' w.heap.size v14 e11, ρ' 3 = v14 ∧ Gr w w') ?_ ?_
  · refine cw_block ?_
    refine cw_round (fun (s10 : (List Int) × Int) ρ' w' => ∃ v17 : Value, ∃ o18 : Own (kI .i64) 3 w' w.heap.size v17 s10.1, ρ' 1 = .pointer (some ⟨G4, 0, none⟩) ∧ ρ' 3 = v17 ∧ ρ' 6 = .int .i64 s10.2 ∧ Blk w' G4 81 [Seg.cell (.int .i64 a0.Place), Kd.seg (kA 48 (kI .u8)) a0.Bits] ∧ Gr w w') l12 ?_ ?_
    · skip
      exact ⟨(.slice none 0 0), Own.nil _ _ _ _, rfl, rfl, rfl, b5, fB⟩
    · rintro s10 x22 ρ20 w21 ⟨v17, o18, e1, e3, e6, b5, fB⟩ h
      unfold chart_List.s0 at h
      refine cw_seq ?_
      refine cw_region ?_
      refine ol_val (v := .bool (decide (s10.2 < 384))) (by exact xr_lss rfl e6 rfl) rfl rfl rfl ?_
      refine ol_nil ?_
      refine cw_seq ?_
      rcases is h with ⟨c23, h⟩ | ⟨c23, h⟩
      · refine cw_condT rfl c23 ?_
        refine cw_skip ?_
        refine cw_seq ?_
        refine cw_block ?_
        refine cw_seq ?_
        refine cw_region ?_
        refine ol_val (v := .int .i64 s10.2) (by exact xr_move rfl e6) rfl rfl rfl ?_
        refine ol_val (v := .int .i64 s10.2) (by exact xr_assign rfl rfl) rfl rfl rfl ?_
        refine ol_nil ?_
        refine cw_seq ?_
        refine cw_region ?_
        refine ol_val (v := .pointer (some ⟨G4, 0, none⟩)) (by exact xr_fieldAddr (p := 0) (q := 0) rfl fl81_0 e1) rfl rfl rfl ?_
        refine ol_val (v := .int .i64 a0.Place) (by exact xr_load1 (v := .int .i64 a0.Place) rfl ag3 rfl (b5.seg 0 rfl rfl)) rfl rfl rfl ?_
        refine ol_val (v := .int .i64 (IntKind.i64.wrap (a0.Place * 384))) (by exact xr_mul rfl rfl rfl) rfl rfl rfl ?_
        refine ol_val (v := .int .i64 s10.2) (by exact xr_move rfl rfl) rfl rfl rfl ?_
        refine ol_val (v := .int .i64 (IntKind.i64.wrap ((IntKind.i64.wrap (a0.Place * 384)) + s10.2))) (by exact xr_add rfl rfl rfl) rfl rfl rfl ?_
        refine ol_val (v := .int .i64 (IntKind.i64.wrap ((IntKind.i64.wrap (a0.Place * 384)) + s10.2))) (by exact xr_assign rfl rfl) rfl rfl rfl ?_
        refine ol_nil ?_
        refine cw_seq ?_
        refine cw_region ?_
        refine ol_val (v := aggV [Seg.cell (.int .i64 a0.Place), Kd.seg (kA 48 (kI .u8)) a0.Bits]) (by exact xr_loadS (ss := [Seg.cell (.int .i64 a0.Place), Kd.seg (kA 48 (kI .u8)) a0.Bits]) rfl ag81 sz81 rfl e1 (b5.segs 0 2 rfl)) rfl rfl rfl ?_
        refine ol_val (v := .int .i64 (IntKind.i64.wrap ((IntKind.i64.wrap (a0.Place * 384)) + s10.2))) (by exact xr_move rfl rfl) rfl rfl rfl ?_
        obtain ⟨t24, k25, h⟩ := bs h
        refine ol_op (by exact opv_call rfl cal65 (ac rfl (ac rfl an)) (chart_Has.ok fu _ a0 (IntKind.i64.wrap ((IntKind.i64.wrap (a0.Place * 384)) + s10.2)) _ k25)) rfl rfl rfl ?_
        rintro _ w27 ⟨rfl, q26⟩
        have b5 := b5.gr q26
        have o18 := o18.gr q26
        have fB := fB.gr q26
        refine ol_nil ?_
        obtain ⟨x28, j29, h30⟩ := bs h
        refine cw_mid (fun ρ' w' => ∃ v31 : Value, ∃ o32 : Own (kI .i64) 3 w' w.heap.size v31 x28, ρ' 1 = .pointer (some ⟨G4, 0, none⟩) ∧ ρ' 3 = v31 ∧ ρ' 6 = .int .i64 s10.2 ∧ Blk w' G4 81 [Seg.cell (.int .i64 a0.Place), Kd.seg (kA 48 (kI .u8)) a0.Bits] ∧ Gr w w') ?_ ?_
        · have h := j29
          rcases is h with ⟨c34, h⟩ | ⟨c34, h⟩
          · refine cw_condT rfl c34 ?_
            refine cw_region ?_
            refine ol_val (v := v17) (by exact xr_move rfl e3) rfl rfl rfl ?_
            refine ol_val (v := .int .i64 (IntKind.i64.wrap ((IntKind.i64.wrap (a0.Place * 384)) + s10.2))) (by exact xr_move rfl rfl) rfl rfl rfl ?_
            refine ol_op (by exact opv_buildSlice (K := (kI .i64)) (xs := [(IntKind.i64.wrap ((IntKind.i64.wrap (a0.Place * 384)) + s10.2))]) (vals := [.int .i64 (IntKind.i64.wrap ((IntKind.i64.wrap (a0.Place * 384)) + s10.2))]) rfl Try.underlying45 el3 rfl rfl ⟨rfl, rfl, trivial⟩ rfl rfl rfl fB.size) rfl rfl rfl ?_
            rintro v35 w40 ⟨o37, q36, z38⟩
            have a41 := OffV.new o18 z38
            have b5 := b5.gr q36
            have o18 := o18.gr q36
            have fB := fB.gr q36
            obtain ⟨g46, h⟩ := gs h
            have f48 := off_ty b5 o18 (by decide)
            have f49 := o18.geO
            refine ol_op (by exact opv_append (K := (kI .i64)) rfl Try.underlying45 el3 rfl rfl rfl rfl rfl o18 o37.rd g46 fB.size) rfl rfl rfl ?_
            rintro v42 w50 ⟨o43, q44, n45⟩
            have b5 := b5.wrO q44 f48
            have fB := fB.wrO q44 f49
            refine ol_val (v := v42) (by exact xr_assign rfl rfl) rfl rfl rfl ?_
            refine ol_nil ?_
            obtain rfl := Option.some.inj h
            refine thn_i ?_
            exact ⟨v42, o43, e1, rfl, e6, b5, fB⟩
          · refine cw_condF rfl c34 ?_
            refine cw_skip ?_
            obtain rfl := Option.some.inj h
            refine thn_i ?_
            exact ⟨v17, o18, e1, e3, e6, b5, fB⟩
        · rintro ρ51 w52 ⟨v31, o32, e1, e3, e6, b5, fB⟩
          have h := h30
          refine blk_i ?_
          refine cw_region ?_
          refine ol_val (v := .int .i64 (IntKind.i64.wrap (s10.2 + 1))) (by exact xr_add rfl e6 rfl) rfl rfl rfl ?_
          refine ol_val (v := .int .i64 (IntKind.i64.wrap (s10.2 + 1))) (by exact xr_move rfl rfl) rfl rfl rfl ?_
          refine ol_nil ?_
          obtain rfl := Option.some.inj h
          refine lp_in ?_
          exact ⟨v31, o32, e1, e3, rfl, b5, fB⟩
      · refine cw_condF rfl c23 ?_
        refine cw_exit ?_
        repeat (first | with_reducible refine thn_e ?_ | with_reducible refine blk_e rfl ?_)
        obtain rfl := Option.some.inj h
        refine lp_exit ?_
        rintro rfl
        refine thn_x ?_
        exact ⟨v17, o18, e3, fB⟩
  · rintro ρ53 w54 ⟨v14, o15, e3, fB⟩
    have h := h13
    refine cw_seq ?_
    refine cw_region ?_
    refine ol_val (v := v14) (by exact xr_move rfl e3) rfl rfl rfl ?_
    refine ol_val (v := v14) (by exact xr_assign rfl rfl) rfl rfl rfl ?_
    refine ol_nil ?_
    refine cw_ret ?_
    repeat (first | with_reducible refine thn_r ?_ | with_reducible refine blk_r ?_)
    obtain rfl := Option.some.inj h
    refine fin_ret1 Try.results67 rfl ?_
    exact ⟨_, rfl, v14, o15, rfl, fB⟩
end Go.Proofs.Ytjhajfkfhdnciaa

/- rickyard/rickyardlaw10.ChartTells: its model, and that the Go function computes it: written by gen.py. -/
set_option linter.unusedVariables false
namespace Go.Proofs.Ytjhajfkfhdnciaa
open Go Go.Xw
def rickyardlaw10_ChartTells.f (fu : Nat) (a0 : S_api_Chart) (a1 : Int) : Option Bool := ((rickyardlaw10_awake.f fu : Option Bool).bind fun t7 => (if (!t7) = true then some (false) else ((rickyardref10_List.f fu a0 : Option (List Int)).bind fun t12 => ((rickyardref10_Right.f fu a0 : Option Bool).bind fun t19 => (((if t19 = true then ((rickyardref01_Rest.f fu a1 384 : Option Int).bind fun t27 => some ((IntKind.i64.wrap ((IntKind.i64.wrap (384 * a0.Place)) + t27)))) else some (a0.Place)) : Option Int).bind fun x23 => ((((chart_List.f fu a0 : Option (List Int)).bind fun t37 => ((rickyardref01_Ints.f fu t37 t12 : Option Bool).bind fun t45 => (if t45 = true then ((chart_Count.f fu a0 : Option Int).bind fun t50 => (if (decide (t50 = (List.length t12 : Int))) = true then ((chart_Has.f fu a0 a1 : Option Bool).bind fun t55 => ((rickyardref10_Has.f fu t12 a1 : Option Bool).bind fun t59 => (if (decide (t55 = t59)) = true then ((chart_Has.f fu a0 x23 : Option Bool).bind fun t64 => ((rickyardref10_Has.f fu t12 x23 : Option Bool).bind fun t68 => some ((decide (t64 = t68))))) else some (false)))) else some (false))) else some (false)))) : Option Bool).bind fun x35 => some (x35)))))))
set_option maxRecDepth 100000 in
set_option maxHeartbeats 400000 in
theorem rickyardlaw10_ChartTells.ok (fu : Nat) (w : World) (a0 : S_api_Chart) (a1 : Int) (r : Bool) (h : rickyardlaw10_ChartTells.f fu a0 a1 = some r) :
    Calls Try.prog 16 (([aggV [Seg.cell (.int .i64 a0.Place), Kd.seg (kA 48 (kI .u8)) a0.Bits], .int .i64 a1] : List Value).toArray) w (fun e w' => ∃ v, e = .returned v ∧ v = .bool r ∧ Gr w w') := by
  unfold rickyardlaw10_ChartTells.f at h
  have fB : Gr w w := Fr.refl _ _
  refine calls_cw Try.func16 rfl Try.ntmps16 rfl ?_
  refine cw_seq ?_
  refine cw_region ?_
  refine ol_op (by exact opv_box (ss := [Seg.cell (.int .i64 a0.Place), Kd.seg (kA 48 (kI .u8)) a0.Bits]) rfl rfl rfl) rfl rfl rfl ?_
  rintro _ w6 ⟨G1, rfl, b2, q3, z4⟩
  have z4 := Nat.le_trans fB.size z4
  have fB := fB.gr q3
  refine ol_val (v := .bool false) (by exact xr_assign rfl rfl) rfl rfl rfl ?_
  refine ol_nil ?_
  refine cw_seq ?_
  refine cw_seq ?_
  refine cw_region ?_
  obtain ⟨t7, k8, h⟩ := bs h
  refine ol_op (by exact opv_call rfl cal59 an (rickyardlaw10_awake.ok fu _ _ k8)) rfl rfl rfl ?_
  rintro _ w10 ⟨rfl, q9⟩
  have b2 := b2.gr q9
  have fB := fB.gr q9
  refine ol_val (v := .bool (!t7)) (by exact xr_not rfl rfl) rfl rfl rfl ?_
  refine ol_nil ?_
  rcases is h with ⟨c11, h⟩ | ⟨c11, h⟩
  · refine cw_condT rfl c11 ?_
    refine cw_seq ?_
    refine cw_region ?_
    refine ol_val (v := .bool false) (by exact xr_assign rfl rfl) rfl rfl rfl ?_
    refine ol_nil ?_
    refine cw_ret ?_
    repeat (first | with_reducible refine thn_r ?_ | with_reducible refine blk_r ?_)
    obtain rfl := Option.some.inj h
    refine fin_ret1 Try.results16 rfl ?_
    exact ⟨_, rfl, rfl, fB⟩
  · refine cw_condF rfl c11 ?_
    refine cw_skip ?_
    refine cw_seq ?_
    refine cw_region ?_
    refine ol_val (v := aggV [Seg.cell (.int .i64 a0.Place), Kd.seg (kA 48 (kI .u8)) a0.Bits]) (by exact xr_loadS (ss := [Seg.cell (.int .i64 a0.Place), Kd.seg (kA 48 (kI .u8)) a0.Bits]) rfl ag81 sz81 rfl rfl (b2.segs 0 2 rfl)) rfl rfl rfl ?_
    obtain ⟨t12, k13, h⟩ := bs h
    refine ol_op (by exact opv_call rfl cal62 (ac rfl an) (rickyardref10_List.ok fu _ a0 _ k13)) rfl rfl rfl ?_
    rintro u14 w18 ⟨_, o15, rfl, q17⟩
    have o15 := Own.base o15 fB.size
    have b2 := b2.gr q17
    have fB := fB.gr q17
    refine ol_val (v := u14) (by exact xr_assign rfl rfl) rfl rfl rfl ?_
    refine ol_nil ?_
    refine cw_seq ?_
    refine cw_region ?_
    refine ol_val (v := .pointer (some ⟨G1, 0, none⟩)) (by exact xr_fieldAddr (p := 0) (q := 0) rfl fl81_0 rfl) rfl rfl rfl ?_
    refine ol_val (v := .int .i64 a0.Place) (by exact xr_load1 (v := .int .i64 a0.Place) rfl ag3 rfl (b2.seg 0 rfl rfl)) rfl rfl rfl ?_
    refine ol_val (v := .int .i64 a0.Place) (by exact xr_assign rfl rfl) rfl rfl rfl ?_
    refine ol_nil ?_
    refine cw_seq ?_
    refine cw_seq ?_
    refine cw_region ?_
    refine ol_val (v := aggV [Seg.cell (.int .i64 a0.Place), Kd.seg (kA 48 (kI .u8)) a0.Bits]) (by exact xr_loadS (ss := [Seg.cell (.int .i64 a0.Place), Kd.seg (kA 48 (kI .u8)) a0.Bits]) rfl ag81 sz81 rfl rfl (b2.segs 0 2 rfl)) rfl rfl rfl ?_
    obtain ⟨t19, k20, h⟩ := bs h
    refine ol_op (by exact opv_call rfl cal61 (ac rfl an) (rickyardref10_Right.ok fu _ a0 _ k20)) rfl rfl rfl ?_
    rintro _ w22 ⟨rfl, q21⟩
    have b2 := b2.gr q21
    have o15 := o15.gr q21
    have fB := fB.gr q21
    refine ol_nil ?_
    obtain ⟨x23, j24, h25⟩ := bs h
    refine cw_mid (fun ρ' w' => ∃ o15 : Own (kI .i64) 3 w' w.heap.size u14 t12, ρ' 1 = .int .i64 a1 ∧ ρ' 2 = .pointer (some ⟨G1, 0, none⟩) ∧ ρ' 5 = u14 ∧ ρ' 6 = .int .i64 x23 ∧ Blk w' G1 81 [Seg.cell (.int .i64 a0.Place), Kd.seg (kA 48 (kI .u8)) a0.Bits] ∧ Gr w w') ?_ ?_
    · have h := j24
      rcases is h with ⟨c26, h⟩ | ⟨c26, h⟩
      · refine cw_condT rfl c26 ?_
        obtain ⟨t27, k28, h⟩ := bs h
        refine cw_drawL 5 [fun vz wz => vz = (.pointer (some ⟨G1, 0, none⟩) : Value), fun vz wz => vz = (.int .i64 a0.Place : Value), fun vz wz => vz = (.int .i64 (IntKind.i64.wrap (384 * a0.Place)) : Value), fun vz wz => vz = (.int .i64 a1 : Value), fun vz wz => vz = (.int .i64 t27 : Value)] mo rfl ⟨fun _ _ _ h _ => h, fun _ _ _ h _ => h, fun _ _ _ h _ => h, fun _ _ _ h _ => h, fun _ _ _ h _ => h, trivial⟩ ?_ ?_
        · refine ⟨?_, ?_, ?_, ?_, ?_, trivial⟩
          · intro ρz wz hz hk hd
            exact sk_val (v := .pointer (some ⟨G1, 0, none⟩)) (by exact xr_fieldAddr (p := 0) (q := 0) rfl fl81_0 ((hk 2 rfl).trans rfl)) rfl rfl
          · intro ρz wz hz hk hd
            have d15 := hd 0 rfl 15 rfl
            exact sk_val (v := .int .i64 a0.Place) (by exact xr_load1 (v := .int .i64 a0.Place) rfl ag3 d15 ((b2.gr hz).seg 0 rfl rfl)) rfl rfl
          · intro ρz wz hz hk hd
            have d16 := hd 1 rfl 16 rfl
            exact sk_val (v := .int .i64 (IntKind.i64.wrap (384 * a0.Place))) (by exact xr_mul rfl rfl d16) rfl rfl
          · intro ρz wz hz hk hd
            exact sk_val (v := .int .i64 a1) (by exact xr_move rfl ((hk 1 rfl).trans rfl)) rfl rfl
          · intro ρz wz hz hk hd
            have d18 := hd 3 rfl 18 rfl
            refine sk_op (by exact opv_call rfl cal34 (ac d18 (ac rfl an)) (rickyardref01_Rest.ok fu _ a1 384 _ k28)) rfl ?_
            rintro _ wy ⟨rfl, q29⟩
            exact ⟨rfl, q29⟩
        · intro ρ30 w31 q32 hk hd
          have e1 := (hk 1 rfl).trans rfl
          have e2 := (hk 2 rfl).trans rfl
          have e5 := (hk 5 rfl).trans rfl
          have e17 := hd 2 rfl 17 rfl
          have e19 := hd 4 rfl 19 rfl
          have b2 := b2.gr q32
          have o15 := o15.gr q32
          have fB := fB.gr q32
          refine ol_val (v := .int .i64 (IntKind.i64.wrap ((IntKind.i64.wrap (384 * a0.Place)) + t27))) (by exact xr_add rfl e17 e19) rfl rfl rfl ?_
          refine ol_val (v := .int .i64 (IntKind.i64.wrap ((IntKind.i64.wrap (384 * a0.Place)) + t27))) (by exact xr_assign rfl rfl) rfl rfl rfl ?_
          refine ol_nil ?_
          obtain rfl := Option.some.inj h
          refine thn_i ?_
          exact ⟨o15, e1, e2, e5, rfl, b2, fB⟩
      · refine cw_condF rfl c26 ?_
        refine cw_skip ?_
        obtain rfl := Option.some.inj h
        refine thn_i ?_
        exact ⟨o15, rfl, rfl, rfl, rfl, b2, fB⟩
    · rintro ρ33 w34 ⟨o15, e1, e2, e5, e6, b2, fB⟩
      have h := h25
      refine cw_seq ?_
      obtain ⟨x35, j36, h⟩ := bs h
      refine cw_mid (fun ρ' w' => ρ' 4 = .bool x35 ∧ Gr w34 w') ?_ ?_
      · skip
        refine cw_region ?_
        refine ol_val (v := aggV [Seg.cell (.int .i64 a0.Place), Kd.seg (kA 48 (kI .u8)) a0.Bits]) (by exact xr_loadS (ss := [Seg.cell (.int .i64 a0.Place), Kd.seg (kA 48 (kI .u8)) a0.Bits]) rfl ag81 sz81 rfl e2 (b2.segs 0 2 rfl)) rfl rfl rfl ?_
        obtain ⟨t37, k38, j36⟩ := bs j36
        refine ol_op (by exact opv_call rfl cal67 (ac rfl an) (chart_List.ok fu _ a0 _ k38)) rfl rfl rfl ?_
        rintro u39 w43 ⟨_, o40, rfl, q42⟩
        have a44 := OffV.call o15 o40
        have o40 := Own.base o40 fB.size
        have b2 := b2.gr q42
        have o15 := o15.gr q42
        have fB := fB.gr q42
        refine ol_val (v := u14) (by exact xr_move rfl e5) rfl rfl rfl ?_
        obtain ⟨t45, k46, j36⟩ := bs j36
        refine ol_op (by exact opv_call rfl cal66 (ac rfl (ac rfl an)) (rickyardref01_Ints.ok fu _ t37 u39 (o40.rd) t12 u14 (o15.rd) _ k46)) rfl rfl rfl ?_
        rintro _ w48 ⟨rfl, q47⟩
        have b2 := b2.gr q47
        have o15 := o15.gr q47
        have fB := fB.gr q47
        refine ol_val (v := .bool t45) (by exact xr_move rfl rfl) rfl rfl rfl ?_
        rcases is j36 with ⟨c49, j36⟩ | ⟨c49, j36⟩
        · skip
          refine ol_gval (v := aggV [Seg.cell (.int .i64 a0.Place), Kd.seg (kA 48 (kI .u8)) a0.Bits]) (by exact xr_loadS (ss := [Seg.cell (.int .i64 a0.Place), Kd.seg (kA 48 (kI .u8)) a0.Bits]) rfl ag81 sz81 rfl e2 (b2.segs 0 2 rfl)) rfl rfl rfl rfl rfl c49 ?_
          obtain ⟨t50, k51, j36⟩ := bs j36
          refine ol_gop (by exact opv_call rfl cal68 (ac rfl an) (chart_Count.ok fu _ a0 _ k51)) rfl rfl rfl rfl rfl c49 ?_
          rintro _ w53 ⟨rfl, q52⟩
          have b2 := b2.gr q52
          have o15 := o15.gr q52
          have fB := fB.gr q52
          refine ol_gval (v := u14) (by exact xr_move rfl e5) rfl rfl rfl rfl rfl c49 ?_
          refine ol_gval (v := .int .i64 (List.length t12 : Int)) (by exact xr_lenR rfl Try.underlying45 rfl o15.rd) rfl rfl rfl rfl rfl c49 ?_
          refine ol_gval (v := .bool (decide (t50 = (List.length t12 : Int)))) (by exact xr_eqI rfl Try.underlying3 rfl rfl rfl) rfl rfl rfl rfl rfl c49 ?_
          refine ol_val (v := .bool (decide (t50 = (List.length t12 : Int)))) (by exact xr_pickT rfl rfl c49 rfl) rfl rfl rfl ?_
          refine ol_val (v := .bool (decide (t50 = (List.length t12 : Int)))) (by exact xr_move rfl rfl) rfl rfl rfl ?_
          rcases is j36 with ⟨c54, j36⟩ | ⟨c54, j36⟩
          · skip
            refine ol_gval (v := aggV [Seg.cell (.int .i64 a0.Place), Kd.seg (kA 48 (kI .u8)) a0.Bits]) (by exact xr_loadS (ss := [Seg.cell (.int .i64 a0.Place), Kd.seg (kA 48 (kI .u8)) a0.Bits]) rfl ag81 sz81 rfl e2 (b2.segs 0 2 rfl)) rfl rfl rfl rfl rfl c54 ?_
            refine ol_gval (v := .int .i64 a1) (by exact xr_move rfl e1) rfl rfl rfl rfl rfl c54 ?_
            obtain ⟨t55, k56, j36⟩ := bs j36
            refine ol_gop (by exact opv_call rfl cal65 (ac rfl (ac rfl an)) (chart_Has.ok fu _ a0 a1 _ k56)) rfl rfl rfl rfl rfl c54 ?_
            rintro _ w58 ⟨rfl, q57⟩
            have b2 := b2.gr q57
            have o15 := o15.gr q57
            have fB := fB.gr q57
            refine ol_gval (v := u14) (by exact xr_move rfl e5) rfl rfl rfl rfl rfl c54 ?_
            refine ol_gval (v := .int .i64 a1) (by exact xr_move rfl e1) rfl rfl rfl rfl rfl c54 ?_
            obtain ⟨t59, k60, j36⟩ := bs j36
            refine ol_gop (by exact opv_call rfl cal63 (ac rfl (ac rfl an)) (rickyardref10_Has.ok fu _ t12 u14 (o15.rd) a1 _ k60)) rfl rfl rfl rfl rfl c54 ?_
            rintro _ w62 ⟨rfl, q61⟩
            have b2 := b2.gr q61
            have o15 := o15.gr q61
            have fB := fB.gr q61
            refine ol_gval (v := .bool (decide (t55 = t59))) (by exact xr_eqB rfl Try.underlying4 rfl rfl) rfl rfl rfl rfl rfl c54 ?_
            refine ol_val (v := .bool (decide (t55 = t59))) (by exact xr_pickT rfl rfl c54 rfl) rfl rfl rfl ?_
            refine ol_val (v := .bool (decide (t55 = t59))) (by exact xr_move rfl rfl) rfl rfl rfl ?_
            rcases is j36 with ⟨c63, j36⟩ | ⟨c63, j36⟩
            · skip
              refine ol_gval (v := aggV [Seg.cell (.int .i64 a0.Place), Kd.seg (kA 48 (kI .u8)) a0.Bits]) (by exact xr_loadS (ss := [Seg.cell (.int .i64 a0.Place), Kd.seg (kA 48 (kI .u8)) a0.Bits]) rfl ag81 sz81 rfl e2 (b2.segs 0 2 rfl)) rfl rfl rfl rfl rfl c63 ?_
              refine ol_gval (v := .int .i64 x23) (by exact xr_move rfl e6) rfl rfl rfl rfl rfl c63 ?_
              obtain ⟨t64, k65, j36⟩ := bs j36
              refine ol_gop (by exact opv_call rfl cal65 (ac rfl (ac rfl an)) (chart_Has.ok fu _ a0 x23 _ k65)) rfl rfl rfl rfl rfl c63 ?_
              rintro _ w67 ⟨rfl, q66⟩
              have o15 := o15.gr q66
              have fB := fB.gr q66
              refine ol_gval (v := u14) (by exact xr_move rfl e5) rfl rfl rfl rfl rfl c63 ?_
              refine ol_gval (v := .int .i64 x23) (by exact xr_move rfl e6) rfl rfl rfl rfl rfl c63 ?_
              obtain ⟨t68, k69, j36⟩ := bs j36
              refine ol_gop (by exact opv_call rfl cal63 (ac rfl (ac rfl an)) (rickyardref10_Has.ok fu _ t12 u14 (o15.rd) x23 _ k69)) rfl rfl rfl rfl rfl c63 ?_
              rintro _ w71 ⟨rfl, q70⟩
              have fB := fB.gr q70
              refine ol_gval (v := .bool (decide (t64 = t68))) (by exact xr_eqB rfl Try.underlying4 rfl rfl) rfl rfl rfl rfl rfl c63 ?_
              refine ol_val (v := .bool (decide (t64 = t68))) (by exact xr_pickT rfl rfl c63 rfl) rfl rfl rfl ?_
              refine ol_val (v := .bool (decide (t64 = t68))) (by exact xr_assign rfl rfl) rfl rfl rfl ?_
              refine ol_nil ?_
              obtain rfl := Option.some.inj j36
              refine thn_i ?_
              exact ⟨rfl, ((((((q42.gr q47).gr q52).gr q57).gr q61).gr q66).gr q70)⟩
            · skip
              refine ol_gskip rfl rfl rfl rfl rfl c63 ?_
              refine ol_gskip rfl rfl rfl rfl rfl c63 ?_
              refine ol_gskip rfl rfl rfl rfl rfl c63 ?_
              refine ol_gskip rfl rfl rfl rfl rfl c63 ?_
              refine ol_gskip rfl rfl rfl rfl rfl c63 ?_
              refine ol_gskip rfl rfl rfl rfl rfl c63 ?_
              refine ol_gskip rfl rfl rfl rfl rfl c63 ?_
              refine ol_val (v := .bool false) (by exact xr_pickF rfl rfl c63 rfl) rfl rfl rfl ?_
              refine ol_val (v := .bool false) (by exact xr_assign rfl rfl) rfl rfl rfl ?_
              refine ol_nil ?_
              obtain rfl := Option.some.inj j36
              refine thn_i ?_
              exact ⟨rfl, ((((q42.gr q47).gr q52).gr q57).gr q61)⟩
          · skip
            refine ol_gskip rfl rfl rfl rfl rfl c54 ?_
            refine ol_gskip rfl rfl rfl rfl rfl c54 ?_
            refine ol_gskip rfl rfl rfl rfl rfl c54 ?_
            refine ol_gskip rfl rfl rfl rfl rfl c54 ?_
            refine ol_gskip rfl rfl rfl rfl rfl c54 ?_
            refine ol_gskip rfl rfl rfl rfl rfl c54 ?_
            refine ol_gskip rfl rfl rfl rfl rfl c54 ?_
            refine ol_val (v := .bool false) (by exact xr_pickF rfl rfl c54 rfl) rfl rfl rfl ?_
            refine ol_val (v := .bool false) (by exact xr_move rfl rfl) rfl rfl rfl ?_
            refine ol_gskip rfl rfl rfl rfl rfl rfl ?_
            refine ol_gskip rfl rfl rfl rfl rfl rfl ?_
            refine ol_gskip rfl rfl rfl rfl rfl rfl ?_
            refine ol_gskip rfl rfl rfl rfl rfl rfl ?_
            refine ol_gskip rfl rfl rfl rfl rfl rfl ?_
            refine ol_gskip rfl rfl rfl rfl rfl rfl ?_
            refine ol_gskip rfl rfl rfl rfl rfl rfl ?_
            refine ol_val (v := .bool false) (by exact xr_pickF rfl rfl rfl rfl) rfl rfl rfl ?_
            refine ol_val (v := .bool false) (by exact xr_assign rfl rfl) rfl rfl rfl ?_
            refine ol_nil ?_
            obtain rfl := Option.some.inj j36
            refine thn_i ?_
            exact ⟨rfl, ((q42.gr q47).gr q52)⟩
        · skip
          refine ol_gskip rfl rfl rfl rfl rfl c49 ?_
          refine ol_gskip rfl rfl rfl rfl rfl c49 ?_
          refine ol_gskip rfl rfl rfl rfl rfl c49 ?_
          refine ol_gskip rfl rfl rfl rfl rfl c49 ?_
          refine ol_gskip rfl rfl rfl rfl rfl c49 ?_
          refine ol_val (v := .bool false) (by exact xr_pickF rfl rfl c49 rfl) rfl rfl rfl ?_
          refine ol_val (v := .bool false) (by exact xr_move rfl rfl) rfl rfl rfl ?_
          refine ol_gskip rfl rfl rfl rfl rfl rfl ?_
          refine ol_gskip rfl rfl rfl rfl rfl rfl ?_
          refine ol_gskip rfl rfl rfl rfl rfl rfl ?_
          refine ol_gskip rfl rfl rfl rfl rfl rfl ?_
          refine ol_gskip rfl rfl rfl rfl rfl rfl ?_
          refine ol_gskip rfl rfl rfl rfl rfl rfl ?_
          refine ol_gskip rfl rfl rfl rfl rfl rfl ?_
          refine ol_val (v := .bool false) (by exact xr_pickF rfl rfl rfl rfl) rfl rfl rfl ?_
          refine ol_val (v := .bool false) (by exact xr_move rfl rfl) rfl rfl rfl ?_
          refine ol_gskip rfl rfl rfl rfl rfl rfl ?_
          refine ol_gskip rfl rfl rfl rfl rfl rfl ?_
          refine ol_gskip rfl rfl rfl rfl rfl rfl ?_
          refine ol_gskip rfl rfl rfl rfl rfl rfl ?_
          refine ol_gskip rfl rfl rfl rfl rfl rfl ?_
          refine ol_gskip rfl rfl rfl rfl rfl rfl ?_
          refine ol_gskip rfl rfl rfl rfl rfl rfl ?_
          refine ol_val (v := .bool false) (by exact xr_pickF rfl rfl rfl rfl) rfl rfl rfl ?_
          refine ol_val (v := .bool false) (by exact xr_assign rfl rfl) rfl rfl rfl ?_
          refine ol_nil ?_
          obtain rfl := Option.some.inj j36
          refine thn_i ?_
          exact ⟨rfl, (q42.gr q47)⟩
      · skip
        rintro ρ72 w73 ⟨e4, q74⟩
        have fB := fB.gr q74
        refine cw_ret ?_
        repeat (first | with_reducible refine thn_r ?_ | with_reducible refine blk_r ?_)
        obtain rfl := Option.some.inj h
        refine fin_ret1 Try.results16 e4 ?_
        exact ⟨_, rfl, rfl, fB⟩
end Go.Proofs.Ytjhajfkfhdnciaa

/- The functions on charts in plain words: which blocks a chart marks, as the program and the document tell it. -/
set_option linter.unusedVariables false
set_option linter.unusedSimpArgs false
namespace Go.Proofs.Ytjhajfkfhdnciaa.Pure
open Go Go.Xw
def RightC (c : S_api_Chart) : Prop := 0 ≤ c.Place ∧ c.Place < 8
instance (c : S_api_Chart) : Decidable (RightC c) := inferInstanceAs (Decidable (_ ∧ _))
def bitc (c : S_api_Chart) (m : Nat) : Bool := decide (Arr.get c.Bits ((m / 8 : Nat) : Int) / 2 ^ (m % 8) % 2 = 1)
theorem bits_ok {c : S_api_Chart} (h : ok_api_Chart c) (i : Nat) (hi : i < 48) : 0 ≤ Arr.get c.Bits (i : Int) ∧ Arr.get c.Bits (i : Int) ≤ 255 := by
  have hl : i < c.Bits.l.length := by rw [c.Bits.h]; exact hi
  have e : Arr.get c.Bits (i : Int) = c.Bits.l[i] := by
    simp [Arr.get, ix, List.getD_eq_getElem?_getD, List.getElem?_eq_getElem hl]
  rw [e]
  exact wf8.1 (h.2 _ (List.getElem_mem hl))
theorem mask_bit : ∀ (x : Fin 256) (j : Fin 8), (!decide (bAnd .u8 ((x : Nat) : Int) (shL .u8 1 ((j : Nat) : Int)) = 0)) = decide (((x : Nat) : Int) / 2 ^ (j : Nat) % 2 = 1) := by decide +kernel
theorem mask_bit' {x : Int} (h0 : 0 ≤ x) (h1 : x ≤ 255) {j : Int} (j0 : 0 ≤ j) (j1 : j < 8) : (!decide (bAnd .u8 x (shL .u8 1 j) = 0)) = decide (x / 2 ^ j.toNat % 2 = 1) := by
  have := mask_bit ⟨x.toNat, by omega⟩ ⟨j.toNat, by omega⟩
  simp only [Int.toNat_of_nonneg h0, Int.toNat_of_nonneg j0] at this
  exact this
theorem right_eq (fu : Nat) (c : S_api_Chart) : chart_right.f fu c = some (decide (RightC c)) := by
  unfold chart_right.f RightC
  by_cases h : 0 ≤ c.Place <;> simp [h]
theorem rright_eq (fu : Nat) (c : S_api_Chart) : rickyardref10_Right.f fu c = some (decide (RightC c)) := by
  unfold rickyardref10_Right.f RightC
  by_cases h : 0 ≤ c.Place
  · simp [h]
    omega
  · simp [h]
theorem bit_no {fu : Nat} {c : S_api_Chart} {a : Int} (h : ¬ (RightC c ∧ 0 ≤ a ∧ a / 384 = c.Place)) (hb : -9223372036854775808 ≤ a ∧ a ≤ 9223372036854775807 ∨ ¬ RightC c) : chart_bit.f fu c a = some (0, 0, false) := by
  unfold chart_bit.f
  rw [right_eq]
  by_cases hr : RightC c
  · rcases hb with hb | hb
    · by_cases h0 : a < 0
      · simp [hr, h0]
      · have e1 : Int.tdiv a 384 = a / 384 := Int.tdiv_eq_ediv_of_nonneg (by omega)
        have e2 : IntKind.i64.wrap (a / 384) = a / 384 := w64 (by omega) (by omega)
        have e3 : ¬ (a / 384 = c.Place) := fun e => h ⟨hr, by omega, e⟩
        simp [hr, h0, e1, e2, e3]
    · exact absurd hr hb
  · simp [hr]
theorem bit_yes {fu : Nat} {c : S_api_Chart} {a : Int} (hr : RightC c) (h0 : 0 ≤ a) (he : a / 384 = c.Place) : chart_bit.f fu c a = some (a % 384 / 8, shL .u8 1 (a % 384 % 8), true) := by
  unfold chart_bit.f
  rw [right_eq]
  have hr' := hr
  unfold RightC at hr'
  have e1 : Int.tdiv a 384 = a / 384 := Int.tdiv_eq_ediv_of_nonneg (by omega)
  have e2 : IntKind.i64.wrap (a / 384) = a / 384 := w64 (by omega) (by omega)
  have e3 : Int.tmod a 384 = a % 384 := Int.tmod_eq_emod_of_nonneg (by omega)
  have e4 : Int.tmod (a % 384) 8 = a % 384 % 8 := Int.tmod_eq_emod_of_nonneg (by omega)
  have e5 : Int.tdiv (a % 384) 8 = a % 384 / 8 := Int.tdiv_eq_ediv_of_nonneg (by omega)
  have e6 : IntKind.i64.wrap (a % 384 / 8) = a % 384 / 8 := w64 (by omega) (by omega)
  have h1 : ¬ (a < 0) := by omega
  have h2 : 0 ≤ a % 384 % 8 := by omega
  have e7 : IntKind.i64.wrap c.Place = c.Place := w64 (by omega) (by omega)
  simp only [hr, e1, e2, e3, e4, e5, e6, h1, h2, he, e7]
  simp
theorem has_no {fu : Nat} {c : S_api_Chart} {a : Int} (h : ¬ (RightC c ∧ 0 ≤ a ∧ a / 384 = c.Place)) (hb : -9223372036854775808 ≤ a ∧ a ≤ 9223372036854775807 ∨ ¬ RightC c) : chart_Has.f fu c a = some false := by
  unfold chart_Has.f
  rw [bit_no h hb]
  rfl
theorem has_yes {fu : Nat} {c : S_api_Chart} {a : Int} (hc : ok_api_Chart c) (hr : RightC c) (h0 : 0 ≤ a) (he : a / 384 = c.Place) : chart_Has.f fu c a = some (bitc c (a % 384).toNat) := by
  unfold chart_Has.f
  rw [bit_yes hr h0 he]
  have hi : 0 ≤ a % 384 / 8 ∧ a % 384 / 8 < 48 := by omega
  obtain ⟨i, hi'⟩ : ∃ i : Nat, a % 384 / 8 = (i : Int) := ⟨(a % 384 / 8).toNat, by omega⟩
  have hb := bits_ok hc i (by omega)
  have hm := mask_bit' hb.1 hb.2 (j := a % 384 % 8) (by omega) (by omega)
  have e1 : (a % 384).toNat / 8 = i := by omega
  have e2 : (a % 384).toNat % 8 = (a % 384 % 8).toNat := by omega
  have hi2 : (i : Int) < 48 := by omega
  simp only [hi', Option.bind_some, if_true, bitc, e1, e2]
  rw [if_pos ⟨by omega, hi2⟩, hm]
  rfl
def acc (c : S_api_Chart) (m : Nat) : List Int := ((List.range m).filter (bitc c)).map fun k : Nat => 384 * c.Place + (k : Int)
theorem acc_succ (c : S_api_Chart) (m : Nat) : acc c (m + 1) = acc c m ++ (if bitc c m = true then [384 * c.Place + (m : Int)] else []) := by
  unfold acc
  rw [List.range_succ, List.filter_append, List.map_append]
  by_cases h : bitc c m <;> simp [h]
theorem acc_len (c : S_api_Chart) (m : Nat) : (acc c m).length ≤ m := by
  unfold acc
  rw [List.length_map]
  exact Nat.le_trans (List.length_filter_le _ _) (by simp)
theorem mem_acc {c : S_api_Chart} (hr : RightC c) {a : Int} : a ∈ acc c 384 ↔ (0 ≤ a ∧ a / 384 = c.Place) ∧ bitc c (a % 384).toNat = true := by
  unfold RightC at hr
  unfold acc
  simp only [List.mem_map, List.mem_filter, List.mem_range]
  constructor
  · rintro ⟨k, ⟨hk, hb⟩, rfl⟩
    refine ⟨by omega, ?_⟩
    rwa [show ((384 * c.Place + (k : Int)) % 384).toNat = k from by omega]
  · rintro ⟨⟨h0, h1⟩, hb⟩
    exact ⟨(a % 384).toNat, ⟨by omega, hb⟩, by omega⟩
def listC (c : S_api_Chart) : List Int := if RightC c then acc c 384 else []
theorem lim_ok {n : Nat} (h : n ≤ 400) : n + 1 ≤ LIM := by
  have : (401 : Nat) ≤ LIM := by decide
  omega
theorem list_eq {fu : Nat} {c : S_api_Chart} (hc : ok_api_Chart c) (hf : 384 < fu) : chart_List.f fu c = some (listC c) := by
  unfold chart_List.f listC
  by_cases hr : RightC c
  · have hr' := hr
    unfold RightC at hr'
    have inner : loopM (chart_List.s0 fu c) fu ([], 0) = some (acc c 384) := by
     refine loopM_run (S := fun i => (acc c i, (i : Int))) 384 (by simp [acc]) ?_ ?_ hf
     · intro j hj
       unfold chart_List.s0
       have h1 : (j : Int) < 384 := by omega
       have w1 : IntKind.i64.wrap (c.Place * 384) = c.Place * 384 := w64 (by omega) (by omega)
       have w2 : IntKind.i64.wrap (c.Place * 384 + (j : Int)) = c.Place * 384 + (j : Int) := w64 (by omega) (by omega)
       have w3 : IntKind.i64.wrap ((j : Int) + 1) = ((j + 1 : Nat) : Int) := by rw [w64 (by omega) (by omega)]; omega
       have hh : chart_Has.f fu c (c.Place * 384 + (j : Int)) = some (bitc c j) := by
         rw [has_yes hc hr (by omega) (by omega)]
         rw [show ((c.Place * 384 + (j : Int)) % 384).toNat = j from by omega]
       have hlim : (acc c j).length + 1 ≤ LIM := lim_ok (by have := acc_len c j; omega)
       have hcm : c.Place * 384 = 384 * c.Place := Int.mul_comm _ _
       simp only [h1, w1, w2, w3, hh, acc_succ]
       cases hb : bitc c j
       · simp
       · simp only [hcm]
         simp [hlim]
     · unfold chart_List.s0
       simp
    simp [hr, inner]
  · have inner : loopM (chart_List.s0 fu c) fu ([], 0) = some ([] : List Int) := by
      refine loopM_run (S := fun i => (([] : List Int), (i : Int))) 384 rfl ?_ ?_ hf
      · intro j hj
        unfold chart_List.s0
        have h1 : (j : Int) < 384 := by omega
        have w3 : IntKind.i64.wrap ((j : Int) + 1) = ((j + 1 : Nat) : Int) := by rw [w64 (by omega) (by omega)]; omega
        simp [h1, w3, has_no (fu := fu) (fun h => hr h.1) (.inr hr)]
      · unfold chart_List.s0
        simp
    simp [hr, inner]
theorem rlist_eq {fu : Nat} {c : S_api_Chart} (hc : ok_api_Chart c) (hf : 384 < fu) : rickyardref10_List.f fu c = some (listC c) := by
  unfold rickyardref10_List.f listC
  by_cases hr : RightC c
  · have hr' := hr
    unfold RightC at hr'
    have inner0 : loopM (rickyardref10_List.s1 fu c) fu ([], 0) = some (acc c 384) := by
     refine loopM_run (S := fun i => (acc c (8 * i), (i : Int))) 48 (by simp [acc]) ?_ ?_ (by omega)
     · intro i hi
       unfold rickyardref10_List.s1
       have h1 : (i : Int) < 48 := by omega
       have w3 : IntKind.i64.wrap ((i : Int) + 1) = ((i + 1 : Nat) : Int) := by rw [w64 (by omega) (by omega)]; omega
       have hb := bits_ok hc i hi
       have w4 : IntKind.i64.wrap (Arr.get c.Bits (i : Int)) = Arr.get c.Bits (i : Int) := w64 (by omega) (by omega)
       have inner : loopM (rickyardref10_List.s2 fu c (acc c (8 * i), (i : Int))) fu (acc c (8 * i), Arr.get c.Bits (i : Int), 0) = some (acc c (8 * i + 8)) := by
         refine loopM_run (S := fun k => (acc c (8 * i + k), Arr.get c.Bits (i : Int) / 2 ^ k, (k : Int))) 8 (by simp) ?_ ?_ (by omega)
         · intro k hk
           unfold rickyardref10_List.s2
           have h2 : (k : Int) < 8 := by omega
           have w5 : IntKind.i64.wrap ((k : Int) + 1) = ((k + 1 : Nat) : Int) := by rw [w64 (by omega) (by omega)]; omega
           have w6 : IntKind.i64.wrap (384 * c.Place) = 384 * c.Place := w64 (by omega) (by omega)
           have w7 : IntKind.i64.wrap (8 * (i : Int)) = 8 * (i : Int) := w64 (by omega) (by omega)
           have w8 : IntKind.i64.wrap (384 * c.Place + 8 * (i : Int)) = 384 * c.Place + 8 * (i : Int) := w64 (by omega) (by omega)
           have w9 : IntKind.i64.wrap (384 * c.Place + 8 * (i : Int) + (k : Int)) = 384 * c.Place + ((8 * i + k : Nat) : Int) := by rw [w64 (by omega) (by omega)]; omega
           have hx0 : 0 ≤ Arr.get c.Bits (i : Int) / 2 ^ k := Int.ediv_nonneg hb.1 (Int.le_of_lt (Int.pow_pos (by decide)))
           have hx1 : Arr.get c.Bits (i : Int) / 2 ^ k ≤ 255 := Int.le_trans (Int.ediv_le_self _ hb.1) hb.2
           have e1 : Int.tmod (Arr.get c.Bits (i : Int) / 2 ^ k) 2 = Arr.get c.Bits (i : Int) / 2 ^ k % 2 := Int.tmod_eq_emod_of_nonneg hx0
           have e2 : Int.tdiv (Arr.get c.Bits (i : Int) / 2 ^ k) 2 = Arr.get c.Bits (i : Int) / 2 ^ (k + 1) := by
             rw [Int.tdiv_eq_ediv_of_nonneg hx0, Int.pow_succ, Int.ediv_ediv_of_nonneg (Int.le_of_lt (Int.pow_pos (by decide)))]
           have hx2 : 0 ≤ Arr.get c.Bits (i : Int) / 2 ^ (k + 1) := Int.ediv_nonneg hb.1 (Int.le_of_lt (Int.pow_pos (by decide)))
           have hx3 : Arr.get c.Bits (i : Int) / 2 ^ (k + 1) ≤ 255 := Int.le_trans (Int.ediv_le_self _ hb.1) hb.2
           have e3 : IntKind.i64.wrap (Arr.get c.Bits (i : Int) / 2 ^ (k + 1)) = Arr.get c.Bits (i : Int) / 2 ^ (k + 1) := w64 (by omega) (by omega)
           have eb : bitc c (8 * i + k) = decide (Arr.get c.Bits (i : Int) / 2 ^ k % 2 = 1) := by
             unfold bitc
             rw [show (8 * i + k) / 8 = i from by omega, show (8 * i + k) % 8 = k from by omega]
           have hlim : (acc c (8 * i + k)).length + 1 ≤ LIM := lim_ok (by have := acc_len c (8 * i + k); omega)
           simp only [h2, w5, w6, w7, w8, w9, e1, e2, e3, show 8 * i + (k + 1) = 8 * i + k + 1 from by omega, acc_succ, eb]
           by_cases hbit : Arr.get c.Bits (i : Int) / 2 ^ k % 2 = 1
           · simp [hbit, hlim]
           · simp [hbit]
         · unfold rickyardref10_List.s2
           simp
       simp only [h1, rright_eq, hr, w3, w4, inner]
       simp [h1, Nat.mul_add]
     · unfold rickyardref10_List.s1
       simp
    simp [hr, inner0]
  · have inner : loopM (rickyardref10_List.s1 fu c) fu ([], 0) = some ([] : List Int) := by
      refine loopM_run (S := fun i => (([] : List Int), (i : Int))) 0 rfl (by intro j hj; omega) ?_ (by omega)
      unfold rickyardref10_List.s1
      simp [rright_eq, hr]
    simp [hr, inner]
theorem ones_tab : ∀ x : Fin 256, bits_OnesCount8.f 0 ((x : Nat) : Int) = some (((List.range 8).filter fun j => decide (((x : Nat) : Int) / 2 ^ j % 2 = 1)).length : Int) := by decide +kernel
theorem ones_eq (fu : Nat) {x : Int} (h0 : 0 ≤ x) (h1 : x ≤ 255) : bits_OnesCount8.f fu x = some (((List.range 8).filter fun j => decide (x / 2 ^ j % 2 = 1)).length : Int) := by
  have := ones_tab ⟨x.toNat, by omega⟩
  simp only [Int.toNat_of_nonneg h0] at this
  exact this
theorem acc_eight (c : S_api_Chart) (i : Nat) : (acc c (8 * i + 8)).length = (acc c (8 * i)).length + ((List.range 8).filter fun j => decide (Arr.get c.Bits (i : Int) / 2 ^ j % 2 = 1)).length := by
  unfold acc
  rw [List.range_add, List.filter_append, List.map_append, List.length_append, List.length_map, List.length_map, List.filter_map, List.length_map]
  congr 2
  apply List.filter_congr
  intro j hj
  have hj8 := List.mem_range.1 hj
  simp only [Function.comp, bitc]
  rw [show (8 * i + j) / 8 = i from by omega, show (8 * i + j) % 8 = j from by omega]
theorem count_eq {fu : Nat} {c : S_api_Chart} (hc : ok_api_Chart c) (hf : 384 < fu) : chart_Count.f fu c = some ((listC c).length : Int) := by
  unfold chart_Count.f listC
  rw [right_eq]
  by_cases hr : RightC c
  · have inner : loopM (chart_Count.s1 fu c) fu (0, 0) = some ((acc c 384).length : Int) := by
      refine loopM_run (S := fun i => (((acc c (8 * i)).length : Int), (i : Int))) 48 (by simp [acc]) ?_ ?_ (by omega)
      · intro i hi
        unfold chart_Count.s1
        have h1 : (i : Int) < 48 := by omega
        have hb := bits_ok hc i hi
        have w3 : IntKind.i64.wrap ((i : Int) + 1) = ((i + 1 : Nat) : Int) := by rw [w64 (by omega) (by omega)]; omega
        have hl := acc_len c (8 * i)
        have hl8 := acc_eight c i
        have hl9 := acc_len c (8 * i + 8)
        have w4 : IntKind.i64.wrap (((acc c (8 * i)).length : Int) + (((List.range 8).filter fun j => decide (Arr.get c.Bits (i : Int) / 2 ^ j % 2 = 1)).length : Int)) = ((acc c (8 * i + 8)).length : Int) := by
          rw [w64 (by omega) (by omega)]
          omega
        simp only [h1, ones_eq fu hb.1 hb.2, w3]
        simp [w4, Nat.mul_add]
      · unfold chart_Count.s1
        simp
    simp only [hr, inner]
    simp
  · simp [hr]
theorem rhas_from {fu : Nat} (l : List Int) (n : Int) (hl : l.length ≤ 9000000000000000000) : ∀ k m, m ≤ l.length → l.length - m < k → loopM (rickyardref10_Has.s0 fu l n) k (m : Int) = some (if n ∈ l.drop m then .inl true else .inr ())
  | 0, m, _, hk => by omega
  | k + 1, m, hm, hk => by
    unfold loopM
    by_cases e : m = l.length
    · subst e
      have : rickyardref10_Has.s0 fu l n (l.length : Int) = some (.inl (.inr ())) := by
        unfold rickyardref10_Has.s0
        simp
      rw [this]
      simp
    · have hlt : m < l.length := by omega
      have hx : ix l (m : Int) = l[m] := by simp [ix, List.getD_eq_getElem?_getD, List.getElem?_eq_getElem hlt]
      rw [List.drop_eq_getElem_cons hlt]
      have h1 : (m : Int) < (l.length : Int) := by omega
      by_cases hn : l[m] = n
      · have : rickyardref10_Has.s0 fu l n (m : Int) = some (.inl (.inl true)) := by
          unfold rickyardref10_Has.s0
          simp [h1, hx, hn, hlt]
        rw [this]
        simp [hn]
      · have w3 : IntKind.i64.wrap ((m : Int) + 1) = ((m + 1 : Nat) : Int) := by rw [w64 (by omega) (by omega)]; omega
        have : rickyardref10_Has.s0 fu l n (m : Int) = some (.inr ((m + 1 : Nat) : Int)) := by
          unfold rickyardref10_Has.s0
          simp [h1, hx, hn, w3, hlt]
        rw [this]
        simp only
        rw [rhas_from l n hl k (m + 1) (by omega) (by omega)]
        have e3 : (n ∈ l[m] :: l.drop (m + 1)) ↔ n ∈ l.drop (m + 1) := by
          rw [List.mem_cons]
          exact ⟨fun h => h.resolve_left (Ne.symm hn), .inr⟩
        simp only [e3]
theorem rhas_eq {fu : Nat} {l : List Int} {n : Int} (hl : l.length ≤ 9000000000000000000) (hf : l.length < fu) : rickyardref10_Has.f fu l n = some (decide (n ∈ l)) := by
  unfold rickyardref10_Has.f
  have := rhas_from (fu := fu) l n hl fu 0 (by omega) (by omega)
  rw [Int.natCast_zero] at this
  rw [this]
  by_cases h : n ∈ l <;> simp [h]
theorem ints_eq {fu : Nat} {l : List Int} (hl : l.length ≤ 9000000000000000000) (hf : l.length < fu) : rickyardref01_Ints.f fu l l = some true := by
  unfold rickyardref01_Ints.f
  have : loopM (rickyardref01_Ints.s0 fu l l) fu 0 = some (.inr ()) := by
    refine loopM_run (S := fun j => (j : Int)) l.length rfl ?_ ?_ hf
    · intro j hj
      unfold rickyardref01_Ints.s0
      have w3 : IntKind.i64.wrap ((j : Int) + 1) = ((j + 1 : Nat) : Int) := by rw [w64 (by omega) (by omega)]; omega
      simp [hj, w3]
    · unfold rickyardref01_Ints.s0
      simp
  simp [this]
theorem rest_eq {fu : Nat} {a : Int} : rickyardref01_Rest.f fu a 384 = some (a % 384) := by
  unfold rickyardref01_Rest.f
  have e : Int.tmod a 384 = a % 384 ∨ Int.tmod a 384 = a % 384 - 384 ∧ a % 384 ≠ 0 := by
    rw [Int.tmod_eq_emod]
    split
    · left
      simp
    · right
      rename_i hd
      exact ⟨rfl, by omega⟩
  have w1 : IntKind.i64.wrap (Int.tmod a 384 + 384) = Int.tmod a 384 + 384 := w64 (by omega) (by omega)
  have e2 : Int.tmod (Int.tmod a 384 + 384) 384 = a % 384 := by
    rw [Int.tmod_eq_emod_of_nonneg (by omega)]
    omega
  simp [w1, e2]
theorem has_eq {fu : Nat} {c : S_api_Chart} {a : Int} (hc : ok_api_Chart c) (ha : -9223372036854775808 ≤ a ∧ a ≤ 9223372036854775807) : chart_Has.f fu c a = some (decide (a ∈ listC c)) := by
  by_cases h : RightC c ∧ 0 ≤ a ∧ a / 384 = c.Place
  · rw [has_yes hc h.1 h.2.1 h.2.2]
    unfold listC
    rw [if_pos h.1]
    have := mem_acc (a := a) h.1
    simp only [h.2.1, h.2.2, and_self, true_and] at this
    simp only [this, Bool.decide_eq_true]
  · rw [has_no h (.inl ha)]
    unfold listC
    by_cases hr : RightC c
    · rw [if_pos hr]
      have : a ∉ acc c 384 := fun hm => h ⟨hr, ((mem_acc hr).1 hm).1⟩
      simp [this]
    · simp [hr]
theorem awake10 : rickyardlaw10_awake.f 400 = some true := by decide +kernel
theorem len_listC (c : S_api_Chart) : (listC c).length ≤ 384 := by
  unfold listC
  split
  · exact acc_len c 384
  · simp
end Go.Proofs.Ytjhajfkfhdnciaa.Pure
