/- PressNil: texts merged, part 4 of 4. The last part proves that the law PressNil holds for every input. -/
import Derived.Test.YtklhbaghbmndeaaPkPressNil3
import Derived.ProofKit
import Derived.OpenShut
import Derived.ChangeOld
import Derived.Below
import Derived.SizedLaws
import Derived.WalkKit
/- rickyard/press.Read: its model, and that the Go function computes it: written by gen.py. -/
set_option linter.unusedVariables false
namespace Go.Proofs.Ytklhbaghbmndeaa
open Go Go.Xw
def press_Read__n0.s0 (fu : Nat) (a1 : Int) : (Int × (Arr 8 Int)) → Option (Sum (Sum ((List Int) × Int) (Arr 8 Int)) (Int × (Arr 8 Int))) := fun s15 => (if (decide (s15.1 < 8)) = true then ((pmem_Device_Load__n0.f fu (IntKind.i64.wrap ((IntKind.i64.wrap (a1 * 8)) + s15.1)) : Option (Int × Int)).bind fun t24 => (if (!decide (t24.2 = 0)) = true then some (Sum.inl (Sum.inl ([], t24.2))) else (if 0 ≤ s15.1 ∧ s15.1 < 8 then some (Sum.inr ((IntKind.i64.wrap (s15.1 + 1)), (Arr.set s15.2 s15.1 t24.1))) else none))) else some (Sum.inl (Sum.inr (s15.2))))
def press_Read__n0.f (fu : Nat) (a1 : Int) : Option ((List Int) × Int) := ((press_may__n0.f fu a1 : Option Int).bind fun t4 => (if (!decide (t4 = 0)) = true then some ([], t4) else ((loopM (press_Read__n0.s0 fu a1) fu (0, (Arr.rep 8 (0 : Int)))).bind fun e16 => match e16 with | Sum.inl p => some p | Sum.inr x19 => ((octet_Octets.f fu (Arr.l x19) : Option (List Int)).bind fun t34 => some (t34, 0)))))
set_option maxRecDepth 100000 in
set_option maxHeartbeats 400000 in
theorem press_Read__n0.ok (fu : Nat) (w : World) (a1 : Int) (r : (List Int) × Int) (h : press_Read__n0.f fu a1 = some r) :
    Calls Try.prog 55 (([.pointer none, .int .i64 a1] : List Value).toArray) w (fun e w' => ∃ v, e = .returned v ∧ ∃ u1 : Value, ∃ o2 : Own (kI .u8) 5 w' w.heap.size u1 r.1, v = .tuple #[u1, .int .i64 r.2] ∧ Gr w w') := by
  unfold press_Read__n0.f at h
  have fB : Gr w w := Fr.refl _ _
  refine calls_cw Try.func55 rfl Try.ntmps55 rfl ?_
  refine cw_seq ?_
  refine cw_region ?_
  refine ol_val (v := .slice none 0 0) (by exact xr_assign rfl rfl) rfl rfl rfl ?_
  refine ol_val (v := .int .i64 0) (by exact xr_assign rfl rfl) rfl rfl rfl ?_
  refine ol_nil ?_
  refine cw_seq ?_
  refine cw_seq ?_
  refine cw_region ?_
  refine ol_val (v := .pointer none) (by exact xr_move rfl rfl) rfl rfl rfl ?_
  refine ol_val (v := .int .i64 a1) (by exact xr_move rfl rfl) rfl rfl rfl ?_
  obtain ⟨t4, k5, h⟩ := bs h
  refine ol_op (by exact opv_call rfl cal102 (ac rfl (ac rfl an)) (press_may__n0.ok fu _ a1 _ k5)) rfl rfl rfl ?_
  rintro _ w7 ⟨rfl, q6⟩
  have fB := fB.gr q6
  refine ol_val (v := .int .i64 t4) (by exact xr_assign rfl rfl) rfl rfl rfl ?_
  refine ol_nil ?_
  refine cw_seq ?_
  refine cw_region ?_
  refine ol_val (v := .int .i64 t4) (by exact xr_move rfl rfl) rfl rfl rfl ?_
  refine ol_val (v := .bool (!decide (t4 = 0))) (by exact xr_neI rfl Try.underlying31 rfl rfl rfl) rfl rfl rfl ?_
  refine ol_nil ?_
  rcases is h with ⟨c8, h⟩ | ⟨c8, h⟩
  · refine cw_condT rfl c8 ?_
    refine cw_seq ?_
    refine cw_region ?_
    refine ol_val (v := .int .i64 t4) (by exact xr_move rfl rfl) rfl rfl rfl ?_
    refine ol_val (v := .slice none 0 0) (by exact xr_assign rfl rfl) rfl rfl rfl ?_
    refine ol_val (v := .int .i64 t4) (by exact xr_assign rfl rfl) rfl rfl rfl ?_
    refine ol_nil ?_
    refine cw_ret ?_
    repeat (first | with_reducible refine thn_r ?_ | with_reducible refine blk_r ?_)
    obtain rfl := Option.some.inj h
    refine fin_ret2 Try.results55 rfl rfl ?_
    exact ⟨_, rfl, (.slice none 0 0), Own.nil _ _ _ _, rfl, fB⟩
  · refine cw_condF rfl c8 ?_
    refine cw_skip ?_
    refine cw_seq ?_
    refine cw_region ?_
    refine ol_op (by exact opv_alloc (ss := [Kd.seg (kA 8 (kI .u64)) (Arr.rep 8 (0 : Int))]) rfl ze23 rfl) rfl rfl rfl ?_
    rintro _ w14 ⟨G9, rfl, b10, q11, z12⟩
    have z12 := Nat.le_trans fB.size z12
    have fB := fB.gr q11
    refine ol_nil ?_
    refine cw_seq ?_
    refine cw_seq ?_
    refine cw_region ?_
    refine ol_val (v := .int .i64 0) (by exact xr_move rfl rfl) rfl rfl rfl ?_
    refine ol_nil ?_
    obtain ⟨e16, l17, h18⟩ := bs h
    refine cw_mid (fun ρ' w' => ∃ x19, e16 = Sum.inr x19 ∧ ρ' 7 = .pointer (some ⟨G9, 0, none⟩) ∧ Blk w' G9 23 [Kd.seg (kA 8 (kI .u64)) x19] ∧ Gr w w') ?_ ?_
    · refine cw_block ?_
      refine cw_round (fun (s15 : Int × (Arr 8 Int)) ρ' w' => ρ' 0 = .pointer none ∧ ρ' 1 = .int .i64 a1 ∧ ρ' 7 = .pointer (some ⟨G9, 0, none⟩) ∧ ρ' 17 = .int .i64 s15.1 ∧ Blk w' G9 23 [Kd.seg (kA 8 (kI .u64)) s15.2] ∧ Gr w w') l17 ?_ ?_
      · skip
        exact ⟨rfl, rfl, rfl, rfl, b10, fB⟩
      · rintro s15 x22 ρ20 w21 ⟨e0, e1, e7, e17, b10, fB⟩ h
        unfold press_Read__n0.s0 at h
        refine cw_seq ?_
        refine cw_region ?_
        refine ol_val (v := .bool (decide (s15.1 < 8))) (by exact xr_lss rfl e17 rfl) rfl rfl rfl ?_
        refine ol_nil ?_
        refine cw_seq ?_
        rcases is h with ⟨c23, h⟩ | ⟨c23, h⟩
        · refine cw_condT rfl c23 ?_
          refine cw_skip ?_
          refine cw_seq ?_
          refine cw_block ?_
          refine cw_seq ?_
          refine cw_region ?_
          refine ol_val (v := .int .i64 s15.1) (by exact xr_move rfl e17) rfl rfl rfl ?_
          refine ol_val (v := .int .i64 s15.1) (by exact xr_assign rfl rfl) rfl rfl rfl ?_
          refine ol_nil ?_
          refine cw_seq ?_
          refine cw_region ?_
          refine ol_val (v := .pointer none) (by exact xr_move rfl e0) rfl rfl rfl ?_
          refine ol_val (v := .int .i64 a1) (by exact xr_move rfl e1) rfl rfl rfl ?_
          refine ol_val (v := .int .i64 (IntKind.i64.wrap (a1 * 8))) (by exact xr_mul rfl rfl rfl) rfl rfl rfl ?_
          refine ol_val (v := .int .i64 s15.1) (by exact xr_move rfl rfl) rfl rfl rfl ?_
          refine ol_val (v := .int .i64 (IntKind.i64.wrap ((IntKind.i64.wrap (a1 * 8)) + s15.1))) (by exact xr_add rfl rfl rfl) rfl rfl rfl ?_
          obtain ⟨t24, k25, h⟩ := bs h
          refine ol_op (by exact opv_call rfl cal82 (ac rfl (ac rfl an)) (pmem_Device_Load__n0.ok fu _ (IntKind.i64.wrap ((IntKind.i64.wrap (a1 * 8)) + s15.1)) _ k25)) rfl rfl rfl ?_
          rintro _ w27 ⟨rfl, q26⟩
          have b10 := b10.gr q26
          have fB := fB.gr q26
          refine ol_val (v := .tuple #[.int .u64 t24.1, .int .i64 t24.2]) (by exact xr_move rfl rfl) rfl rfl rfl ?_
          refine ol_val (v := .int .u64 t24.1) (by exact xr_extract rfl rfl rfl) rfl rfl rfl ?_
          refine ol_val (v := .int .i64 t24.2) (by exact xr_extract rfl rfl rfl) rfl rfl rfl ?_
          refine ol_val (v := .int .u64 t24.1) (by exact xr_assign rfl rfl) rfl rfl rfl ?_
          refine ol_val (v := .int .i64 t24.2) (by exact xr_assign rfl rfl) rfl rfl rfl ?_
          refine ol_nil ?_
          refine cw_seq ?_
          refine cw_seq ?_
          refine cw_region ?_
          refine ol_val (v := .int .i64 t24.2) (by exact xr_move rfl rfl) rfl rfl rfl ?_
          refine ol_val (v := .bool (!decide (t24.2 = 0))) (by exact xr_neI rfl Try.underlying31 rfl rfl rfl) rfl rfl rfl ?_
          refine ol_nil ?_
          rcases is h with ⟨c28, h⟩ | ⟨c28, h⟩
          · refine cw_condT rfl c28 ?_
            refine cw_seq ?_
            refine cw_region ?_
            refine ol_val (v := .int .i64 t24.2) (by exact xr_move rfl rfl) rfl rfl rfl ?_
            refine ol_val (v := .slice none 0 0) (by exact xr_assign rfl rfl) rfl rfl rfl ?_
            refine ol_val (v := .int .i64 t24.2) (by exact xr_assign rfl rfl) rfl rfl rfl ?_
            refine ol_nil ?_
            refine cw_ret ?_
            repeat (first | with_reducible refine thn_r ?_ | with_reducible refine blk_r ?_)
            obtain rfl := Option.some.inj h
            refine lp_ret ?_
            rintro rfl
            repeat (first | with_reducible refine thn_r ?_ | with_reducible refine blk_r ?_)
            have h := h18
            obtain rfl := Option.some.inj h
            refine fin_ret2 Try.results55 rfl rfl ?_
            exact ⟨_, rfl, (.slice none 0 0), Own.nil _ _ _ _, rfl, fB⟩
          · refine cw_condF rfl c28 ?_
            refine cw_skip ?_
            refine cw_region ?_
            refine ol_val (v := .int .i64 s15.1) (by exact xr_move rfl rfl) rfl rfl rfl ?_
            refine ol_val (v := .int .u64 t24.1) (by exact xr_move rfl rfl) rfl rfl rfl ?_
            obtain ⟨g29, h⟩ := gs h
            refine ol_val (v := .pointer (some ⟨G9, 0 + Int.toNat s15.1 * 1, none⟩)) (by exact xr_indexA (p := 0) (s := 1) rfl Try.underlying23 sz22 e7 rfl g29.1 g29.2) rfl rfl rfl ?_
            refine ol_op0 (by exact opv_store (ss' := [Kd.seg (kA 8 (kI .u64)) (Arr.set s15.2 s15.1 t24.1)]) (xs := cellsOf [Seg.cell (.int .u64 t24.1)]) rfl sz22 rfl rfl rfl (len_cellsOf _) (one_cellsOf _) b10 (Spl.seg_in _ 0 (Kd.seg (kA 8 (kI .u64)) (Arr.set s15.2 s15.1 t24.1)) rfl rfl (Spl.arr s15.2 s15.1 t24.1 g29.1 g29.2 (Spl.whole ((Kd.len _ _).trans (Kd.len _ _).symm))))) rfl rfl ?_
            rintro _ w31 ⟨b10, q30⟩
            have fB := fB.wr q30 z12
            refine ol_nil ?_
            refine blk_i ?_
            refine cw_region ?_
            refine ol_val (v := .int .i64 (IntKind.i64.wrap (s15.1 + 1))) (by exact xr_add rfl e17 rfl) rfl rfl rfl ?_
            refine ol_val (v := .int .i64 (IntKind.i64.wrap (s15.1 + 1))) (by exact xr_move rfl rfl) rfl rfl rfl ?_
            refine ol_nil ?_
            obtain rfl := Option.some.inj h
            refine lp_in ?_
            exact ⟨e0, e1, e7, rfl, b10, fB⟩
        · refine cw_condF rfl c23 ?_
          refine cw_exit ?_
          repeat (first | with_reducible refine thn_e ?_ | with_reducible refine blk_e rfl ?_)
          obtain rfl := Option.some.inj h
          refine lp_exit ?_
          rintro rfl
          refine thn_x ?_
          exact ⟨_, rfl, e7, b10, fB⟩
    · rintro ρ32 w33 ⟨x19, rfl, e7, b10, fB⟩
      have h := h18
      refine cw_seq ?_
      refine cw_region ?_
      refine ol_val (v := .slice (some ⟨G9, 0, none⟩) 8 8) (by exact xr_sliceArr rfl Try.underlying23 sz22 e7) rfl rfl rfl ?_
      obtain ⟨t34, k35, h⟩ := bs h
      refine ol_op (by exact opv_call rfl cal104 (ac rfl an) (octet_Octets.ok fu _ (Arr.l x19) (.slice (some ⟨G9, 0, none⟩) 8 8) (Rd.arr (b10.seg 0 rfl rfl)) _ k35)) rfl rfl rfl ?_
      rintro u36 w40 ⟨_, o37, rfl, q39⟩
      have o37 := Own.base o37 fB.size
      have fB := fB.gr q39
      refine ol_val (v := u36) (by exact xr_assign rfl rfl) rfl rfl rfl ?_
      refine ol_val (v := .int .i64 0) (by exact xr_assign rfl rfl) rfl rfl rfl ?_
      refine ol_nil ?_
      refine cw_ret ?_
      repeat (first | with_reducible refine thn_r ?_ | with_reducible refine blk_r ?_)
      obtain rfl := Option.some.inj h
      refine fin_ret2 Try.results55 rfl rfl ?_
      exact ⟨_, rfl, u36, o37, rfl, fB⟩
end Go.Proofs.Ytklhbaghbmndeaa

/- (*rickyard/pmem.Device).octets: its model, and that the Go function computes it: written by gen.py. -/
set_option linter.unusedVariables false
namespace Go.Proofs.Ytklhbaghbmndeaa
open Go Go.Xw
def pmem_Device_octets__pmem_Device_Image_1n0.f (fu : Nat) : Option (List Int) := none
set_option maxRecDepth 100000 in
set_option maxHeartbeats 400000 in
theorem pmem_Device_octets__pmem_Device_Image_1n0.ok (fu : Nat) (w : World)  (r : (List Int)) (h : pmem_Device_octets__pmem_Device_Image_1n0.f fu = some r) :
    Calls Try.prog 88 (([.pointer none, Value.func (.func 89) #[] #[]] : List Value).toArray) w (fun e w' => ∃ v, e = .returned v ∧ ∃ u1 : Value, ∃ o2 : Own (kI .u8) 5 w' w.heap.size u1 r, v = u1 ∧ Gr w w') := by
  unfold pmem_Device_octets__pmem_Device_Image_1n0.f at h
  have fB : Gr w w := Fr.refl _ _
  refine calls_cw Try.func88 rfl Try.ntmps88 rfl ?_
  refine cw_seq ?_
  refine cw_region ?_
  refine ol_val (v := .slice none 0 0) (by exact xr_assign rfl rfl) rfl rfl rfl ?_
  refine ol_nil ?_
  refine cw_seq ?_
  refine cw_region ?_
  refine ol_val (v := .pointer none) (by exact xr_move rfl rfl) rfl rfl rfl ?_
  cases h
end Go.Proofs.Ytklhbaghbmndeaa

/- (*rickyard/pmem.Device).Image: its model, and that the Go function computes it: written by gen.py. -/
set_option linter.unusedVariables false
namespace Go.Proofs.Ytklhbaghbmndeaa
open Go Go.Xw
def pmem_Device_Image__n0.f (fu : Nat) : Option (List Int) := ((pmem_Device_octets__pmem_Device_Image_1n0.f fu : Option (List Int)).bind fun t4 => some (t4))
set_option maxRecDepth 100000 in
set_option maxHeartbeats 400000 in
theorem pmem_Device_Image__n0.ok (fu : Nat) (w : World)  (r : (List Int)) (h : pmem_Device_Image__n0.f fu = some r) :
    Calls Try.prog 33 (([.pointer none] : List Value).toArray) w (fun e w' => ∃ v, e = .returned v ∧ ∃ u1 : Value, ∃ o2 : Own (kI .u8) 5 w' w.heap.size u1 r, v = u1 ∧ Gr w w') := by
  unfold pmem_Device_Image__n0.f at h
  have fB : Gr w w := Fr.refl _ _
  refine calls_cw Try.func33 rfl Try.ntmps33 rfl ?_
  refine cw_seq ?_
  refine cw_region ?_
  refine ol_val (v := .slice none 0 0) (by exact xr_assign rfl rfl) rfl rfl rfl ?_
  refine ol_nil ?_
  refine cw_seq ?_
  refine cw_region ?_
  refine ol_val (v := .pointer none) (by exact xr_move rfl rfl) rfl rfl rfl ?_
  obtain ⟨t4, k5, h⟩ := bs h
  refine ol_op (by exact opv_call rfl cal88 (ac rfl (ac rfl an)) (pmem_Device_octets__pmem_Device_Image_1n0.ok fu _ _ k5)) rfl rfl rfl ?_
  rintro u6 w10 ⟨_, o7, rfl, q9⟩
  have o7 := Own.base o7 fB.size
  have fB := fB.gr q9
  refine ol_val (v := u6) (by exact xr_assign rfl rfl) rfl rfl rfl ?_
  refine ol_nil ?_
  refine cw_ret ?_
  repeat (first | with_reducible refine thn_r ?_ | with_reducible refine blk_r ?_)
  obtain rfl := Option.some.inj h
  refine fin_ret1 Try.results33 rfl ?_
  exact ⟨_, rfl, u6, o7, rfl, fB⟩
end Go.Proofs.Ytklhbaghbmndeaa

/- rickyard/press.Lasts: its model, and that the Go function computes it: written by gen.py. -/
set_option linter.unusedVariables false
namespace Go.Proofs.Ytklhbaghbmndeaa
open Go Go.Xw
def press_Lasts__n0.f (fu : Nat) (a1 : Int) : Option ((List Int) × Bool) := ((press_may__n0.f fu a1 : Option Int).bind fun t4 => (if (!decide (t4 = 0)) = true then some ([], false) else ((pmem_Device_Image__n0.f fu : Option (List Int)).bind fun t15 => (if 0 ≤ (IntKind.i64.wrap (a1 * 64)) ∧ (IntKind.i64.wrap (a1 * 64)) ≤ (List.length t15 : Int) then some ((splL (List.replicate (Int.toNat 64) (0 : Int)) 0 (List.take (List.length (List.replicate (Int.toNat 64) (0 : Int))) (cut t15 (IntKind.i64.wrap (a1 * 64)) (List.length t15 : Int)))), true) else none))))
set_option maxRecDepth 100000 in
set_option maxHeartbeats 400000 in
theorem press_Lasts__n0.ok (fu : Nat) (w : World) (a1 : Int) (r : (List Int) × Bool) (h : press_Lasts__n0.f fu a1 = some r) :
    Calls Try.prog 56 (([.pointer none, .int .i64 a1] : List Value).toArray) w (fun e w' => ∃ v, e = .returned v ∧ ∃ u1 : Value, ∃ o2 : Own (kI .u8) 5 w' w.heap.size u1 r.1, v = .tuple #[u1, .bool r.2] ∧ Gr w w') := by
  unfold press_Lasts__n0.f at h
  have fB : Gr w w := Fr.refl _ _
  refine calls_cw Try.func56 rfl Try.ntmps56 rfl ?_
  refine cw_seq ?_
  refine cw_region ?_
  refine ol_val (v := .slice none 0 0) (by exact xr_assign rfl rfl) rfl rfl rfl ?_
  refine ol_val (v := .bool false) (by exact xr_assign rfl rfl) rfl rfl rfl ?_
  refine ol_nil ?_
  refine cw_seq ?_
  refine cw_seq ?_
  refine cw_region ?_
  refine ol_val (v := .pointer none) (by exact xr_move rfl rfl) rfl rfl rfl ?_
  refine ol_val (v := .int .i64 a1) (by exact xr_move rfl rfl) rfl rfl rfl ?_
  obtain ⟨t4, k5, h⟩ := bs h
  refine ol_op (by exact opv_call rfl cal102 (ac rfl (ac rfl an)) (press_may__n0.ok fu _ a1 _ k5)) rfl rfl rfl ?_
  rintro _ w7 ⟨rfl, q6⟩
  have fB := fB.gr q6
  refine ol_val (v := .bool (!decide (t4 = 0))) (by exact xr_neI rfl Try.underlying31 rfl rfl rfl) rfl rfl rfl ?_
  refine ol_nil ?_
  rcases is h with ⟨c8, h⟩ | ⟨c8, h⟩
  · refine cw_condT rfl c8 ?_
    refine cw_seq ?_
    refine cw_region ?_
    refine ol_val (v := .slice none 0 0) (by exact xr_assign rfl rfl) rfl rfl rfl ?_
    refine ol_val (v := .bool false) (by exact xr_assign rfl rfl) rfl rfl rfl ?_
    refine ol_nil ?_
    refine cw_ret ?_
    repeat (first | with_reducible refine thn_r ?_ | with_reducible refine blk_r ?_)
    obtain rfl := Option.some.inj h
    refine fin_ret2 Try.results56 rfl rfl ?_
    exact ⟨_, rfl, (.slice none 0 0), Own.nil _ _ _ _, rfl, fB⟩
  · refine cw_condF rfl c8 ?_
    refine cw_skip ?_
    refine cw_seq ?_
    refine cw_region ?_
    refine ol_op (by exact opv_make (K := (kI .u8)) (z := (0 : Int)) rfl Try.underlying43 el5 rfl rfl rfl (by decide) (by decide) rfl fB.size) rfl rfl rfl ?_
    rintro v9 w14 ⟨o11, q10, z12⟩
    have fB := fB.gr q10
    refine ol_val (v := v9) (by exact xr_assign rfl rfl) rfl rfl rfl ?_
    refine ol_nil ?_
    refine cw_seq ?_
    refine cw_region ?_
    refine ol_val (v := v9) (by exact xr_move rfl rfl) rfl rfl rfl ?_
    refine ol_val (v := .pointer none) (by exact xr_move rfl rfl) rfl rfl rfl ?_
    obtain ⟨t15, k16, h⟩ := bs h
    refine ol_op (by exact opv_call rfl cal33 (ac rfl an) (pmem_Device_Image__n0.ok fu _ _ k16)) rfl rfl rfl ?_
    rintro u17 w21 ⟨_, o18, rfl, q20⟩
    have a22 := OffV.call o11 o18
    have o18 := Own.base o18 fB.size
    have o11 := o11.gr q20
    have fB := fB.gr q20
    refine ol_val (v := .int .i64 a1) (by exact xr_move rfl rfl) rfl rfl rfl ?_
    refine ol_val (v := .int .i64 (IntKind.i64.wrap (a1 * 64))) (by exact xr_mul rfl rfl rfl) rfl rfl rfl ?_
    obtain ⟨g24, h⟩ := gs h
    refine ol_val (v := subv 1 u17 (Int.toNat (IntKind.i64.wrap (a1 * 64))) (List.length t15)) (by exact xr_slice_l (K := (kI .u8)) (v := u17) rfl Try.underlying43 sz5 rfl o18.rd rfl g24.1 g24.2) rfl rfl rfl ?_
    have r23 : Rd (kI .u8) w21 (subv 1 u17 (Int.toNat (IntKind.i64.wrap (a1 * 64))) (List.length t15)) (cut t15 (IntKind.i64.wrap (a1 * 64)) (List.length t15 : Int)) := o18.rd.cut (lo := (IntKind.i64.wrap (a1 * 64))) (hi := (List.length t15 : Int)) g24.1 g24.2 (Int.le_refl _)
    have f26 := o11.geO
    refine ol_op (by exact opv_copyRow rfl Try.underlying43 sz5 rfl rfl rfl o11 r23) rfl rfl rfl ?_
    rintro _ w27 ⟨rfl, o11, q25⟩
    have fB := fB.wrO q25 f26
    refine ol_nil ?_
    refine cw_seq ?_
    refine cw_region ?_
    refine ol_val (v := v9) (by exact xr_move rfl rfl) rfl rfl rfl ?_
    refine ol_val (v := v9) (by exact xr_assign rfl rfl) rfl rfl rfl ?_
    refine ol_val (v := .bool true) (by exact xr_assign rfl rfl) rfl rfl rfl ?_
    refine ol_nil ?_
    refine cw_ret ?_
    repeat (first | with_reducible refine thn_r ?_ | with_reducible refine blk_r ?_)
    obtain rfl := Option.some.inj h
    refine fin_ret2 Try.results56 rfl rfl ?_
    exact ⟨_, rfl, v9, o11, rfl, fB⟩
end Go.Proofs.Ytklhbaghbmndeaa

/- rickyard/press.Word: its model, and that the Go function computes it: written by gen.py. -/
set_option linter.unusedVariables false
namespace Go.Proofs.Ytklhbaghbmndeaa
open Go Go.Xw
def press_Word__n0.f (fu : Nat) (a1 : Int) (a2 : Int) (a3 : Int) : Option Int := ((press_may__n0.f fu a1 : Option Int).bind fun t1 => (if (!decide (t1 = 0)) = true then some (t1) else (if (if (decide (a2 < 0)) = true then true else (decide (a2 ≥ 8))) = true then some (2) else ((press_store__n0.f fu a1 a2 [a3] : Option Int).bind fun t15 => some (t15)))))
set_option maxRecDepth 100000 in
set_option maxHeartbeats 400000 in
theorem press_Word__n0.ok (fu : Nat) (w : World) (a1 : Int) (a2 : Int) (a3 : Int) (r : Int) (h : press_Word__n0.f fu a1 a2 a3 = some r) :
    Calls Try.prog 57 (([.pointer none, .int .i64 a1, .int .i64 a2, .int .u64 a3] : List Value).toArray) w (fun e w' => ∃ v, e = .returned v ∧ v = .int .i64 r ∧ Gr w w') := by
  unfold press_Word__n0.f at h
  have fB : Gr w w := Fr.refl _ _
  refine calls_cw Try.func57 rfl Try.ntmps57 rfl ?_
  refine cw_seq ?_
  refine cw_region ?_
  refine ol_val (v := .int .i64 0) (by exact xr_assign rfl rfl) rfl rfl rfl ?_
  refine ol_nil ?_
  refine cw_seq ?_
  refine cw_seq ?_
  refine cw_region ?_
  refine ol_val (v := .pointer none) (by exact xr_move rfl rfl) rfl rfl rfl ?_
  refine ol_val (v := .int .i64 a1) (by exact xr_move rfl rfl) rfl rfl rfl ?_
  obtain ⟨t1, k2, h⟩ := bs h
  refine ol_op (by exact opv_call rfl cal102 (ac rfl (ac rfl an)) (press_may__n0.ok fu _ a1 _ k2)) rfl rfl rfl ?_
  rintro _ w4 ⟨rfl, q3⟩
  have fB := fB.gr q3
  refine ol_val (v := .int .i64 t1) (by exact xr_assign rfl rfl) rfl rfl rfl ?_
  refine ol_nil ?_
  refine cw_seq ?_
  refine cw_region ?_
  refine ol_val (v := .int .i64 t1) (by exact xr_move rfl rfl) rfl rfl rfl ?_
  refine ol_val (v := .bool (!decide (t1 = 0))) (by exact xr_neI rfl Try.underlying31 rfl rfl rfl) rfl rfl rfl ?_
  refine ol_nil ?_
  rcases is h with ⟨c5, h⟩ | ⟨c5, h⟩
  · refine cw_condT rfl c5 ?_
    refine cw_seq ?_
    refine cw_region ?_
    refine ol_val (v := .int .i64 t1) (by exact xr_move rfl rfl) rfl rfl rfl ?_
    refine ol_val (v := .int .i64 t1) (by exact xr_assign rfl rfl) rfl rfl rfl ?_
    refine ol_nil ?_
    refine cw_ret ?_
    repeat (first | with_reducible refine thn_r ?_ | with_reducible refine blk_r ?_)
    obtain rfl := Option.some.inj h
    refine fin_ret1 Try.results57 rfl ?_
    exact ⟨_, rfl, rfl, fB⟩
  · refine cw_condF rfl c5 ?_
    refine cw_skip ?_
    refine cw_seq ?_
    refine cw_seq ?_
    refine cw_mid (fun ρ' w' => ρ' 0 = .pointer none ∧ ρ' 1 = .int .i64 a1 ∧ ρ' 2 = .int .i64 a2 ∧ ρ' 3 = .int .u64 a3 ∧ ρ' 21 = .bool (if (decide (a2 < 0)) = true then true else (decide (a2 ≥ 8))) ∧ w4 = w') ?_ ?_
    · skip
      refine cw_region ?_
      refine ol_val (v := .int .i64 a2) (by exact xr_move rfl rfl) rfl rfl rfl ?_
      refine ol_val (v := .bool (decide (a2 < 0))) (by exact xr_lss rfl rfl rfl) rfl rfl rfl ?_
      refine ol_val (v := .bool (decide (a2 < 0))) (by exact xr_move rfl rfl) rfl rfl rfl ?_
      rcases bt (decide (a2 < 0)) with c6 | c6
      · skip
        refine ol_gskip rfl rfl rfl rfl rfl c6 ?_
        refine ol_gskip rfl rfl rfl rfl rfl c6 ?_
        refine ol_val (v := .bool true) (by exact xr_pickT rfl rfl c6 rfl) rfl rfl rfl ?_
        refine ol_nil ?_
        refine thn_i ?_
        exact ⟨rfl, rfl, rfl, rfl, (rfl).trans (congrArg (fun z => (.bool z : Value)) (show true = (if (decide (a2 < 0)) = true then true else (decide (a2 ≥ 8))) from by rw [ite_t c6])), rfl⟩
      · skip
        refine ol_gval (v := .int .i64 a2) (by exact xr_move rfl rfl) rfl rfl rfl rfl rfl c6 ?_
        refine ol_gval (v := .bool (decide (a2 ≥ 8))) (by exact xr_geq rfl rfl rfl) rfl rfl rfl rfl rfl c6 ?_
        refine ol_val (v := .bool (decide (a2 ≥ 8))) (by exact xr_pickF rfl rfl c6 rfl) rfl rfl rfl ?_
        refine ol_nil ?_
        refine thn_i ?_
        exact ⟨rfl, rfl, rfl, rfl, (rfl).trans (congrArg (fun z => (.bool z : Value)) (show (decide (a2 ≥ 8)) = (if (decide (a2 < 0)) = true then true else (decide (a2 ≥ 8))) from by rw [ite_f c6])), rfl⟩
    · skip
      rintro ρ7 _ ⟨e0, e1, e2, e3, e21, rfl⟩
      rcases is h with ⟨c8, h⟩ | ⟨c8, h⟩
      · refine cw_condT e21 c8 ?_
        refine cw_seq ?_
        refine cw_region ?_
        refine ol_val (v := .int .i64 2) (by exact xr_assign rfl rfl) rfl rfl rfl ?_
        refine ol_nil ?_
        refine cw_ret ?_
        repeat (first | with_reducible refine thn_r ?_ | with_reducible refine blk_r ?_)
        obtain rfl := Option.some.inj h
        refine fin_ret1 Try.results57 rfl ?_
        exact ⟨_, rfl, rfl, fB⟩
      · refine cw_condF e21 c8 ?_
        refine cw_skip ?_
        refine cw_seq ?_
        refine cw_region ?_
        refine ol_val (v := .pointer none) (by exact xr_move rfl e0) rfl rfl rfl ?_
        refine ol_val (v := .int .i64 a1) (by exact xr_move rfl e1) rfl rfl rfl ?_
        refine ol_val (v := .int .i64 a2) (by exact xr_move rfl e2) rfl rfl rfl ?_
        refine ol_val (v := .int .u64 a3) (by exact xr_move rfl e3) rfl rfl rfl ?_
        refine ol_op (by exact opv_buildSlice (K := (kI .u64)) (xs := [a3]) (vals := [.int .u64 a3]) rfl Try.underlying46 el22 rfl rfl ⟨rfl, rfl, trivial⟩ rfl rfl rfl fB.size) rfl rfl rfl ?_
        rintro v9 w14 ⟨o11, q10, z12⟩
        have fB := fB.gr q10
        obtain ⟨t15, k16, h⟩ := bs h
        refine ol_op (by exact opv_call rfl cal103 (ac rfl (ac rfl (ac rfl (ac rfl an)))) (press_store__n0.ok fu _ a1 a2 [a3] v9 (o11.rd) _ k16)) rfl rfl rfl ?_
        rintro _ w18 ⟨rfl, q17⟩
        have fB := fB.gr q17
        refine ol_val (v := .int .i64 t15) (by exact xr_assign rfl rfl) rfl rfl rfl ?_
        refine ol_nil ?_
        refine cw_ret ?_
        repeat (first | with_reducible refine thn_r ?_ | with_reducible refine blk_r ?_)
        obtain rfl := Option.some.inj h
        refine fin_ret1 Try.results57 rfl ?_
        exact ⟨_, rfl, rfl, fB⟩
end Go.Proofs.Ytklhbaghbmndeaa

/- rickyard/rickyardlaw15.PressNil: its model, and that the Go function computes it: written by gen.py. -/
set_option linter.unusedVariables false
namespace Go.Proofs.Ytklhbaghbmndeaa
open Go Go.Xw
def rickyardlaw15_PressNil.f (fu : Nat) (a0 : Int) (a1 : Int) (a2 : List Int) : Option Bool := ((rickyardlaw15_awake.f fu : Option Bool).bind fun t1 => (if (!t1) = true then some (false) else ((press_Read__n0.f fu a0 : Option ((List Int) × Int)).bind fun t6 => ((press_Lasts__n0.f fu a0 : Option ((List Int) × Bool)).bind fun t13 => ((((press_Write__n0.f fu a0 a2 : Option Int).bind fun t23 => (if (decide (t23 = 1)) = true then (if (decide (t6.2 = 1)) = true then (if (decide ((List.length t6.1 : Int) = 0)) = true then (if (!t13.2) = true then (if (decide ((List.length t13.1 : Int) = 0)) = true then ((press_Word__n0.f fu a0 a1 5 : Option Int).bind fun t32 => (if (decide (t32 = 1)) = true then ((press_Sure__n0.f fu : Option Int).bind fun t37 => some ((decide (t37 = 1)))) else some (false))) else some (false)) else some (false)) else some (false)) else some (false)) else some (false))) : Option Bool).bind fun x21 => some (x21))))))
set_option maxRecDepth 100000 in
set_option maxHeartbeats 400000 in
theorem rickyardlaw15_PressNil.ok (fu : Nat) (w : World) (a0 : Int) (a1 : Int) (a2 : List Int) (V2_0 : Value) (R2_0 : Rd (kI .u8) w V2_0 a2) (r : Bool) (h : rickyardlaw15_PressNil.f fu a0 a1 a2 = some r) :
    Calls Try.prog 11 (([.int .i64 a0, .int .i64 a1, V2_0] : List Value).toArray) w (fun e w' => ∃ v, e = .returned v ∧ v = .bool r ∧ Gr w w') := by
  unfold rickyardlaw15_PressNil.f at h
  have fB : Gr w w := Fr.refl _ _
  refine calls_cw Try.func11 rfl Try.ntmps11 rfl ?_
  refine cw_seq ?_
  refine cw_region ?_
  refine ol_val (v := .bool false) (by exact xr_assign rfl rfl) rfl rfl rfl ?_
  refine ol_nil ?_
  refine cw_seq ?_
  refine cw_seq ?_
  refine cw_region ?_
  obtain ⟨t1, k2, h⟩ := bs h
  refine ol_op (by exact opv_call rfl cal52 an (rickyardlaw15_awake.ok fu _ _ k2)) rfl rfl rfl ?_
  rintro _ w4 ⟨rfl, q3⟩
  have fB := fB.gr q3
  refine ol_val (v := .bool (!t1)) (by exact xr_not rfl rfl) rfl rfl rfl ?_
  refine ol_nil ?_
  rcases is h with ⟨c5, h⟩ | ⟨c5, h⟩
  · refine cw_condT rfl c5 ?_
    refine cw_seq ?_
    refine cw_region ?_
    refine ol_val (v := .bool false) (by exact xr_assign rfl rfl) rfl rfl rfl ?_
    refine ol_nil ?_
    refine cw_ret ?_
    repeat (first | with_reducible refine thn_r ?_ | with_reducible refine blk_r ?_)
    obtain rfl := Option.some.inj h
    refine fin_ret1 Try.results11 rfl ?_
    exact ⟨_, rfl, rfl, fB⟩
  · refine cw_condF rfl c5 ?_
    refine cw_skip ?_
    refine cw_seq ?_
    refine cw_region ?_
    refine ol_val (v := .int .i64 a0) (by exact xr_move rfl rfl) rfl rfl rfl ?_
    obtain ⟨t6, k7, h⟩ := bs h
    refine ol_op (by exact opv_call rfl cal55 (ac rfl (ac rfl an)) (press_Read__n0.ok fu _ a0 _ k7)) rfl rfl rfl ?_
    rintro _ w12 ⟨u8, o9, rfl, q11⟩
    have o9 := Own.base o9 fB.size
    have fB := fB.gr q11
    refine ol_val (v := .tuple #[u8, .int .i64 t6.2]) (by exact xr_move rfl rfl) rfl rfl rfl ?_
    refine ol_val (v := u8) (by exact xr_extract rfl rfl rfl) rfl rfl rfl ?_
    refine ol_val (v := .int .i64 t6.2) (by exact xr_extract rfl rfl rfl) rfl rfl rfl ?_
    refine ol_val (v := u8) (by exact xr_assign rfl rfl) rfl rfl rfl ?_
    refine ol_val (v := .int .i64 t6.2) (by exact xr_assign rfl rfl) rfl rfl rfl ?_
    refine ol_nil ?_
    refine cw_seq ?_
    refine cw_region ?_
    refine ol_val (v := .int .i64 a0) (by exact xr_move rfl rfl) rfl rfl rfl ?_
    obtain ⟨t13, k14, h⟩ := bs h
    refine ol_op (by exact opv_call rfl cal56 (ac rfl (ac rfl an)) (press_Lasts__n0.ok fu _ a0 _ k14)) rfl rfl rfl ?_
    rintro _ w19 ⟨u15, o16, rfl, q18⟩
    have a20 := OffV.call o9 o16
    have o16 := Own.base o16 fB.size
    have o9 := o9.gr q18
    have fB := fB.gr q18
    refine ol_val (v := .tuple #[u15, .bool t13.2]) (by exact xr_move rfl rfl) rfl rfl rfl ?_
    refine ol_val (v := u15) (by exact xr_extract rfl rfl rfl) rfl rfl rfl ?_
    refine ol_val (v := .bool t13.2) (by exact xr_extract rfl rfl rfl) rfl rfl rfl ?_
    refine ol_val (v := u15) (by exact xr_assign rfl rfl) rfl rfl rfl ?_
    refine ol_val (v := .bool t13.2) (by exact xr_assign rfl rfl) rfl rfl rfl ?_
    refine ol_nil ?_
    refine cw_seq ?_
    obtain ⟨x21, j22, h⟩ := bs h
    refine cw_mid (fun ρ' w' => ρ' 6 = .bool x21 ∧ Gr w19 w') ?_ ?_
    · skip
      refine cw_region ?_
      refine ol_val (v := .int .i64 a0) (by exact xr_move rfl rfl) rfl rfl rfl ?_
      refine ol_val (v := V2_0) (by exact xr_move rfl rfl) rfl rfl rfl ?_
      obtain ⟨t23, k24, j22⟩ := bs j22
      refine ol_op (by exact opv_call rfl cal53 (ac rfl (ac rfl (ac rfl an))) (press_Write__n0.ok fu _ a0 a2 V2_0 (R2_0.gr fB) _ k24)) rfl rfl rfl ?_
      rintro _ w26 ⟨rfl, q25⟩
      have o9 := o9.gr q25
      have o16 := o16.gr q25
      have fB := fB.gr q25
      refine ol_val (v := .bool (decide (t23 = 1))) (by exact xr_eqI rfl Try.underlying31 rfl rfl rfl) rfl rfl rfl ?_
      refine ol_val (v := .bool (decide (t23 = 1))) (by exact xr_move rfl rfl) rfl rfl rfl ?_
      rcases is j22 with ⟨c27, j22⟩ | ⟨c27, j22⟩
      · skip
        refine ol_gval (v := .int .i64 t6.2) (by exact xr_move rfl rfl) rfl rfl rfl rfl rfl c27 ?_
        refine ol_gval (v := .bool (decide (t6.2 = 1))) (by exact xr_eqI rfl Try.underlying31 rfl rfl rfl) rfl rfl rfl rfl rfl c27 ?_
        refine ol_val (v := .bool (decide (t6.2 = 1))) (by exact xr_pickT rfl rfl c27 rfl) rfl rfl rfl ?_
        refine ol_val (v := .bool (decide (t6.2 = 1))) (by exact xr_move rfl rfl) rfl rfl rfl ?_
        rcases is j22 with ⟨c28, j22⟩ | ⟨c28, j22⟩
        · skip
          refine ol_gval (v := u8) (by exact xr_move rfl rfl) rfl rfl rfl rfl rfl c28 ?_
          refine ol_gval (v := .int .i64 (List.length t6.1 : Int)) (by exact xr_lenR rfl Try.underlying43 rfl o9.rd) rfl rfl rfl rfl rfl c28 ?_
          refine ol_gval (v := .bool (decide ((List.length t6.1 : Int) = 0))) (by exact xr_eqI rfl Try.underlying3 rfl rfl rfl) rfl rfl rfl rfl rfl c28 ?_
          refine ol_val (v := .bool (decide ((List.length t6.1 : Int) = 0))) (by exact xr_pickT rfl rfl c28 rfl) rfl rfl rfl ?_
          refine ol_val (v := .bool (decide ((List.length t6.1 : Int) = 0))) (by exact xr_move rfl rfl) rfl rfl rfl ?_
          rcases is j22 with ⟨c29, j22⟩ | ⟨c29, j22⟩
          · skip
            refine ol_gval (v := .bool t13.2) (by exact xr_move rfl rfl) rfl rfl rfl rfl rfl c29 ?_
            refine ol_gval (v := .bool (!t13.2)) (by exact xr_not rfl rfl) rfl rfl rfl rfl rfl c29 ?_
            refine ol_val (v := .bool (!t13.2)) (by exact xr_pickT rfl rfl c29 rfl) rfl rfl rfl ?_
            refine ol_val (v := .bool (!t13.2)) (by exact xr_move rfl rfl) rfl rfl rfl ?_
            rcases is j22 with ⟨c30, j22⟩ | ⟨c30, j22⟩
            · skip
              refine ol_gval (v := u15) (by exact xr_move rfl rfl) rfl rfl rfl rfl rfl c30 ?_
              refine ol_gval (v := .int .i64 (List.length t13.1 : Int)) (by exact xr_lenR rfl Try.underlying43 rfl o16.rd) rfl rfl rfl rfl rfl c30 ?_
              refine ol_gval (v := .bool (decide ((List.length t13.1 : Int) = 0))) (by exact xr_eqI rfl Try.underlying3 rfl rfl rfl) rfl rfl rfl rfl rfl c30 ?_
              refine ol_val (v := .bool (decide ((List.length t13.1 : Int) = 0))) (by exact xr_pickT rfl rfl c30 rfl) rfl rfl rfl ?_
              refine ol_val (v := .bool (decide ((List.length t13.1 : Int) = 0))) (by exact xr_move rfl rfl) rfl rfl rfl ?_
              rcases is j22 with ⟨c31, j22⟩ | ⟨c31, j22⟩
              · skip
                refine ol_gval (v := .int .i64 a0) (by exact xr_move rfl rfl) rfl rfl rfl rfl rfl c31 ?_
                refine ol_gval (v := .int .i64 a1) (by exact xr_move rfl rfl) rfl rfl rfl rfl rfl c31 ?_
                obtain ⟨t32, k33, j22⟩ := bs j22
                refine ol_gop (by exact opv_call rfl cal57 (ac rfl (ac rfl (ac rfl (ac rfl an)))) (press_Word__n0.ok fu _ a0 a1 5 _ k33)) rfl rfl rfl rfl rfl c31 ?_
                rintro _ w35 ⟨rfl, q34⟩
                have fB := fB.gr q34
                refine ol_gval (v := .bool (decide (t32 = 1))) (by exact xr_eqI rfl Try.underlying31 rfl rfl rfl) rfl rfl rfl rfl rfl c31 ?_
                refine ol_val (v := .bool (decide (t32 = 1))) (by exact xr_pickT rfl rfl c31 rfl) rfl rfl rfl ?_
                refine ol_val (v := .bool (decide (t32 = 1))) (by exact xr_move rfl rfl) rfl rfl rfl ?_
                rcases is j22 with ⟨c36, j22⟩ | ⟨c36, j22⟩
                · skip
                  obtain ⟨t37, k38, j22⟩ := bs j22
                  refine ol_gop (by exact opv_call rfl cal54 (ac rfl an) (press_Sure__n0.ok fu _ _ k38)) rfl rfl rfl rfl rfl c36 ?_
                  rintro _ w40 ⟨rfl, q39⟩
                  have fB := fB.gr q39
                  refine ol_gval (v := .bool (decide (t37 = 1))) (by exact xr_eqI rfl Try.underlying31 rfl rfl rfl) rfl rfl rfl rfl rfl c36 ?_
                  refine ol_val (v := .bool (decide (t37 = 1))) (by exact xr_pickT rfl rfl c36 rfl) rfl rfl rfl ?_
                  refine ol_val (v := .bool (decide (t37 = 1))) (by exact xr_assign rfl rfl) rfl rfl rfl ?_
                  refine ol_nil ?_
                  obtain rfl := Option.some.inj j22
                  refine thn_i ?_
                  exact ⟨rfl, ((q25.gr q34).gr q39)⟩
                · skip
                  refine ol_gskip rfl rfl rfl rfl rfl c36 ?_
                  refine ol_gskip rfl rfl rfl rfl rfl c36 ?_
                  refine ol_val (v := .bool false) (by exact xr_pickF rfl rfl c36 rfl) rfl rfl rfl ?_
                  refine ol_val (v := .bool false) (by exact xr_assign rfl rfl) rfl rfl rfl ?_
                  refine ol_nil ?_
                  obtain rfl := Option.some.inj j22
                  refine thn_i ?_
                  exact ⟨rfl, (q25.gr q34)⟩
              · skip
                refine ol_gskip rfl rfl rfl rfl rfl c31 ?_
                refine ol_gskip rfl rfl rfl rfl rfl c31 ?_
                refine ol_gskip rfl rfl rfl rfl rfl c31 ?_
                refine ol_gskip rfl rfl rfl rfl rfl c31 ?_
                refine ol_val (v := .bool false) (by exact xr_pickF rfl rfl c31 rfl) rfl rfl rfl ?_
                refine ol_val (v := .bool false) (by exact xr_move rfl rfl) rfl rfl rfl ?_
                refine ol_gskip rfl rfl rfl rfl rfl rfl ?_
                refine ol_gskip rfl rfl rfl rfl rfl rfl ?_
                refine ol_val (v := .bool false) (by exact xr_pickF rfl rfl rfl rfl) rfl rfl rfl ?_
                refine ol_val (v := .bool false) (by exact xr_assign rfl rfl) rfl rfl rfl ?_
                refine ol_nil ?_
                obtain rfl := Option.some.inj j22
                refine thn_i ?_
                exact ⟨rfl, q25⟩
            · skip
              refine ol_gskip rfl rfl rfl rfl rfl c30 ?_
              refine ol_gskip rfl rfl rfl rfl rfl c30 ?_
              refine ol_gskip rfl rfl rfl rfl rfl c30 ?_
              refine ol_val (v := .bool false) (by exact xr_pickF rfl rfl c30 rfl) rfl rfl rfl ?_
              refine ol_val (v := .bool false) (by exact xr_move rfl rfl) rfl rfl rfl ?_
              refine ol_gskip rfl rfl rfl rfl rfl rfl ?_
              refine ol_gskip rfl rfl rfl rfl rfl rfl ?_
              refine ol_gskip rfl rfl rfl rfl rfl rfl ?_
              refine ol_gskip rfl rfl rfl rfl rfl rfl ?_
              refine ol_val (v := .bool false) (by exact xr_pickF rfl rfl rfl rfl) rfl rfl rfl ?_
              refine ol_val (v := .bool false) (by exact xr_move rfl rfl) rfl rfl rfl ?_
              refine ol_gskip rfl rfl rfl rfl rfl rfl ?_
              refine ol_gskip rfl rfl rfl rfl rfl rfl ?_
              refine ol_val (v := .bool false) (by exact xr_pickF rfl rfl rfl rfl) rfl rfl rfl ?_
              refine ol_val (v := .bool false) (by exact xr_assign rfl rfl) rfl rfl rfl ?_
              refine ol_nil ?_
              obtain rfl := Option.some.inj j22
              refine thn_i ?_
              exact ⟨rfl, q25⟩
          · skip
            refine ol_gskip rfl rfl rfl rfl rfl c29 ?_
            refine ol_gskip rfl rfl rfl rfl rfl c29 ?_
            refine ol_val (v := .bool false) (by exact xr_pickF rfl rfl c29 rfl) rfl rfl rfl ?_
            refine ol_val (v := .bool false) (by exact xr_move rfl rfl) rfl rfl rfl ?_
            refine ol_gskip rfl rfl rfl rfl rfl rfl ?_
            refine ol_gskip rfl rfl rfl rfl rfl rfl ?_
            refine ol_gskip rfl rfl rfl rfl rfl rfl ?_
            refine ol_val (v := .bool false) (by exact xr_pickF rfl rfl rfl rfl) rfl rfl rfl ?_
            refine ol_val (v := .bool false) (by exact xr_move rfl rfl) rfl rfl rfl ?_
            refine ol_gskip rfl rfl rfl rfl rfl rfl ?_
            refine ol_gskip rfl rfl rfl rfl rfl rfl ?_
            refine ol_gskip rfl rfl rfl rfl rfl rfl ?_
            refine ol_gskip rfl rfl rfl rfl rfl rfl ?_
            refine ol_val (v := .bool false) (by exact xr_pickF rfl rfl rfl rfl) rfl rfl rfl ?_
            refine ol_val (v := .bool false) (by exact xr_move rfl rfl) rfl rfl rfl ?_
            refine ol_gskip rfl rfl rfl rfl rfl rfl ?_
            refine ol_gskip rfl rfl rfl rfl rfl rfl ?_
            refine ol_val (v := .bool false) (by exact xr_pickF rfl rfl rfl rfl) rfl rfl rfl ?_
            refine ol_val (v := .bool false) (by exact xr_assign rfl rfl) rfl rfl rfl ?_
            refine ol_nil ?_
            obtain rfl := Option.some.inj j22
            refine thn_i ?_
            exact ⟨rfl, q25⟩
        · skip
          refine ol_gskip rfl rfl rfl rfl rfl c28 ?_
          refine ol_gskip rfl rfl rfl rfl rfl c28 ?_
          refine ol_gskip rfl rfl rfl rfl rfl c28 ?_
          refine ol_val (v := .bool false) (by exact xr_pickF rfl rfl c28 rfl) rfl rfl rfl ?_
          refine ol_val (v := .bool false) (by exact xr_move rfl rfl) rfl rfl rfl ?_
          refine ol_gskip rfl rfl rfl rfl rfl rfl ?_
          refine ol_gskip rfl rfl rfl rfl rfl rfl ?_
          refine ol_val (v := .bool false) (by exact xr_pickF rfl rfl rfl rfl) rfl rfl rfl ?_
          refine ol_val (v := .bool false) (by exact xr_move rfl rfl) rfl rfl rfl ?_
          refine ol_gskip rfl rfl rfl rfl rfl rfl ?_
          refine ol_gskip rfl rfl rfl rfl rfl rfl ?_
          refine ol_gskip rfl rfl rfl rfl rfl rfl ?_
          refine ol_val (v := .bool false) (by exact xr_pickF rfl rfl rfl rfl) rfl rfl rfl ?_
          refine ol_val (v := .bool false) (by exact xr_move rfl rfl) rfl rfl rfl ?_
          refine ol_gskip rfl rfl rfl rfl rfl rfl ?_
          refine ol_gskip rfl rfl rfl rfl rfl rfl ?_
          refine ol_gskip rfl rfl rfl rfl rfl rfl ?_
          refine ol_gskip rfl rfl rfl rfl rfl rfl ?_
          refine ol_val (v := .bool false) (by exact xr_pickF rfl rfl rfl rfl) rfl rfl rfl ?_
          refine ol_val (v := .bool false) (by exact xr_move rfl rfl) rfl rfl rfl ?_
          refine ol_gskip rfl rfl rfl rfl rfl rfl ?_
          refine ol_gskip rfl rfl rfl rfl rfl rfl ?_
          refine ol_val (v := .bool false) (by exact xr_pickF rfl rfl rfl rfl) rfl rfl rfl ?_
          refine ol_val (v := .bool false) (by exact xr_assign rfl rfl) rfl rfl rfl ?_
          refine ol_nil ?_
          obtain rfl := Option.some.inj j22
          refine thn_i ?_
          exact ⟨rfl, q25⟩
      · skip
        refine ol_gskip rfl rfl rfl rfl rfl c27 ?_
        refine ol_gskip rfl rfl rfl rfl rfl c27 ?_
        refine ol_val (v := .bool false) (by exact xr_pickF rfl rfl c27 rfl) rfl rfl rfl ?_
        refine ol_val (v := .bool false) (by exact xr_move rfl rfl) rfl rfl rfl ?_
        refine ol_gskip rfl rfl rfl rfl rfl rfl ?_
        refine ol_gskip rfl rfl rfl rfl rfl rfl ?_
        refine ol_gskip rfl rfl rfl rfl rfl rfl ?_
        refine ol_val (v := .bool false) (by exact xr_pickF rfl rfl rfl rfl) rfl rfl rfl ?_
        refine ol_val (v := .bool false) (by exact xr_move rfl rfl) rfl rfl rfl ?_
        refine ol_gskip rfl rfl rfl rfl rfl rfl ?_
        refine ol_gskip rfl rfl rfl rfl rfl rfl ?_
        refine ol_val (v := .bool false) (by exact xr_pickF rfl rfl rfl rfl) rfl rfl rfl ?_
        refine ol_val (v := .bool false) (by exact xr_move rfl rfl) rfl rfl rfl ?_
        refine ol_gskip rfl rfl rfl rfl rfl rfl ?_
        refine ol_gskip rfl rfl rfl rfl rfl rfl ?_
        refine ol_gskip rfl rfl rfl rfl rfl rfl ?_
        refine ol_val (v := .bool false) (by exact xr_pickF rfl rfl rfl rfl) rfl rfl rfl ?_
        refine ol_val (v := .bool false) (by exact xr_move rfl rfl) rfl rfl rfl ?_
        refine ol_gskip rfl rfl rfl rfl rfl rfl ?_
        refine ol_gskip rfl rfl rfl rfl rfl rfl ?_
        refine ol_gskip rfl rfl rfl rfl rfl rfl ?_
        refine ol_gskip rfl rfl rfl rfl rfl rfl ?_
        refine ol_val (v := .bool false) (by exact xr_pickF rfl rfl rfl rfl) rfl rfl rfl ?_
        refine ol_val (v := .bool false) (by exact xr_move rfl rfl) rfl rfl rfl ?_
        refine ol_gskip rfl rfl rfl rfl rfl rfl ?_
        refine ol_gskip rfl rfl rfl rfl rfl rfl ?_
        refine ol_val (v := .bool false) (by exact xr_pickF rfl rfl rfl rfl) rfl rfl rfl ?_
        refine ol_val (v := .bool false) (by exact xr_assign rfl rfl) rfl rfl rfl ?_
        refine ol_nil ?_
        obtain rfl := Option.some.inj j22
        refine thn_i ?_
        exact ⟨rfl, q25⟩
    · skip
      rintro ρ41 w42 ⟨e6, q43⟩
      have fB := fB.gr q43
      refine cw_ret ?_
      repeat (first | with_reducible refine thn_r ?_ | with_reducible refine blk_r ?_)
      obtain rfl := Option.some.inj h
      refine fin_ret1 Try.results11 e6 ?_
      exact ⟨_, rfl, rfl, fB⟩
end Go.Proofs.Ytklhbaghbmndeaa

/- What a row's arguments are: the readings of arguments opened into records, lists and their facts. -/
set_option linter.unusedVariables false
set_option linter.unusedSimpArgs false
namespace Go.Xw
open Go
variable {P : Program} {w : World}
def Opn {α : Type} (P : Program) (w : World) (T : TypeId) (K : Kd α) (ok : α → Prop) : Prop :=
  ∀ {H : Type} (enc : TypeId × Value → H) (base : Nat) (sp : Nat → Bool) (held : Bool) (fuel : Nat) (cs : List Value) (x : DataW H × List MemPlace), DataW.trod enc P w base sp held fuel T cs = some x → ∃ a : α, cs = K.enc a ∧ ok a
theorem opn_int {T : TypeId} {k : IntKind} (ht : P.underlying T = some (.int k)) : Opn P w T (kI k) (fun n => (Lit.int k n).wf = true) := by
  intro H enc base sp held fuel cs x h
  obtain ⟨n, rfl, _, hw⟩ := DataW.trod_int ht h
  exact ⟨n, rfl, hw⟩
theorem opn_bool {T : TypeId} (ht : P.underlying T = some .bool) : Opn P w T kB (fun _ => True) := by
  intro H enc base sp held fuel cs x h
  obtain ⟨b, rfl, _⟩ := DataW.trod_bool ht h
  exact ⟨b, rfl, trivial⟩
theorem opn_str {T : TypeId} (ht : P.underlying T = some .string) : Opn P w T kS (fun l => l.length ≤ maxLen) := by
  intro H enc base sp held fuel cs x h
  obtain ⟨⟨⟨l⟩⟩, rfl, _, hs⟩ := DataW.trod_string ht h
  exact ⟨l, rfl, by simpa [ByteArray.size] using hs⟩
theorem chunks {α : Type} (K : Kd α) (ok : α → Prop) : ∀ (n : Nat) (cs : List Value), cs.length = n * K.size → (∀ i, i < n → ∃ a, (cs.drop (i * K.size)).take K.size = K.enc a ∧ ok a) → ∃ l : List α, l.length = n ∧ cs = l.flatMap K.enc ∧ ∀ a ∈ l, ok a
  | 0, cs, hl, _ => ⟨[], rfl, by simpa using hl, by simp⟩
  | n + 1, cs, hl, h => by
    obtain ⟨a, ha, hok⟩ := h 0 (by omega)
    rw [Nat.zero_mul, List.drop_zero] at ha
    have hl' : cs.length = n * K.size + K.size := by rw [hl, Nat.succ_mul]
    obtain ⟨l, h1, h2, h3⟩ := chunks K ok n (cs.drop K.size) (by rw [List.length_drop]; omega) (fun i hi => by
      have := h (i + 1) (by omega)
      rw [List.drop_drop, Nat.add_comm, ← Nat.succ_mul]
      exact this)
    refine ⟨a :: l, by simp [h1], ?_, ?_⟩
    · rw [List.flatMap_cons, ← h2, ← ha, List.take_append_drop]
    · intro b hb
      rcases List.mem_cons.1 hb with rfl | hb
      · exact hok
      · exact h3 b hb
theorem ms_len {α β : Type} {f : α → Option β} : ∀ {l : List α} {ys : List β}, l.mapM f = some ys → ys.length = l.length
  | [], ys, h => by simp at h; subst h; rfl
  | a :: l, ys, h => by
    rw [List.mapM_cons] at h
    obtain ⟨b, _, h⟩ := Option.bind_eq_some_iff.1 h
    obtain ⟨bs, hb, h⟩ := Option.bind_eq_some_iff.1 h
    simp at h
    subst h
    simp [ms_len hb]
theorem ms_get {α β : Type} {f : α → Option β} : ∀ {l : List α} {ys : List β}, l.mapM f = some ys → ∀ (i : Nat) (a : α), l[i]? = some a → ∃ y, ys[i]? = some y ∧ f a = some y
  | [], ys, h, i, a, ha => by simp at ha
  | b :: l, ys, h, i, a, ha => by
    rw [List.mapM_cons] at h
    obtain ⟨c, hc, h⟩ := Option.bind_eq_some_iff.1 h
    obtain ⟨bs, hb, h⟩ := Option.bind_eq_some_iff.1 h
    simp at h
    subst h
    cases i with
    | zero =>
      simp at ha
      subst ha
      exact ⟨c, rfl, hc⟩
    | succ i =>
      simp at ha
      obtain ⟨y, h1, h2⟩ := ms_get hb i a ha
      exact ⟨y, by simpa using h1, h2⟩
theorem trod_arr {H : Type} {enc : TypeId × Value → H} {base : Nat} {sp : Nat → Bool} {held : Bool} {fuel : Nat} {T e : TypeId} {n : Nat} {cs : List Value} {x : DataW H × List MemPlace} (ht : P.underlying T = some (.array n e)) (h : DataW.trod enc P w base sp held fuel T cs = some x) :
    cs.length = P.cellsOf T ∧ ∃ m, ∀ i, i < n → ∃ y, DataW.trod enc P w base sp held m e ((cs.drop (i * P.cellsOf e)).take (P.cellsOf e)) = some y := by
  cases fuel with
  | zero => simp [DataW.trod] at h
  | succ m =>
    unfold DataW.trod at h
    rw [ht] at h
    simp only at h
    split at h
    · rename_i hl
      refine ⟨hl, m, fun i hi => ?_⟩
      obtain ⟨xs, hx, _⟩ := Option.map_eq_some_iff.1 h
      obtain ⟨y, _, hy⟩ := ms_get hx i i (by simp [hi])
      exact ⟨y, hy⟩
    · cases h
theorem opn_arr {α : Type} {K : Kd α} {ok : α → Prop} {T e : TypeId} {n : Nat} (ht : P.underlying T = some (.array n e)) (hc : P.cellsOf T = n * P.cellsOf e) (he : P.cellsOf e = K.size) (ho : Opn P w e K ok) : Opn P w T (kA n K) (fun a => ∀ x ∈ a.l, ok x) := by
  intro H enc base sp held fuel cs x h
  obtain ⟨hl, m, hm⟩ := trod_arr ht h
  obtain ⟨l, h1, h2, h3⟩ := chunks K ok n cs (by rw [hl, hc, he]) (fun i hi => by
    obtain ⟨y, hy⟩ := hm i hi
    obtain ⟨a, ha⟩ := ho enc base sp held m _ y hy
    rw [he] at ha
    exact ⟨a, ha⟩)
  exact ⟨⟨l, h1⟩, h2, h3⟩
/-- The fields of a struct, one behind another. -/
theorem fld_cons {cs : List Value} {o n : Nat} {c r : List Value} (h : (cs.drop o).take n = c) (hr : cs.drop (o + n) = r) : cs.drop o = c ++ r := by
  rw [← h, ← hr, ← List.drop_drop, List.take_append_drop]
theorem trod_st {H : Type} {enc : TypeId × Value → H} {base : Nat} {sp : Nat → Bool} {held : Bool} {fuel : Nat} {T : TypeId} {fs : Array Field} {cs : List Value} {x : DataW H × List MemPlace} (ht : P.underlying T = some (.struct fs)) (h : DataW.trod enc P w base sp held fuel T cs = some x) :
    cs.length = P.cellsOf T ∧ ∃ m, ∀ (i : Nat) (f : Field), fs[i]? = some f → ∃ y, DataW.trod enc P w base sp held m f.type ((cs.drop f.offset).take (P.cellsOf f.type)) = some y := by
  obtain ⟨xs, m, _, _, hl, hn, hf⟩ := DataW.trod_struct ht h
  refine ⟨hl, m, fun i f hi => ?_⟩
  have hx : i < xs.length := by rw [hn]; exact (Array.getElem?_eq_some_iff.1 hi).1
  exact ⟨xs[i], by rw [hf i f hi, List.getElem?_eq_getElem hx]⟩
/-- Slices: a cell that reads as a list. -/
def OpnS {α : Type} (P : Program) (w : World) (T : TypeId) (K : Kd α) (ok : α → Prop) : Prop :=
  ∀ {H : Type} (enc : TypeId × Value → H) (base : Nat) (sp : Nat → Bool) (held : Bool) (fuel : Nat) (cs : List Value) (x : DataW H × List MemPlace), DataW.trod enc P w base sp held fuel T cs = some x → ∃ (l : List α) (V : Value), cs = [V] ∧ Rd K w V l ∧ (∀ a ∈ l, ok a) ∧ l.length ≤ maxLen ∧ (sb V < w.heap.size ∨ l = [])
theorem cells_get {base : Nat} {a : Addr} {n : Nat} {cs : List Value} (h : w.cells? base a n = some cs) : cs.length = n ∧ ∀ j, j < n → w.cell? (a.add j) = cs[j]? := by
  unfold World.cells? at h
  split at h
  · refine ⟨by simpa using ms_len h, fun j hj => ?_⟩
    obtain ⟨y, h1, h2⟩ := ms_get h j j (by simp [hj])
    rw [h1, h2]
  · cases h
theorem opn_slice {α : Type} {K : Kd α} {ok : α → Prop} {T e : TypeId} (ht : P.underlying T = some (.slice e)) (he : P.cellsOf e = K.size) (hk : 0 < K.size) (ho : Opn P w e K ok) : OpnS P w T K ok := by
  intro H enc base sp held fuel cs x h
  rcases DataW.trod_slice ht h with ⟨rfl, _⟩ | ⟨a, len, cap, elems, rest, n, rfl, rfl, _, _, hl, hm, hlen, hel, _, _⟩
  · exact ⟨[], _, rfl, Rd.nil K w, by simp, by simp, .inr rfl⟩
  · have hex : ∀ i, i < len → ∃ b, (∀ j z, (K.enc b)[j]? = some z → w.cell? (a.add (i * K.size + j)) = some z) ∧ ok b := by
      intro i hi
      have h1 := hel i hi
      rw [List.getElem?_eq_getElem (by omega)] at h1
      obtain ⟨cs, h2, h3⟩ := Option.bind_eq_some_iff.1 h1
      obtain ⟨b, rfl, hb⟩ := ho enc base sp held n cs _ h3
      obtain ⟨h4, h5⟩ := cells_get h2
      rw [he] at h4 h5
      refine ⟨b, fun j z hz => ?_, hb⟩
      have hj : j < K.size := by rw [← h4]; exact (List.getElem?_eq_some_iff.1 hz).1
      have := h5 j hj
      rw [hz] at this
      rw [← this]
      congr 1
      unfold Addr.add
      by_cases hi0 : i * K.size = 0
      · by_cases hj0 : j = 0
        · simp [hi0, hj0]
        · simp [hi0, hj0]
      · by_cases hj0 : j = 0
        · simp [hi0, hj0]
        · have : i * K.size + j ≠ 0 := by omega
          simp [hi0, hj0, this, Nat.add_assoc]
    have hlist : ∀ m, m ≤ len → ∃ l : List α, l.length = m ∧ (∀ b ∈ l, ok b) ∧ ∀ j z, (l.flatMap K.enc)[j]? = some z → w.cell? (a.add j) = some z := by
      intro m
      induction m with
      | zero => intro _; exact ⟨[], rfl, by simp, by simp⟩
      | succ m ih =>
        intro hm
        obtain ⟨l, h1, h2, h3⟩ := ih (by omega)
        obtain ⟨b, h4, h5⟩ := hex m (by omega)
        refine ⟨l ++ [b], by simp [h1], ?_, ?_⟩
        · intro c hc
          rcases List.mem_append.1 hc with hc | hc
          · exact h2 c hc
          · obtain rfl := List.mem_singleton.1 hc
            exact h5
        · intro j z hz
          have hL : (l.flatMap K.enc).length = m * K.size := by rw [len_flat, h1]
          simp only [List.flatMap_append, List.flatMap_cons, List.flatMap_nil, List.append_nil] at hz
          by_cases hj : j < m * K.size
          · rw [List.getElem?_append_left (by omega)] at hz
            exact h3 j z hz
          · rw [List.getElem?_append_right (by omega), hL] at hz
            have := h4 (j - m * K.size) z hz
            rwa [show m * K.size + (j - m * K.size) = j from by omega] at this
    obtain ⟨l, h1, h2, h3⟩ := hlist len (Nat.le_refl _)
    have hpos : 0 < l.length → ∃ z, w.cell? a = some z := by
      intro hp
      cases l with
      | nil => simp at hp
      | cons b l =>
        have hb : (K.enc b).length = K.size := K.len b
        have : ∃ z, ((b :: l).flatMap K.enc)[0]? = some z := ⟨_, List.getElem?_eq_getElem (by simp [List.flatMap_cons, hb]; omega)⟩
        obtain ⟨z, hz⟩ := this
        have := h3 0 z hz
        exact ⟨z, by simpa [Addr.add] using this⟩
    refine ⟨l, _, rfl, ⟨some a, cap, by rw [h1], by omega, fun hp => ?_⟩, h2, by omega, ?_⟩
    · obtain ⟨z, hz⟩ := hpos hp
      obtain ⟨b, o, s⟩ := a
      have hs : s = none := by
        unfold World.cell? at hz
        split at hz
        · cases s with
          | none => rfl
          | some _ => simp at hz
        · cases hz
      subst hs
      refine ⟨b, o, rfl, fun j v hv => ?_⟩
      have := h3 j v hv
      rwa [Addr.add_lit] at this
    · rcases Nat.eq_zero_or_pos l.length with h0 | hp
      · exact .inr (List.eq_nil_of_length_eq_zero h0)
      · obtain ⟨z, hz⟩ := hpos hp
        refine .inl ?_
        unfold World.cell? at hz
        split at hz
        · rename_i hh
          exact (Array.getElem?_eq_some_iff.1 hh).1
        · cases hz
theorem agg_of {T : TypeId} {v : Value} {cs : List Value} {base : Nat} (h : aggB P T = some true) (hv : Value.okWide P w .any base T v) (hc : v.cells.toList = cs) : v = .agg cs.toArray := by
  unfold aggB at h
  obtain ⟨d, hu, hd⟩ := Option.map_eq_some_iff.1 h
  unfold Value.okWide at hv
  rw [hu] at hv
  cases d <;> simp at hd <;> (obtain ⟨c2, rfl, _⟩ := hv; subst hc; simp [Value.cells])
end Go.Xw

/- What a row's arguments are: slices of records that hold slices. -/
set_option linter.unusedVariables false
set_option linter.unusedSimpArgs false
namespace Go.Xw
open Go
theorem opn_sliceN {P : Program} {w : World} {α : Type} {n : Nat} {D : World → List Value → α → Prop} {ok : α → Prop} {T e : TypeId} (ht : P.underlying T = some (.slice e)) (he : P.cellsOf e = n) (hk : 0 < n)
    (ho : ∀ {H : Type} (enc : TypeId × Value → H) (base : Nat) (sp : Nat → Bool) (held : Bool) (fuel : Nat) (cs : List Value) (x : DataW H × List MemPlace), DataW.trod enc P w base sp held fuel e cs = some x → ∃ a : α, D w cs a ∧ ok a ∧ cs.length = n ∧ ∀ v ∈ cs, v.oneCell' = true)
    {H : Type} (enc : TypeId × Value → H) (base : Nat) (sp : Nat → Bool) (held : Bool) (fuel : Nat) (cs : List Value) (x : DataW H × List MemPlace) (h : DataW.trod enc P w base sp held fuel T cs = some x) :
    ∃ (l : List α) (V : Value), cs = [V] ∧ RdN n D w V l ∧ (∀ a ∈ l, ok a) ∧ l.length ≤ maxLen ∧ (sb V < w.heap.size ∨ l = []) := by
  let β := { p : { l : List Value // l.length = n ∧ ∀ v ∈ l, v.oneCell' = true } × α // D w p.1.1 p.2 ∧ ok p.2 }
  let K : Kd β := ⟨fun p => p.1.1.1, n, fun p => p.1.1.2.1, fun p => p.1.1.2.2⟩
  have hp : Opn P w e K (fun _ => True) := by
    intro H enc base sp held fuel cs x h
    obtain ⟨a, hd, hok, hl, h1⟩ := ho enc base sp held fuel cs x h
    exact ⟨⟨(⟨cs, hl, h1⟩, a), hd, hok⟩, rfl, trivial⟩
  obtain ⟨l, V, e1, r, _, hm, hs⟩ := opn_slice (K := K) ht he hk hp enc base sp held fuel cs x h
  refine ⟨l.map (fun p => p.1.2), V, e1, ⟨l.map (fun p => p.1.1), ?_, by simp, ?_⟩, ?_, by simpa using hm, ?_⟩
  · obtain ⟨A, c, rfl, hc, hr⟩ := r
    refine ⟨A, c, by simp, by simpa using hc, fun hpos => ?_⟩
    obtain ⟨b, o, ea, hat⟩ := hr (by simpa using hpos)
    refine ⟨b, o, ea, ?_⟩
    rw [List.flatMap_map]
    exact hat
  · intro i h1 h2
    have hi : i < l.length := by simpa using h1
    simp only [List.getElem_map]
    exact (l[i]).2.1
  · intro a ha
    obtain ⟨p, _, rfl⟩ := List.mem_map.1 ha
    exact p.2.2
  · rcases hs with hs | rfl
    · exact .inl hs
    · exact .inr rfl
end Go.Xw

/- What the laws' arguments open into: written by rows.py. -/
set_option linter.unusedVariables false
set_option linter.unusedSimpArgs false
namespace Go.Proofs.Ytklhbaghbmndeaa
open Go Go.Xw
def ok_rickyardlaw05_Act (a : S_rickyardlaw05_Act) : Prop := (Lit.int .i64 a.Kind).wf = true ∧ (Lit.int .i64 a.At).wf = true ∧ (Lit.int .u64 a.W).wf = true ∧ ((∀ x ∈ a.L, (Lit.int .i64 x).wf = true) ∧ List.length a.L ≤ maxLen)
theorem opn_rickyardlaw05_Act {w : World} {H : Type} (enc : TypeId × Value → H) (base : Nat) (sp : Nat → Bool) (held : Bool) (fuel : Nat) (cs : List Value) (x : DataW H × List MemPlace) (h : DataW.trod enc Try.prog w base sp held fuel 39 cs = some x) : ∃ a : S_rickyardlaw05_Act, ∃ V0 : Value, ∃ R0 : Rd (kI .i64) w V0 a.L, cs = cellsOf [Seg.cell (.int .i64 a.Kind), Seg.cell (.int .i64 a.At), Seg.cell (.int .u64 a.W), Seg.cell V0 R0.one] ∧ ok_rickyardlaw05_Act a := by
  obtain ⟨hl, m, hf⟩ := trod_st Try.underlying39 h
  obtain ⟨y0, h0⟩ := hf 0 _ rfl
  have c0 : Try.prog.cellsOf 3 = 1 := by kernel_rfl
  obtain ⟨b0, e0, o0⟩ := (opn_int Try.underlying3) enc base sp held m _ y0 h0
  have e0 : (cs.drop 0).take 1 = (kI .i64).enc b0 := (congrArg (fun n => (cs.drop 0).take n) c0).symm.trans e0
  obtain ⟨y1, h1⟩ := hf 1 _ rfl
  have c1 : Try.prog.cellsOf 3 = 1 := by kernel_rfl
  obtain ⟨b1, e1, o1⟩ := (opn_int Try.underlying3) enc base sp held m _ y1 h1
  have e1 : (cs.drop 1).take 1 = (kI .i64).enc b1 := (congrArg (fun n => (cs.drop 1).take n) c1).symm.trans e1
  obtain ⟨y2, h2⟩ := hf 2 _ rfl
  have c2 : Try.prog.cellsOf 22 = 1 := by kernel_rfl
  obtain ⟨b2, e2, o2⟩ := (opn_int Try.underlying22) enc base sp held m _ y2 h2
  have e2 : (cs.drop 2).take 1 = (kI .u64).enc b2 := (congrArg (fun n => (cs.drop 2).take n) c2).symm.trans e2
  obtain ⟨y3, h3⟩ := hf 3 _ rfl
  have c3 : Try.prog.cellsOf 25 = 1 := by kernel_rfl
  obtain ⟨b3, W3, e3, r3, o3, l3, _⟩ := (opn_slice (K := (kI .i64)) Try.underlying25 (by kernel_rfl) (by decide) (opn_int Try.underlying3)) enc base sp held m _ y3 h3
  have e3 : (cs.drop 3).take 1 = [W3] := (congrArg (fun n => (cs.drop 3).take n) c3).symm.trans e3
  have hn : cs.drop 4 = [] := List.drop_eq_nil_of_le (by rw [hl]; exact Nat.le_of_eq (by kernel_rfl))
  have hc : cs = (kI .i64).enc b0 ++ ((kI .i64).enc b1 ++ ((kI .u64).enc b2 ++ ([W3] ++ []))) := (fld_cons (o := 0) (n := 1) e0 (fld_cons (o := 1) (n := 1) e1 (fld_cons (o := 2) (n := 1) e2 (fld_cons (o := 3) (n := 1) e3 hn))))
  refine ⟨⟨b0, b1, b2, b3⟩, W3, r3, ?_, o0, o1, o2, ⟨o3, l3⟩⟩
  rw [hc]
  simp [kA, kI, kB, kS, kT, cellsOf, Seg.cell, Kd.seg]
def ok_rickyardlaw05_Fenced (a : S_rickyardlaw05_Fenced) : Prop := (Lit.int .i64 a.Line).wf = true ∧ (∀ x ∈ a.Ws.l, (Lit.int .u64 x).wf = true) ∧ ((∀ x ∈ a.Acts, ok_rickyardlaw05_Act x) ∧ List.length a.Acts ≤ maxLen) ∧ ((∀ x ∈ a.L, (Lit.int .i64 x).wf = true) ∧ List.length a.L ≤ maxLen)
theorem opn_rickyardlaw05_Fenced {w : World} {H : Type} (enc : TypeId × Value → H) (base : Nat) (sp : Nat → Bool) (held : Bool) (fuel : Nat) (cs : List Value) (x : DataW H × List MemPlace) (h : DataW.trod enc Try.prog w base sp held fuel 27 cs = some x) : ∃ a : S_rickyardlaw05_Fenced, ∃ V0 : Value, ∃ V1 : Value, ∃ R0 : RdN 4 D_rickyardlaw05_Act w V0 a.Acts, ∃ R1 : Rd (kI .i64) w V1 a.L, cs = cellsOf [Seg.cell (.int .i64 a.Line), Kd.seg (kA 8 (kI .u64)) a.Ws, Seg.cell V0 R0.one, Seg.cell V1 R1.one] ∧ ok_rickyardlaw05_Fenced a := by
  obtain ⟨hl, m, hf⟩ := trod_st Try.underlying27 h
  obtain ⟨y0, h0⟩ := hf 0 _ rfl
  have c0 : Try.prog.cellsOf 3 = 1 := by kernel_rfl
  obtain ⟨b0, e0, o0⟩ := (opn_int Try.underlying3) enc base sp held m _ y0 h0
  have e0 : (cs.drop 0).take 1 = (kI .i64).enc b0 := (congrArg (fun n => (cs.drop 0).take n) c0).symm.trans e0
  obtain ⟨y1, h1⟩ := hf 1 _ rfl
  have c1 : Try.prog.cellsOf 23 = 8 := by kernel_rfl
  obtain ⟨b1, e1, o1⟩ := (opn_arr Try.underlying23 (by kernel_rfl) (by kernel_rfl) (opn_int Try.underlying22)) enc base sp held m _ y1 h1
  have e1 : (cs.drop 1).take 8 = (kA 8 (kI .u64)).enc b1 := (congrArg (fun n => (cs.drop 1).take n) c1).symm.trans e1
  obtain ⟨y2, h2⟩ := hf 2 _ rfl
  have c2 : Try.prog.cellsOf 24 = 1 := by kernel_rfl
  obtain ⟨b2, W2, e2, r2, o2, l2, _⟩ := (opn_sliceN (n := 4) (D := D_rickyardlaw05_Act) (ok := ok_rickyardlaw05_Act) (w := w) Try.underlying24 (by kernel_rfl) (by decide) (fun enc base sp held fuel cs x h => by obtain ⟨a, V0, R0, e, o⟩ := opn_rickyardlaw05_Act enc base sp held fuel cs x h; exact ⟨a, ⟨V0, R0, e⟩, o, by rw [e, len_cellsOf]; rfl, by rw [e]; exact one_cellsOf _⟩)) enc base sp held m _ y2 h2
  have e2 : (cs.drop 9).take 1 = [W2] := (congrArg (fun n => (cs.drop 9).take n) c2).symm.trans e2
  obtain ⟨y3, h3⟩ := hf 3 _ rfl
  have c3 : Try.prog.cellsOf 25 = 1 := by kernel_rfl
  obtain ⟨b3, W3, e3, r3, o3, l3, _⟩ := (opn_slice (K := (kI .i64)) Try.underlying25 (by kernel_rfl) (by decide) (opn_int Try.underlying3)) enc base sp held m _ y3 h3
  have e3 : (cs.drop 10).take 1 = [W3] := (congrArg (fun n => (cs.drop 10).take n) c3).symm.trans e3
  have hn : cs.drop 11 = [] := List.drop_eq_nil_of_le (by rw [hl]; exact Nat.le_of_eq (by kernel_rfl))
  have hc : cs = (kI .i64).enc b0 ++ ((kA 8 (kI .u64)).enc b1 ++ ([W2] ++ ([W3] ++ []))) := (fld_cons (o := 0) (n := 1) e0 (fld_cons (o := 1) (n := 8) e1 (fld_cons (o := 9) (n := 1) e2 (fld_cons (o := 10) (n := 1) e3 hn))))
  refine ⟨⟨b0, b1, b2, b3⟩, W2, W3, r2, r3, ?_, o0, o1, ⟨o2, l2⟩, ⟨o3, l3⟩⟩
  rw [hc]
  simp [kA, kI, kB, kS, kT, cellsOf, Seg.cell, Kd.seg]
def ok_api_Fate (a : S_api_Fate) : Prop := (Lit.int .i64 a.At).wf = true ∧ (Lit.int .u64 a.Lasts).wf = true ∧ True ∧ (Lit.int .u64 a.Sent).wf = true ∧ (Lit.int .u64 a.Stored).wf = true
theorem opn_api_Fate {w : World} : Opn Try.prog w 55 k_api_Fate ok_api_Fate := by
  intro H enc base sp held fuel cs x h
  obtain ⟨hl, m, hf⟩ := trod_st Try.underlying55 h
  obtain ⟨y0, h0⟩ := hf 0 _ rfl
  have c0 : Try.prog.cellsOf 3 = 1 := by kernel_rfl
  obtain ⟨b0, e0, o0⟩ := (opn_int Try.underlying3) enc base sp held m _ y0 h0
  have e0 : (cs.drop 0).take 1 = (kI .i64).enc b0 := (congrArg (fun n => (cs.drop 0).take n) c0).symm.trans e0
  obtain ⟨y1, h1⟩ := hf 1 _ rfl
  have c1 : Try.prog.cellsOf 22 = 1 := by kernel_rfl
  obtain ⟨b1, e1, o1⟩ := (opn_int Try.underlying22) enc base sp held m _ y1 h1
  have e1 : (cs.drop 1).take 1 = (kI .u64).enc b1 := (congrArg (fun n => (cs.drop 1).take n) c1).symm.trans e1
  obtain ⟨y2, h2⟩ := hf 2 _ rfl
  have c2 : Try.prog.cellsOf 4 = 1 := by kernel_rfl
  obtain ⟨b2, e2, o2⟩ := (opn_bool Try.underlying4) enc base sp held m _ y2 h2
  have e2 : (cs.drop 2).take 1 = kB.enc b2 := (congrArg (fun n => (cs.drop 2).take n) c2).symm.trans e2
  obtain ⟨y3, h3⟩ := hf 3 _ rfl
  have c3 : Try.prog.cellsOf 22 = 1 := by kernel_rfl
  obtain ⟨b3, e3, o3⟩ := (opn_int Try.underlying22) enc base sp held m _ y3 h3
  have e3 : (cs.drop 3).take 1 = (kI .u64).enc b3 := (congrArg (fun n => (cs.drop 3).take n) c3).symm.trans e3
  obtain ⟨y4, h4⟩ := hf 4 _ rfl
  have c4 : Try.prog.cellsOf 22 = 1 := by kernel_rfl
  obtain ⟨b4, e4, o4⟩ := (opn_int Try.underlying22) enc base sp held m _ y4 h4
  have e4 : (cs.drop 4).take 1 = (kI .u64).enc b4 := (congrArg (fun n => (cs.drop 4).take n) c4).symm.trans e4
  have hn : cs.drop 5 = [] := List.drop_eq_nil_of_le (by rw [hl]; exact Nat.le_of_eq (by kernel_rfl))
  have hc : cs = (kI .i64).enc b0 ++ ((kI .u64).enc b1 ++ (kB.enc b2 ++ ((kI .u64).enc b3 ++ ((kI .u64).enc b4 ++ [])))) := (fld_cons (o := 0) (n := 1) e0 (fld_cons (o := 1) (n := 1) e1 (fld_cons (o := 2) (n := 1) e2 (fld_cons (o := 3) (n := 1) e3 (fld_cons (o := 4) (n := 1) e4 hn)))))
  refine ⟨⟨b0, b1, b2, b3, b4⟩, ?_, o0, o1, o2, o3, o4⟩
  rw [hc]
  simp [kA, kI, kB, kS, kT, cellsOf, Seg.cell, Kd.seg, k_api_Fate, segs_api_Fate]
def ok_api_Geometry (a : S_api_Geometry) : Prop := (Lit.int .i64 a.Blocks).wf = true ∧ (Lit.int .i64 a.Slots).wf = true ∧ (Lit.int .i64 a.Gens).wf = true
theorem opn_api_Geometry {w : World} : Opn Try.prog w 106 k_api_Geometry ok_api_Geometry := by
  intro H enc base sp held fuel cs x h
  obtain ⟨hl, m, hf⟩ := trod_st Try.underlying106 h
  obtain ⟨y0, h0⟩ := hf 0 _ rfl
  have c0 : Try.prog.cellsOf 3 = 1 := by kernel_rfl
  obtain ⟨b0, e0, o0⟩ := (opn_int Try.underlying3) enc base sp held m _ y0 h0
  have e0 : (cs.drop 0).take 1 = (kI .i64).enc b0 := (congrArg (fun n => (cs.drop 0).take n) c0).symm.trans e0
  obtain ⟨y1, h1⟩ := hf 1 _ rfl
  have c1 : Try.prog.cellsOf 3 = 1 := by kernel_rfl
  obtain ⟨b1, e1, o1⟩ := (opn_int Try.underlying3) enc base sp held m _ y1 h1
  have e1 : (cs.drop 1).take 1 = (kI .i64).enc b1 := (congrArg (fun n => (cs.drop 1).take n) c1).symm.trans e1
  obtain ⟨y2, h2⟩ := hf 2 _ rfl
  have c2 : Try.prog.cellsOf 3 = 1 := by kernel_rfl
  obtain ⟨b2, e2, o2⟩ := (opn_int Try.underlying3) enc base sp held m _ y2 h2
  have e2 : (cs.drop 2).take 1 = (kI .i64).enc b2 := (congrArg (fun n => (cs.drop 2).take n) c2).symm.trans e2
  have hn : cs.drop 3 = [] := List.drop_eq_nil_of_le (by rw [hl]; exact Nat.le_of_eq (by kernel_rfl))
  have hc : cs = (kI .i64).enc b0 ++ ((kI .i64).enc b1 ++ ((kI .i64).enc b2 ++ [])) := (fld_cons (o := 0) (n := 1) e0 (fld_cons (o := 1) (n := 1) e1 (fld_cons (o := 2) (n := 1) e2 hn)))
  refine ⟨⟨b0, b1, b2⟩, ?_, o0, o1, o2⟩
  rw [hc]
  simp [kA, kI, kB, kS, kT, cellsOf, Seg.cell, Kd.seg, k_api_Fate, k_api_Geometry, k_api_Tickets, segs_api_Fate, segs_api_Geometry, segs_api_Tickets]
def ok_api_Tickets (a : S_api_Tickets) : Prop := ok_api_Geometry a.Geometry ∧ (Lit.int .i64 a.Top).wf = true ∧ (Lit.int .i64 a.High).wf = true ∧ (Lit.int .i64 a.Free).wf = true
theorem opn_api_Tickets {w : World} : Opn Try.prog w 108 k_api_Tickets ok_api_Tickets := by
  intro H enc base sp held fuel cs x h
  obtain ⟨hl, m, hf⟩ := trod_st Try.underlying108 h
  obtain ⟨y0, h0⟩ := hf 0 _ rfl
  have c0 : Try.prog.cellsOf 106 = 3 := by kernel_rfl
  obtain ⟨b0, e0, o0⟩ := (opn_api_Geometry (w := w)) enc base sp held m _ y0 h0
  have e0 : (cs.drop 0).take 3 = k_api_Geometry.enc b0 := (congrArg (fun n => (cs.drop 0).take n) c0).symm.trans e0
  obtain ⟨y1, h1⟩ := hf 1 _ rfl
  have c1 : Try.prog.cellsOf 3 = 1 := by kernel_rfl
  obtain ⟨b1, e1, o1⟩ := (opn_int Try.underlying3) enc base sp held m _ y1 h1
  have e1 : (cs.drop 3).take 1 = (kI .i64).enc b1 := (congrArg (fun n => (cs.drop 3).take n) c1).symm.trans e1
  obtain ⟨y2, h2⟩ := hf 2 _ rfl
  have c2 : Try.prog.cellsOf 3 = 1 := by kernel_rfl
  obtain ⟨b2, e2, o2⟩ := (opn_int Try.underlying3) enc base sp held m _ y2 h2
  have e2 : (cs.drop 4).take 1 = (kI .i64).enc b2 := (congrArg (fun n => (cs.drop 4).take n) c2).symm.trans e2
  obtain ⟨y3, h3⟩ := hf 3 _ rfl
  have c3 : Try.prog.cellsOf 3 = 1 := by kernel_rfl
  obtain ⟨b3, e3, o3⟩ := (opn_int Try.underlying3) enc base sp held m _ y3 h3
  have e3 : (cs.drop 5).take 1 = (kI .i64).enc b3 := (congrArg (fun n => (cs.drop 5).take n) c3).symm.trans e3
  have hn : cs.drop 6 = [] := List.drop_eq_nil_of_le (by rw [hl]; exact Nat.le_of_eq (by kernel_rfl))
  have hc : cs = k_api_Geometry.enc b0 ++ ((kI .i64).enc b1 ++ ((kI .i64).enc b2 ++ ((kI .i64).enc b3 ++ []))) := (fld_cons (o := 0) (n := 3) e0 (fld_cons (o := 3) (n := 1) e1 (fld_cons (o := 4) (n := 1) e2 (fld_cons (o := 5) (n := 1) e3 hn))))
  refine ⟨⟨b0, b1, b2, b3⟩, ?_, o0, o1, o2, o3⟩
  rw [hc]
  simp [kA, kI, kB, kS, kT, cellsOf, Seg.cell, Kd.seg, k_api_Fate, k_api_Geometry, k_api_Tickets, segs_api_Fate, segs_api_Geometry, segs_api_Tickets]
def ok_api_Super (a : S_api_Super) : Prop := (Lit.int .i64 a.Epoch).wf = true ∧ ok_api_Tickets a.Tickets ∧ (Lit.int .i64 a.Dir).wf = true ∧ ((∀ x ∈ a.Charts, (Lit.int .i64 x).wf = true) ∧ List.length a.Charts ≤ maxLen)
theorem opn_api_Super {w : World} {H : Type} (enc : TypeId × Value → H) (base : Nat) (sp : Nat → Bool) (held : Bool) (fuel : Nat) (cs : List Value) (x : DataW H × List MemPlace) (h : DataW.trod enc Try.prog w base sp held fuel 110 cs = some x) : ∃ a : S_api_Super, ∃ V0 : Value, ∃ R0 : Rd (kI .i64) w V0 a.Charts, cs = cellsOf [Seg.cell (.int .i64 a.Epoch), Seg.cell (.int .i64 a.Tickets.Geometry.Blocks), Seg.cell (.int .i64 a.Tickets.Geometry.Slots), Seg.cell (.int .i64 a.Tickets.Geometry.Gens), Seg.cell (.int .i64 a.Tickets.Top), Seg.cell (.int .i64 a.Tickets.High), Seg.cell (.int .i64 a.Tickets.Free), Seg.cell (.int .i64 a.Dir), Seg.cell V0 R0.one] ∧ ok_api_Super a := by
  obtain ⟨hl, m, hf⟩ := trod_st Try.underlying110 h
  obtain ⟨y0, h0⟩ := hf 0 _ rfl
  have c0 : Try.prog.cellsOf 3 = 1 := by kernel_rfl
  obtain ⟨b0, e0, o0⟩ := (opn_int Try.underlying3) enc base sp held m _ y0 h0
  have e0 : (cs.drop 0).take 1 = (kI .i64).enc b0 := (congrArg (fun n => (cs.drop 0).take n) c0).symm.trans e0
  obtain ⟨y1, h1⟩ := hf 1 _ rfl
  have c1 : Try.prog.cellsOf 108 = 6 := by kernel_rfl
  obtain ⟨b1, e1, o1⟩ := (opn_api_Tickets (w := w)) enc base sp held m _ y1 h1
  have e1 : (cs.drop 1).take 6 = k_api_Tickets.enc b1 := (congrArg (fun n => (cs.drop 1).take n) c1).symm.trans e1
  obtain ⟨y2, h2⟩ := hf 2 _ rfl
  have c2 : Try.prog.cellsOf 3 = 1 := by kernel_rfl
  obtain ⟨b2, e2, o2⟩ := (opn_int Try.underlying3) enc base sp held m _ y2 h2
  have e2 : (cs.drop 7).take 1 = (kI .i64).enc b2 := (congrArg (fun n => (cs.drop 7).take n) c2).symm.trans e2
  obtain ⟨y3, h3⟩ := hf 3 _ rfl
  have c3 : Try.prog.cellsOf 25 = 1 := by kernel_rfl
  obtain ⟨b3, W3, e3, r3, o3, l3, _⟩ := (opn_slice (K := (kI .i64)) Try.underlying25 (by kernel_rfl) (by decide) (opn_int Try.underlying3)) enc base sp held m _ y3 h3
  have e3 : (cs.drop 8).take 1 = [W3] := (congrArg (fun n => (cs.drop 8).take n) c3).symm.trans e3
  have hn : cs.drop 9 = [] := List.drop_eq_nil_of_le (by rw [hl]; exact Nat.le_of_eq (by kernel_rfl))
  have hc : cs = (kI .i64).enc b0 ++ (k_api_Tickets.enc b1 ++ ((kI .i64).enc b2 ++ ([W3] ++ []))) := (fld_cons (o := 0) (n := 1) e0 (fld_cons (o := 1) (n := 6) e1 (fld_cons (o := 7) (n := 1) e2 (fld_cons (o := 8) (n := 1) e3 hn))))
  refine ⟨⟨b0, b1, b2, b3⟩, W3, r3, ?_, o0, o1, o2, ⟨o3, l3⟩⟩
  rw [hc]
  simp [kA, kI, kB, kS, kT, cellsOf, Seg.cell, Kd.seg, k_api_Fate, k_api_Geometry, k_api_Tickets, segs_api_Fate, segs_api_Geometry, segs_api_Tickets]
def ok_rickyardlaw16_Cut (a : S_rickyardlaw16_Cut) : Prop := (Lit.int .u8 a.Steps).wf = true ∧ ((∀ x ∈ a.Plan, (Lit.int .i64 x).wf = true) ∧ List.length a.Plan ≤ maxLen) ∧ ((∀ x ∈ a.L, (Lit.int .i64 x).wf = true) ∧ List.length a.L ≤ maxLen)
theorem opn_rickyardlaw16_Cut {w : World} {H : Type} (enc : TypeId × Value → H) (base : Nat) (sp : Nat → Bool) (held : Bool) (fuel : Nat) (cs : List Value) (x : DataW H × List MemPlace) (h : DataW.trod enc Try.prog w base sp held fuel 129 cs = some x) : ∃ a : S_rickyardlaw16_Cut, ∃ V0 : Value, ∃ V1 : Value, ∃ R0 : Rd (kI .i64) w V0 a.Plan, ∃ R1 : Rd (kI .i64) w V1 a.L, cs = cellsOf [Seg.cell (.int .u8 a.Steps), Seg.cell V0 R0.one, Seg.cell V1 R1.one] ∧ ok_rickyardlaw16_Cut a := by
  obtain ⟨hl, m, hf⟩ := trod_st Try.underlying129 h
  obtain ⟨y0, h0⟩ := hf 0 _ rfl
  have c0 : Try.prog.cellsOf 5 = 1 := by kernel_rfl
  obtain ⟨b0, e0, o0⟩ := (opn_int Try.underlying5) enc base sp held m _ y0 h0
  have e0 : (cs.drop 0).take 1 = (kI .u8).enc b0 := (congrArg (fun n => (cs.drop 0).take n) c0).symm.trans e0
  obtain ⟨y1, h1⟩ := hf 1 _ rfl
  have c1 : Try.prog.cellsOf 25 = 1 := by kernel_rfl
  obtain ⟨b1, W1, e1, r1, o1, l1, _⟩ := (opn_slice (K := (kI .i64)) Try.underlying25 (by kernel_rfl) (by decide) (opn_int Try.underlying3)) enc base sp held m _ y1 h1
  have e1 : (cs.drop 1).take 1 = [W1] := (congrArg (fun n => (cs.drop 1).take n) c1).symm.trans e1
  obtain ⟨y2, h2⟩ := hf 2 _ rfl
  have c2 : Try.prog.cellsOf 25 = 1 := by kernel_rfl
  obtain ⟨b2, W2, e2, r2, o2, l2, _⟩ := (opn_slice (K := (kI .i64)) Try.underlying25 (by kernel_rfl) (by decide) (opn_int Try.underlying3)) enc base sp held m _ y2 h2
  have e2 : (cs.drop 2).take 1 = [W2] := (congrArg (fun n => (cs.drop 2).take n) c2).symm.trans e2
  have hn : cs.drop 3 = [] := List.drop_eq_nil_of_le (by rw [hl]; exact Nat.le_of_eq (by kernel_rfl))
  have hc : cs = (kI .u8).enc b0 ++ ([W1] ++ ([W2] ++ [])) := (fld_cons (o := 0) (n := 1) e0 (fld_cons (o := 1) (n := 1) e1 (fld_cons (o := 2) (n := 1) e2 hn)))
  refine ⟨⟨b0, b1, b2⟩, W1, W2, r1, r2, ?_, o0, ⟨o1, l1⟩, ⟨o2, l2⟩⟩
  rw [hc]
  simp [kA, kI, kB, kS, kT, cellsOf, Seg.cell, Kd.seg, k_api_Fate, k_api_Geometry, k_api_Tickets, segs_api_Fate, segs_api_Geometry, segs_api_Tickets]
end Go.Proofs.Ytklhbaghbmndeaa

/- The pure statement of PressNil. -/
set_option linter.unusedVariables false
namespace Go.Proofs.Ytklhbaghbmndeaa.Pure
open Go Go.Xw
theorem awake15 : rickyardlaw15_awake.f 200000 = some true := by decide +kernel
theorem PressNil : ∀ (a0 : Int) (a1 : Int) (a2 : List Int), (Lit.int .i64 a0).wf = true → (Lit.int .i64 a1).wf = true → ((∀ x ∈ a2, (Lit.int .u8 x).wf = true) ∧ List.length a2 ≤ maxLen) → ∃ fu, rickyardlaw15_PressNil.f fu a0 a1 a2 = some true := by
  intro a0 a1 a2 _ _ _
  refine ⟨200000, ?_⟩
  unfold rickyardlaw15_PressNil.f
  rw [awake15]
  rfl
end Go.Proofs.Ytklhbaghbmndeaa.Pure

/- The law PressNil holds for every input: the row, out of the walk of the law's function and of its pure statement. Written by rows.py. -/
namespace Go.Proofs.Ytklhbaghbmndeaa.pressNil
open Go.ChangeShapes Go.WideShapes Go.ChangeAt Go.RowKit
open Go.ChangeMaps (open_string shut_string)
open Go Go.Xw
set_option linter.unusedVariables false
theorem own : ownKnob Try.prog.godebug = none := Facts.own
theorem laidOut : laidOutB Try.prog = true := Facts.laid
theorem closed : joinedFacts Try.pinned.checked.prog 11 Try.f11 Rows.pressNilSpec Rows.pressNilRow = true := by
  unfold joinedFacts
  rw [Facts.enter, Facts.lifts, Facts.make, Facts.laid, Facts.rowed, Facts.plain, Facts.heard]
  kernel_rfl
theorem enc_seg {α : Type} (K : Kd α) (a : α) : K.enc a = cellsOf [Kd.seg K a] := by simp [cellsOf, Kd.seg]
def start : Input := ⟨#[], #[.int .i64 0, .int .i64 0, .slice none 0 0], []⟩
set_option maxRecDepth 100000 in
set_option maxHeartbeats 1000000 in
theorem lifted (os : Os) (started : os.Started) (H : Type) (enc : TypeId × Value → H) :
    ReturnsInHanded {} Try.checked os 11 .any (Rows.pressNilSpec.pre6 enc Try.prog Try.f11 Rows.pressNilRow.domain false) (Rows.pressNilSpec.post enc Try.prog Try.f11 false true false false) := by
  refine returnsInHanded_of_change_sized (C := Try.checked) own started (by kernel_rfl) Try.func11
    (ChangeSpec.witness6 (enc := enc) (C := Try.checked) false start 8 (by kernel_rfl) (by kernel_rfl) (by kernel_rfl) (by kernel_rfl)) ?_
  intro W base args ds gs before hval0 hW hcnd hsz0 _
  have hval : ∀ (j : Nat) t v, Try.f11.params[j]? = some t → args[j]? = some v → Value.okWide Try.prog W .any base t v := hval0
  have hW' := hW
  obtain ⟨p, q, hA0, hV, rfl, hfz, hnd⟩ := hW
  have hA : DataW.TrodAll enc Try.prog W 0 (fun _ => true) true Try.f11.params.toList args.toList ds p := hA0
  rw [Try.params11] at hA hval
  obtain ⟨v0, vs0, d0, ds0, p0, q0, hargs, rfl, rfl, h0, r0⟩ := trodAll_cons hA
  obtain ⟨v1, vs1, d1, ds1, p1, q1, rfl, rfl, rfl, h1, r1⟩ := trodAll_cons r0
  obtain ⟨v2, vs2, d2, ds2, p2, q2, rfl, rfl, rfl, h2, r2⟩ := trodAll_cons r1
  obtain ⟨rfl, rfl, rfl⟩ := trodAll_nil r2
  obtain rfl : args = #[v0, v1, v2] := by cases args; simp_all
  obtain ⟨rfl, rfl⟩ := trodVars_none hV
  obtain ⟨a0, rfl, rfl, rfl, w0⟩ := open_int Try.underlying3 (hval 0 3 v0 rfl rfl) h0
  obtain ⟨a1, rfl, rfl, rfl, w1⟩ := open_int Try.underlying3 (hval 1 3 v1 rfl rfl) h1
  have k2 := h2
  have lt2 : ∀ x ∈ p2, x.block < W.heap.size := by obtain ⟨m, hm⟩ := k2; exact DataW.trod_lt m _ _ _ hm
  obtain ⟨fu2, hf2⟩ := h2
  obtain ⟨aa2, len2, cap2, rfl⟩ := okWide_slice Try.underlying43 (hval 2 43 v2 rfl rfl)
  obtain ⟨a2, V2_0, e2, R2_0, o2, l2, _⟩ := (opn_slice (K := (kI .u8)) Try.underlying43 (by kernel_rfl) (by decide) (opn_int Try.underlying5)) enc _ _ _ _ _ _ hf2
  obtain rfl : Value.slice aa2 len2 cap2 = V2_0 := by simpa [Value.cells] using e2
  obtain ⟨fu, hfu⟩ := Pure.PressNil a0 a1 a2 w0 w1 ⟨o2, l2⟩
  refine Calls.mono (rickyardlaw15_PressNil.ok fu W a0 a1 a2 _ R2_0 true hfu) fun e W' hr => ?_
  obtain ⟨v, rfl, rfl, gr⟩ := hr
  have bel := Fr.below gr
  exact ⟨_, rfl, _, _, _, [], _, [], hW', trodAll_mk1 (shut_bool Try.underlying4 _), (trodAll_cons_mk (shut_int Try.underlying3 w0) (trodAll_cons_mk (shut_int Try.underlying3 w1) (trodAll_cons_mk (Below.trod laidOut (by kernel_rfl) (of_decide_eq_true (by kernel_rfl)) k2 bel lt2) trodAll_mk0))), rfl, bel.frame _, fun h => by cases h⟩
theorem over : Rows.pressNilRow.holds Try.pinned (OpenSpec.ofChange Rows.pressNilSpec) :=
  OpenClaim.holds_of_wide 11 Try.f11 rfl rfl rfl rfl rfl rfl rfl ⟨rfl, rfl, rfl, rfl, rfl⟩ rfl rfl rfl rfl rfl (by kernel_rfl) Try.func11 closed
    (of_decide_eq_true (by kernel_rfl)) (by unfold Func.isWrapper; first | (rw [if_pos (by decide +kernel)]; kernel_rfl) | (rw [if_neg (by decide +kernel)]; exact ⟨rfl, rfl⟩))
    (fun os started H enc _ => lifted os started H enc)
theorem proved : Rows.PressNilSaid := over
end Go.Proofs.Ytklhbaghbmndeaa.pressNil
namespace Go.Proofs.Ytklhbaghbmndeaa
/-- The law holds. -/
theorem pressNil_holds : Rows.PressNilSaid := pressNil.proved
#print axioms pressNil_holds
end Go.Proofs.Ytklhbaghbmndeaa
