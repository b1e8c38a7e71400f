/- PressTorn: texts merged, part 3 of 5. The last part proves that the law PressTorn holds for every input. -/
import Derived.Test.YtklhbaghbmndeaaPkPressTorn2
import Derived.ProofKit
import Derived.OpenShut
import Derived.ChangeOld
import Derived.Below
import Derived.SizedLaws
import Derived.WalkKit
/- rickyard/press.Read: its model, and that the Go function computes it: written by gen.py. -/
set_option linter.unusedVariables false
namespace Go.Proofs.Ytklhbaghbmndeaa
open Go Go.Xw
def press_Read.s0 (fu : Nat) (a0 : S_pmem_Device) (a1 : Int) : (Int × (Arr 8 Int)) → Option (Sum (Sum ((List Int) × Int) (Arr 8 Int)) (Int × (Arr 8 Int))) := fun s16 => (if (decide (s16.1 < 8)) = true then ((pmem_Device_Load.f fu a0 (IntKind.i64.wrap ((IntKind.i64.wrap (a1 * 8)) + s16.1)) : Option (Int × Int)).bind fun t25 => (if (!decide (t25.2 = 0)) = true then some (Sum.inl (Sum.inl ([], t25.2))) else (if 0 ≤ s16.1 ∧ s16.1 < 8 then some (Sum.inr ((IntKind.i64.wrap (s16.1 + 1)), (Arr.set s16.2 s16.1 t25.1))) else none))) else some (Sum.inl (Sum.inr (s16.2))))
def press_Read.f (fu : Nat) (a0 : S_pmem_Device) (a1 : Int) : Option ((List Int) × Int) := ((press_may.f fu a0 a1 : Option Int).bind fun t4 => (if (!decide (t4 = 0)) = true then some ([], t4) else ((loopM (press_Read.s0 fu a0 a1) fu (0, (Arr.rep 8 (0 : Int)))).bind fun e17 => match e17 with | Sum.inl p => some p | Sum.inr x20 => ((octet_Octets.f fu (Arr.l x20) : Option (List Int)).bind fun t35 => some (t35, 0)))))
set_option maxRecDepth 100000 in
set_option maxHeartbeats 400000 in
theorem press_Read.ok (fu : Nat) (w : World) (a0 : S_pmem_Device) (G_0 : Nat) (V0_0 : Value) (R0_0 : Rd k_pmem_cell w V0_0 a0.cells) (V0_1 : Value) (R0_1 : Rd (kI .i64) w V0_1 a0.plan.list) (b_0 : Blk w G_0 139 [Seg.cell V0_0 R0_0.one, Seg.cell V0_1 R0_1.one, Seg.cell (.int .i64 a0.plan.at_), Seg.cell (.bool a0.off), Seg.cell (.bool a0.armed), Seg.cell (.int .i64 a0.left), Seg.cell (.int .i64 a0.steps)]) (a1 : Int) (r : (List Int) × Int) (h : press_Read.f fu a0 a1 = some r) :
  Calls Try.prog 55 (([.pointer (some ⟨G_0, 0, none⟩), .int .i64 a1] : List Value).toArray) w (fun e w' => ∃ v, e = .returned v ∧ ∃ u1 : Value, ∃ o2 : Own (kI .u8) 5 w' w.heap.size u1 r.1, v = .tuple #[u1, .int .i64 r.2] ∧ Gr w w') := by
 unfold press_Read.f at h
 have fB : Gr w w := Fr.refl _ _
 refine calls_cw Try.func55 rfl Try.ntmps55 rfl ?_
 refine cw_seq ?_
 refine cw_region ?_
 refine ol_val (v := .slice none 0 0) (by exact xr_assign rfl rfl) rfl rfl rfl ?_
 refine ol_val (v := .int .i64 0) (by exact xr_assign rfl rfl) rfl rfl rfl ?_
 refine ol_nil ?_
 refine cw_seq ?_
 refine cw_seq ?_
 refine cw_region ?_
 refine ol_val (v := .pointer (some ⟨G_0, 0, none⟩)) (by exact xr_move rfl rfl) rfl rfl rfl ?_
 refine ol_val (v := .int .i64 a1) (by exact xr_move rfl rfl) rfl rfl rfl ?_
 obtain ⟨t4, k5, h⟩ := bs h
 refine ol_op (by exact opv_call rfl cal102 (ac rfl (ac rfl an)) (press_may.ok fu _ a0 G_0 V0_0 (R0_0.gr fB) V0_1 (R0_1.gr fB) b_0 a1 _ k5)) rfl rfl rfl ?_
 rintro _ w7 ⟨rfl, q6⟩
 have b_0 := b_0.gr q6
 have fB := fB.gr q6
 refine ol_val (v := .int .i64 t4) (by exact xr_assign rfl rfl) rfl rfl rfl ?_
 refine ol_nil ?_
 refine cw_seq ?_
 refine cw_region ?_
 refine ol_val (v := .int .i64 t4) (by exact xr_move rfl rfl) rfl rfl rfl ?_
 refine ol_val (v := .bool (!decide (t4 = 0))) (by exact xr_neI rfl Try.underlying31 rfl rfl rfl) rfl rfl rfl ?_
 refine ol_nil ?_
 rcases is h with ⟨c8, h⟩ | ⟨c8, h⟩
 ·refine cw_condT rfl c8 ?_
  refine cw_seq ?_
  refine cw_region ?_
  refine ol_val (v := .int .i64 t4) (by exact xr_move rfl rfl) rfl rfl rfl ?_
  refine ol_val (v := .slice none 0 0) (by exact xr_assign rfl rfl) rfl rfl rfl ?_
  refine ol_val (v := .int .i64 t4) (by exact xr_assign rfl rfl) rfl rfl rfl ?_
  refine ol_nil ?_
  refine cw_ret ?_
  repeat (first | with_reducible refine thn_r ?_ | with_reducible refine blk_r ?_)
  obtain rfl := Option.some.inj h
  refine fin_ret2 Try.results55 rfl rfl ?_
  exact ⟨_, rfl, (.slice none 0 0), Own.nil _ _ _ _, rfl, fB⟩
 refine cw_condF rfl c8 ?_
 refine cw_skip ?_
 refine cw_seq ?_
 refine cw_region ?_
 refine ol_op (by exact opv_alloc (ss := [Kd.seg (kA 8 (kI .u64)) (Arr.rep 8 (0 : Int))]) rfl ze23 rfl) rfl rfl rfl ?_
 rintro _ w14 ⟨G9, rfl, b10, q11, z12⟩
 have n15 := b_0.ne z12
 have z12 := Nat.le_trans fB.size z12
 have b_0 := b_0.gr q11
 have fB := fB.gr q11
 refine ol_nil ?_
 refine cw_seq ?_
 refine cw_seq ?_
 refine cw_region ?_
 refine ol_val (v := .int .i64 0) (by exact xr_move rfl rfl) rfl rfl rfl ?_
 refine ol_nil ?_
 obtain ⟨e17, l18, h19⟩ := bs h
 refine cw_mid (fun ρ' w' => ∃ x20, e17 = Sum.inr x20 ∧ ρ' 7 = .pointer (some ⟨G9, 0, none⟩) ∧ Blk w' G_0 139 [Seg.cell V0_0 R0_0.one, Seg.cell V0_1 R0_1.one, Seg.cell (.int .i64 a0.plan.at_), Seg.cell (.bool a0.off), Seg.cell (.bool a0.armed), Seg.cell (.int .i64 a0.left), Seg.cell (.int .i64 a0.steps)] ∧ Blk w' G9 23 [Kd.seg (kA 8 (kI .u64)) x20] ∧ Gr w w') ?_ ?_
 ·refine cw_block ?_
  refine cw_round (fun (s16 : Int × (Arr 8 Int)) ρ' w' => ρ' 0 = .pointer (some ⟨G_0, 0, none⟩) ∧ ρ' 1 = .int .i64 a1 ∧ ρ' 7 = .pointer (some ⟨G9, 0, none⟩) ∧ ρ' 17 = .int .i64 s16.1 ∧ Blk w' G_0 139 [Seg.cell V0_0 R0_0.one, Seg.cell V0_1 R0_1.one, Seg.cell (.int .i64 a0.plan.at_), Seg.cell (.bool a0.off), Seg.cell (.bool a0.armed), Seg.cell (.int .i64 a0.left), Seg.cell (.int .i64 a0.steps)] ∧ Blk w' G9 23 [Kd.seg (kA 8 (kI .u64)) s16.2] ∧ Gr w w') l18 ?_ ?_
  ·skip
   exact ⟨rfl, rfl, rfl, rfl, b_0, b10, fB⟩
  rintro s16 x23 ρ21 w22 ⟨e0, e1, e7, e17, b_0, b10, fB⟩ h
  unfold press_Read.s0 at h
  refine cw_seq ?_
  refine cw_region ?_
  refine ol_val (v := .bool (decide (s16.1 < 8))) (by exact xr_lss rfl e17 rfl) rfl rfl rfl ?_
  refine ol_nil ?_
  refine cw_seq ?_
  rcases is h with ⟨c24, h⟩ | ⟨c24, h⟩
  ·refine cw_condT rfl c24 ?_
   refine cw_skip ?_
   refine cw_seq ?_
   refine cw_block ?_
   refine cw_seq ?_
   refine cw_region ?_
   refine ol_val (v := .int .i64 s16.1) (by exact xr_move rfl e17) rfl rfl rfl ?_
   refine ol_val (v := .int .i64 s16.1) (by exact xr_assign rfl rfl) rfl rfl rfl ?_
   refine ol_nil ?_
   refine cw_seq ?_
   refine cw_region ?_
   refine ol_val (v := .pointer (some ⟨G_0, 0, none⟩)) (by exact xr_move rfl e0) rfl rfl rfl ?_
   refine ol_val (v := .int .i64 a1) (by exact xr_move rfl e1) rfl rfl rfl ?_
   refine ol_val (v := .int .i64 (IntKind.i64.wrap (a1 * 8))) (by exact xr_mul rfl rfl rfl) rfl rfl rfl ?_
   refine ol_val (v := .int .i64 s16.1) (by exact xr_move rfl rfl) rfl rfl rfl ?_
   refine ol_val (v := .int .i64 (IntKind.i64.wrap ((IntKind.i64.wrap (a1 * 8)) + s16.1))) (by exact xr_add rfl rfl rfl) rfl rfl rfl ?_
   obtain ⟨t25, k26, h⟩ := bs h
   refine ol_op (by exact opv_call rfl cal82 (ac rfl (ac rfl an)) (pmem_Device_Load.ok fu _ a0 G_0 V0_0 (R0_0.gr fB) V0_1 (R0_1.gr fB) b_0 (IntKind.i64.wrap ((IntKind.i64.wrap (a1 * 8)) + s16.1)) _ k26)) rfl rfl rfl ?_
   rintro _ w28 ⟨rfl, q27⟩
   have b_0 := b_0.gr q27
   have b10 := b10.gr q27
   have fB := fB.gr q27
   refine ol_val (v := .tuple #[.int .u64 t25.1, .int .i64 t25.2]) (by exact xr_move rfl rfl) rfl rfl rfl ?_
   refine ol_val (v := .int .u64 t25.1) (by exact xr_extract rfl rfl rfl) rfl rfl rfl ?_
   refine ol_val (v := .int .i64 t25.2) (by exact xr_extract rfl rfl rfl) rfl rfl rfl ?_
   refine ol_val (v := .int .u64 t25.1) (by exact xr_assign rfl rfl) rfl rfl rfl ?_
   refine ol_val (v := .int .i64 t25.2) (by exact xr_assign rfl rfl) rfl rfl rfl ?_
   refine ol_nil ?_
   refine cw_seq ?_
   refine cw_seq ?_
   refine cw_region ?_
   refine ol_val (v := .int .i64 t25.2) (by exact xr_move rfl rfl) rfl rfl rfl ?_
   refine ol_val (v := .bool (!decide (t25.2 = 0))) (by exact xr_neI rfl Try.underlying31 rfl rfl rfl) rfl rfl rfl ?_
   refine ol_nil ?_
   rcases is h with ⟨c29, h⟩ | ⟨c29, h⟩
   ·refine cw_condT rfl c29 ?_
    refine cw_seq ?_
    refine cw_region ?_
    refine ol_val (v := .int .i64 t25.2) (by exact xr_move rfl rfl) rfl rfl rfl ?_
    refine ol_val (v := .slice none 0 0) (by exact xr_assign rfl rfl) rfl rfl rfl ?_
    refine ol_val (v := .int .i64 t25.2) (by exact xr_assign rfl rfl) rfl rfl rfl ?_
    refine ol_nil ?_
    refine cw_ret ?_
    repeat (first | with_reducible refine thn_r ?_ | with_reducible refine blk_r ?_)
    obtain rfl := Option.some.inj h
    refine lp_ret ?_
    rintro rfl
    repeat (first | with_reducible refine thn_r ?_ | with_reducible refine blk_r ?_)
    have h := h19
    obtain rfl := Option.some.inj h
    refine fin_ret2 Try.results55 rfl rfl ?_
    exact ⟨_, rfl, (.slice none 0 0), Own.nil _ _ _ _, rfl, fB⟩
   refine cw_condF rfl c29 ?_
   refine cw_skip ?_
   refine cw_region ?_
   refine ol_val (v := .int .i64 s16.1) (by exact xr_move rfl rfl) rfl rfl rfl ?_
   refine ol_val (v := .int .u64 t25.1) (by exact xr_move rfl rfl) rfl rfl rfl ?_
   obtain ⟨g30, h⟩ := gs h
   refine ol_val (v := .pointer (some ⟨G9, 0 + Int.toNat s16.1 * 1, none⟩)) (by exact xr_indexA (p := 0) (s := 1) rfl Try.underlying23 sz22 e7 rfl g30.1 g30.2) rfl rfl rfl ?_
   refine ol_op0 (by exact opv_store (ss' := [Kd.seg (kA 8 (kI .u64)) (Arr.set s16.2 s16.1 t25.1)]) (xs := cellsOf [Seg.cell (.int .u64 t25.1)]) rfl sz22 rfl rfl rfl (len_cellsOf _) (one_cellsOf _) b10 (Spl.seg_in _ 0 (Kd.seg (kA 8 (kI .u64)) (Arr.set s16.2 s16.1 t25.1)) rfl rfl (Spl.arr s16.2 s16.1 t25.1 g30.1 g30.2 (Spl.whole ((Kd.len _ _).trans (Kd.len _ _).symm))))) rfl rfl ?_
   rintro _ w32 ⟨b10, q31⟩
   have b_0 := b_0.wr q31 n15
   have fB := fB.wr q31 z12
   refine ol_nil ?_
   refine blk_i ?_
   refine cw_region ?_
   refine ol_val (v := .int .i64 (IntKind.i64.wrap (s16.1 + 1))) (by exact xr_add rfl e17 rfl) rfl rfl rfl ?_
   refine ol_val (v := .int .i64 (IntKind.i64.wrap (s16.1 + 1))) (by exact xr_move rfl rfl) rfl rfl rfl ?_
   refine ol_nil ?_
   obtain rfl := Option.some.inj h
   refine lp_in ?_
   exact ⟨e0, e1, e7, rfl, b_0, b10, fB⟩
  refine cw_condF rfl c24 ?_
  refine cw_exit ?_
  repeat (first | with_reducible refine thn_e ?_ | with_reducible refine blk_e rfl ?_)
  obtain rfl := Option.some.inj h
  refine lp_exit ?_
  rintro rfl
  refine thn_x ?_
  exact ⟨_, rfl, e7, b_0, b10, fB⟩
 rintro ρ33 w34 ⟨x20, rfl, e7, b_0, b10, fB⟩
 have h := h19
 refine cw_seq ?_
 refine cw_region ?_
 refine ol_val (v := .slice (some ⟨G9, 0, none⟩) 8 8) (by exact xr_sliceArr rfl Try.underlying23 sz22 e7) rfl rfl rfl ?_
 obtain ⟨t35, k36, h⟩ := bs h
 refine ol_op (by exact opv_call rfl cal104 (ac rfl an) (octet_Octets.ok fu _ (Arr.l x20) (.slice (some ⟨G9, 0, none⟩) 8 8) (Rd.arr (b10.seg 0 rfl rfl)) _ k36)) rfl rfl rfl ?_
 rintro u37 w41 ⟨_, o38, rfl, q40⟩
 have o38 := Own.base o38 fB.size
 have b_0 := b_0.gr q40
 have fB := fB.gr q40
 refine ol_val (v := u37) (by exact xr_assign rfl rfl) rfl rfl rfl ?_
 refine ol_val (v := .int .i64 0) (by exact xr_assign rfl rfl) rfl rfl rfl ?_
 refine ol_nil ?_
 refine cw_ret ?_
 repeat (first | with_reducible refine thn_r ?_ | with_reducible refine blk_r ?_)
 obtain rfl := Option.some.inj h
 refine fin_ret2 Try.results55 rfl rfl ?_
 exact ⟨_, rfl, u37, o38, rfl, fB⟩
end Go.Proofs.Ytklhbaghbmndeaa

/- rickyard/rickyardlaw15.block: its model, and that the Go function computes it: written by gen.py. -/
set_option linter.unusedVariables false
namespace Go.Proofs.Ytklhbaghbmndeaa
open Go Go.Xw
def rickyardlaw15_block.s0 (fu : Nat) (a0 : Int) : (Int × (List Int)) → Option (Sum (List Int) (Int × (List Int))) := fun s10 => (if (decide (s10.1 < 64)) = true then (if 0 ≤ s10.1 ∧ s10.1 < (List.length s10.2 : Int) then some (Sum.inr ((IntKind.i64.wrap (s10.1 + 1)), (List.set s10.2 (Int.toNat s10.1) a0))) else none) else some (Sum.inl (s10.2)))
def rickyardlaw15_block.f (fu : Nat) (a0 : Int) : Option (List Int) := ((loopM (rickyardlaw15_block.s0 fu a0) fu (0, (List.replicate (Int.toNat 64) (0 : Int)))).bind fun e11 => some (e11))
set_option maxRecDepth 100000 in
set_option maxHeartbeats 400000 in
theorem rickyardlaw15_block.ok (fu : Nat) (w : World) (a0 : Int) (r : (List Int)) (h : rickyardlaw15_block.f fu a0 = some r) :
  Calls Try.prog 101 (([.int .u8 a0] : List Value).toArray) w (fun e w' => ∃ v, e = .returned v ∧ ∃ u1 : Value, ∃ o2 : Own (kI .u8) 5 w' w.heap.size u1 r, v = u1 ∧ Gr w w') := by
 unfold rickyardlaw15_block.f at h
 have fB : Gr w w := Fr.refl _ _
 refine calls_cw Try.func101 rfl Try.ntmps101 rfl ?_
 refine cw_seq ?_
 refine cw_region ?_
 refine ol_val (v := .slice none 0 0) (by exact xr_assign rfl rfl) rfl rfl rfl ?_
 refine ol_nil ?_
 refine cw_seq ?_
 refine cw_region ?_
 refine ol_op (by exact opv_make (K := (kI .u8)) (z := (0 : Int)) rfl Try.underlying43 el5 rfl rfl rfl (by decide) (by decide) rfl fB.size) rfl rfl rfl ?_
 rintro v4 w9 ⟨o6, q5, z7⟩
 have fB := fB.gr q5
 refine ol_val (v := v4) (by exact xr_assign rfl rfl) rfl rfl rfl ?_
 refine ol_nil ?_
 refine cw_seq ?_
 refine cw_seq ?_
 refine cw_region ?_
 refine ol_val (v := .int .i64 0) (by exact xr_assign rfl rfl) rfl rfl rfl ?_
 refine ol_nil ?_
 obtain ⟨e11, l12, h13⟩ := bs h
 refine cw_mid (fun ρ' w' => ∃ o6 : Own (kI .u8) 5 w' w.heap.size v4 e11, ρ' 3 = v4 ∧ Gr w w') ?_ ?_
 ·refine cw_block ?_
  refine cw_round (fun (s10 : Int × (List Int)) ρ' w' => ∃ o6 : Own (kI .u8) 5 w' w.heap.size v4 s10.2, ρ' 0 = .int .u8 a0 ∧ ρ' 3 = v4 ∧ ρ' 4 = .int .i64 s10.1 ∧ Gr w w') l12 ?_ ?_
  ·skip
   exact ⟨o6, rfl, rfl, rfl, fB⟩
  rintro s10 x16 ρ14 w15 ⟨o6, e0, e3, e4, fB⟩ h
  unfold rickyardlaw15_block.s0 at h
  refine cw_seq ?_
  refine cw_seq ?_
  refine cw_region ?_
  refine ol_val (v := .int .i64 s10.1) (by exact xr_move rfl e4) rfl rfl rfl ?_
  refine ol_val (v := .bool (decide (s10.1 < 64))) (by exact xr_lss rfl rfl rfl) rfl rfl rfl ?_
  refine ol_nil ?_
  rcases is h with ⟨c17, h⟩ | ⟨c17, h⟩
  ·refine cw_condT rfl c17 ?_
   refine cw_skip ?_
   refine cw_seq ?_
   refine cw_block ?_
   refine cw_region ?_
   refine ol_val (v := v4) (by exact xr_move rfl e3) rfl rfl rfl ?_
   refine ol_val (v := .int .i64 s10.1) (by exact xr_move rfl e4) rfl rfl rfl ?_
   refine ol_val (v := .int .u8 a0) (by exact xr_move rfl e0) rfl rfl rfl ?_
   obtain ⟨g18, h⟩ := gs h
   refine ol_val (v := .pointer (some ⟨(sb v4), so v4 + Int.toNat s10.1 * 1, none⟩)) (by exact xr_indexR (K := (kI .u8)) (v := v4) rfl Try.underlying43 sz5 rfl o6.rd rfl g18.1 g18.2) rfl rfl rfl ?_
   have f20 := o6.geO
   refine ol_op0 (by exact opv_storeRow (z := a0) (xs := cellsOf [Seg.cell (.int .u8 a0)]) rfl sz5 rfl rfl rfl (len_cellsOf _) (one_cellsOf _) o6 g18.1 g18.2 (Spl.whole ((Kd.len _ _).trans (Kd.len _ _).symm)) rfl) rfl rfl ?_
   rintro _ w21 ⟨o6, q19⟩
   have fB := fB.wrO q19 f20
   refine ol_nil ?_
   refine blk_i ?_
   refine cw_region ?_
   refine ol_val (v := .int .i64 s10.1) (by exact xr_move rfl e4) rfl rfl rfl ?_
   refine ol_val (v := .int .i64 (IntKind.i64.wrap (s10.1 + 1))) (by exact xr_add rfl rfl rfl) rfl rfl rfl ?_
   refine ol_val (v := .int .i64 (IntKind.i64.wrap (s10.1 + 1))) (by exact xr_assign rfl rfl) rfl rfl rfl ?_
   refine ol_nil ?_
   obtain rfl := Option.some.inj h
   refine lp_in ?_
   exact ⟨o6, e0, e3, rfl, fB⟩
  refine cw_condF rfl c17 ?_
  refine cw_exit ?_
  repeat (first | with_reducible refine thn_e ?_ | with_reducible refine blk_e rfl ?_)
  obtain rfl := Option.some.inj h
  refine lp_exit ?_
  rintro rfl
  refine thn_x ?_
  exact ⟨o6, e3, fB⟩
 rintro ρ22 w23 ⟨o6, e3, fB⟩
 have h := h13
 refine cw_seq ?_
 refine cw_region ?_
 refine ol_val (v := v4) (by exact xr_move rfl e3) rfl rfl rfl ?_
 refine ol_val (v := v4) (by exact xr_assign rfl rfl) rfl rfl rfl ?_
 refine ol_nil ?_
 refine cw_ret ?_
 repeat (first | with_reducible refine thn_r ?_ | with_reducible refine blk_r ?_)
 obtain rfl := Option.some.inj h
 refine fin_ret1 Try.results101 rfl ?_
 exact ⟨_, rfl, v4, o6, rfl, fB⟩
end Go.Proofs.Ytklhbaghbmndeaa

/- rickyard/rickyardlaw15.awake: its model, and that the Go function computes it: written by gen.py. -/
set_option linter.unusedVariables false
namespace Go.Proofs.Ytklhbaghbmndeaa
open Go Go.Xw
def rickyardlaw15_awake.f (fu : Nat) : Option Bool := ((pmem_New.f fu 2 : Option ((Option S_pmem_Device) × Int)).bind fun t1 => (Option.elim t1.1 (some (false)) (fun m8 => ((rickyardlaw15_block.f fu 7 : Option (List Int)).bind fun t19 => ((press_Write.f fu m8 1 t19 : Option (Int × S_pmem_Device)).bind fun t26 => ((press_Sure.f fu t26.2 : Option (Int × S_pmem_Device)).bind fun t39 => ((rickyardlaw15_block.f fu 8 : Option (List Int)).bind fun t52 => ((press_Write.f fu t39.2 0 t52 : Option (Int × S_pmem_Device)).bind fun t59 => ((pmem_Device_Crash.f fu t59.2 [] : Option S_pmem_Device).bind fun t72 => ((press_Read.f fu t72 0 : Option ((List Int) × Int)).bind fun t85 => ((press_Read.f fu t72 1 : Option ((List Int) × Int)).bind fun t92 => (((if (decide (t85.2 = 0)) = true then (if (decide (t92.2 = 0)) = true then ((rickyardlaw15_block.f fu 0 : Option (List Int)).bind fun t104 => (if (decide ((List.map toB t85.1) = (List.map toB t104))) = true then ((rickyardlaw15_block.f fu 7 : Option (List Int)).bind fun t111 => some ((decide ((List.map toB t92.1) = (List.map toB t111))))) else some (false))) else some (false)) else some (false)) : Option Bool).bind fun x100 => some (x100)))))))))))))
set_option maxRecDepth 100000 in
set_option maxHeartbeats 400000 in
theorem rickyardlaw15_awake.ok (fu : Nat) (w : World)  (r : Bool) (h : rickyardlaw15_awake.f fu = some r) :
  Calls Try.prog 52 (([] : List Value).toArray) w (fun e w' => ∃ v, e = .returned v ∧ v = .bool r ∧ Gr w w') := by
 unfold rickyardlaw15_awake.f at h
 have fB : Gr w w := Fr.refl _ _
 refine calls_cw Try.func52 rfl Try.ntmps52 rfl ?_
 refine cw_seq ?_
 refine cw_region ?_
 refine ol_val (v := .bool false) (by exact xr_assign rfl rfl) rfl rfl rfl ?_
 refine ol_nil ?_
 refine cw_seq ?_
 refine cw_region ?_
 obtain ⟨t1, k2, h⟩ := bs h
 refine ol_op (by exact opv_call rfl cal26 (ac rfl an) (pmem_New.ok fu _ 2 _ k2)) rfl rfl rfl ?_
 rintro _ w6 ⟨u3, p4, rfl, q5⟩
 rcases en h with ⟨e7, h⟩ | ⟨m8, e7, h⟩
 ·obtain rfl := p4.1 e7
  have fB := fB.gr q5
  refine ol_val (v := .tuple #[.pointer none, .int .i64 t1.2]) (by exact xr_move rfl rfl) rfl rfl rfl ?_
  refine ol_val (v := .pointer none) (by exact xr_extract rfl rfl rfl) rfl rfl rfl ?_
  refine ol_val (v := .int .i64 t1.2) (by exact xr_extract rfl rfl rfl) rfl rfl rfl ?_
  refine ol_val (v := .pointer none) (by exact xr_assign rfl rfl) rfl rfl rfl ?_
  refine ol_val (v := .int .i64 t1.2) (by exact xr_assign rfl rfl) rfl rfl rfl ?_
  refine ol_nil ?_
  refine cw_seq ?_
  refine cw_seq ?_
  refine cw_region ?_
  refine ol_val (v := .pointer none) (by exact xr_move rfl rfl) rfl rfl rfl ?_
  refine ol_val (v := .bool true) (by exact xr_eqP (b := true) rfl Try.underlying30 rfl rfl (by simp) (by simp)) rfl rfl rfl ?_
  refine ol_nil ?_
  refine cw_condT rfl rfl ?_
  refine cw_seq ?_
  refine cw_region ?_
  refine ol_val (v := .bool false) (by exact xr_assign rfl rfl) rfl rfl rfl ?_
  refine ol_nil ?_
  refine cw_ret ?_
  repeat (first | with_reducible refine thn_r ?_ | with_reducible refine blk_r ?_)
  obtain rfl := Option.some.inj h
  refine fin_ret1 Try.results52 rfl ?_
  exact ⟨_, rfl, rfl, fB⟩
 obtain ⟨G9, u13, u16, o14, o17, rfl, z10, b11⟩ := p4.2 _ e7
 have o14 := Own.base o14 fB.size
 have o17 := Own.base o17 fB.size
 have z10 := Nat.le_trans fB.size z10
 have fB := fB.gr q5
 refine ol_val (v := .tuple #[.pointer (some ⟨G9, 0, none⟩), .int .i64 t1.2]) (by exact xr_move rfl rfl) rfl rfl rfl ?_
 refine ol_val (v := .pointer (some ⟨G9, 0, none⟩)) (by exact xr_extract rfl rfl rfl) rfl rfl rfl ?_
 refine ol_val (v := .int .i64 t1.2) (by exact xr_extract rfl rfl rfl) rfl rfl rfl ?_
 refine ol_val (v := .pointer (some ⟨G9, 0, none⟩)) (by exact xr_assign rfl rfl) rfl rfl rfl ?_
 refine ol_val (v := .int .i64 t1.2) (by exact xr_assign rfl rfl) rfl rfl rfl ?_
 refine ol_nil ?_
 refine cw_seq ?_
 refine cw_seq ?_
 refine cw_region ?_
 refine ol_val (v := .pointer (some ⟨G9, 0, none⟩)) (by exact xr_move rfl rfl) rfl rfl rfl ?_
 refine ol_val (v := .bool false) (by exact xr_eqP (b := false) rfl Try.underlying30 rfl rfl (by simp) (by simp)) rfl rfl rfl ?_
 refine ol_nil ?_
 refine cw_condF rfl rfl ?_
 refine cw_skip ?_
 refine cw_seq ?_
 refine cw_region ?_
 refine ol_val (v := .pointer (some ⟨G9, 0, none⟩)) (by exact xr_move rfl rfl) rfl rfl rfl ?_
 obtain ⟨t19, k20, h⟩ := bs h
 refine ol_op (by exact opv_call rfl cal101 (ac rfl an) (rickyardlaw15_block.ok fu _ 7 _ k20)) rfl rfl rfl ?_
 rintro u21 w25 ⟨_, o22, rfl, q24⟩
 have o22 := Own.base o22 fB.size
 have b11 := b11.gr q24
 have o14 := o14.gr q24
 have o17 := o17.gr q24
 have fB := fB.gr q24
 obtain ⟨t26, k27, h⟩ := bs h
 have c37 : ∀ k, (k = G9 ∨ some k = Value.ownBlock u13 ∨ some k = Value.ownBlock u16) → w.heap.size ≤ k := (cv_or (cv_eq z10) (cv_or (cv_own o14.geO) (cv_own o17.geO)))
 refine ol_op (by exact opv_call rfl cal53 (ac rfl (ac rfl (ac rfl an))) (press_Write.ok fu _ m8 G9 u13 (Own.base o14 (Nat.zero_le _)) u16 (Own.base o17 (Nat.zero_le _)) b11 1 t19 u21 (o22.rd) (OffR.own o22 (off_ty b11 o22 (by decide))) (OffRV.own o22 (OffV.ty o22 o14 (by decide))) (OffRV.own o22 (OffV.ty o22 o17 (by decide))) _ k27)) rfl rfl rfl ?_
 rintro _ w38 ⟨u29, u33, o30, m31, o34, m35, rfl, b11, q28⟩
 have o30 := Own.rebase o30 (fun g hg => (m31 g hg).elim (fun x => Nat.le_trans fB.size x) (c37 g))
 have o34 := Own.rebase o34 (fun g hg => (m35 g hg).elim (fun x => Nat.le_trans fB.size x) (c37 g))
 have fB := fB.call q28 (fun k h => .inl (c37 k h))
 refine ol_nil ?_
 refine cw_seq ?_
 refine cw_region ?_
 refine ol_val (v := .pointer (some ⟨G9, 0, none⟩)) (by exact xr_move rfl rfl) rfl rfl rfl ?_
 obtain ⟨t39, k40, h⟩ := bs h
 have c50 : ∀ k, (k = G9 ∨ some k = Value.ownBlock u29 ∨ some k = Value.ownBlock u33) → w.heap.size ≤ k := (cv_or (cv_eq z10) (cv_or (cv_own o30.geO) (cv_own o34.geO)))
 refine ol_op (by exact opv_call rfl cal54 (ac rfl an) (press_Sure.ok fu _ t26.2 G9 u29 (Own.base o30 (Nat.zero_le _)) u33 (Own.base o34 (Nat.zero_le _)) b11 _ k40)) rfl rfl rfl ?_
 rintro _ w51 ⟨u42, u46, o43, m44, o47, m48, rfl, b11, q41⟩
 have o43 := Own.rebase o43 (fun g hg => (m44 g hg).elim (fun x => Nat.le_trans fB.size x) (c50 g))
 have o47 := Own.rebase o47 (fun g hg => (m48 g hg).elim (fun x => Nat.le_trans fB.size x) (c50 g))
 have fB := fB.call q41 (fun k h => .inl (c50 k h))
 refine ol_nil ?_
 refine cw_seq ?_
 refine cw_region ?_
 refine ol_val (v := .pointer (some ⟨G9, 0, none⟩)) (by exact xr_move rfl rfl) rfl rfl rfl ?_
 obtain ⟨t52, k53, h⟩ := bs h
 refine ol_op (by exact opv_call rfl cal101 (ac rfl an) (rickyardlaw15_block.ok fu _ 8 _ k53)) rfl rfl rfl ?_
 rintro u54 w58 ⟨_, o55, rfl, q57⟩
 have o55 := Own.base o55 fB.size
 have b11 := b11.gr q57
 have o43 := o43.gr q57
 have o47 := o47.gr q57
 have fB := fB.gr q57
 obtain ⟨t59, k60, h⟩ := bs h
 have c70 : ∀ k, (k = G9 ∨ some k = Value.ownBlock u42 ∨ some k = Value.ownBlock u46) → w.heap.size ≤ k := (cv_or (cv_eq z10) (cv_or (cv_own o43.geO) (cv_own o47.geO)))
 refine ol_op (by exact opv_call rfl cal53 (ac rfl (ac rfl (ac rfl an))) (press_Write.ok fu _ t39.2 G9 u42 (Own.base o43 (Nat.zero_le _)) u46 (Own.base o47 (Nat.zero_le _)) b11 0 t52 u54 (o55.rd) (OffR.own o55 (off_ty b11 o55 (by decide))) (OffRV.own o55 (OffV.ty o55 o43 (by decide))) (OffRV.own o55 (OffV.ty o55 o47 (by decide))) _ k60)) rfl rfl rfl ?_
 rintro _ w71 ⟨u62, u66, o63, m64, o67, m68, rfl, b11, q61⟩
 have o63 := Own.rebase o63 (fun g hg => (m64 g hg).elim (fun x => Nat.le_trans fB.size x) (c70 g))
 have o67 := Own.rebase o67 (fun g hg => (m68 g hg).elim (fun x => Nat.le_trans fB.size x) (c70 g))
 have fB := fB.call q61 (fun k h => .inl (c70 k h))
 refine ol_nil ?_
 refine cw_seq ?_
 refine cw_region ?_
 refine ol_val (v := .pointer (some ⟨G9, 0, none⟩)) (by exact xr_move rfl rfl) rfl rfl rfl ?_
 obtain ⟨t72, k73, h⟩ := bs h
 have c83 : ∀ k, (k = G9 ∨ some k = Value.ownBlock u62 ∨ some k = Value.ownBlock u66) → w.heap.size ≤ k := (cv_or (cv_eq z10) (cv_or (cv_own o63.geO) (cv_own o67.geO)))
 refine ol_op (by exact opv_call rfl cal32 (ac rfl (ac rfl an)) (pmem_Device_Crash.ok fu _ t59.2 G9 u62 (Own.base o63 (Nat.zero_le _)) u66 (Own.base o67 (Nat.zero_le _)) b11 [] (.slice none 0 0) (Rd.nil (kI .i64) _) (OffR.nil _ _) (OffRV.nilL _ _) (OffRV.nilL _ _) _ k73)) rfl rfl rfl ?_
 rintro _ w84 ⟨u75, u79, o76, m77, o80, m81, rfl, b11, q74⟩
 have o76 := Own.rebase o76 (fun g hg => (m77 g hg).elim (fun x => Nat.le_trans fB.size x) (c83 g))
 have o80 := Own.rebase o80 (fun g hg => (m81 g hg).elim (fun x => Nat.le_trans fB.size x) (c83 g))
 have fB := fB.call q74 (fun k h => .inl (c83 k h))
 refine ol_nil ?_
 refine cw_seq ?_
 refine cw_region ?_
 refine ol_val (v := .pointer (some ⟨G9, 0, none⟩)) (by exact xr_move rfl rfl) rfl rfl rfl ?_
 obtain ⟨t85, k86, h⟩ := bs h
 refine ol_op (by exact opv_call rfl cal55 (ac rfl (ac rfl an)) (press_Read.ok fu _ t72 G9 u75 (o76.rd) u79 (o80.rd) b11 0 _ k86)) rfl rfl rfl ?_
 rintro _ w91 ⟨u87, o88, rfl, q90⟩
 have o88 := Own.base o88 fB.size
 have b11 := b11.gr q90
 have o76 := o76.gr q90
 have o80 := o80.gr q90
 have fB := fB.gr q90
 refine ol_val (v := .tuple #[u87, .int .i64 t85.2]) (by exact xr_move rfl rfl) rfl rfl rfl ?_
 refine ol_val (v := u87) (by exact xr_extract rfl rfl rfl) rfl rfl rfl ?_
 refine ol_val (v := .int .i64 t85.2) (by exact xr_extract rfl rfl rfl) rfl rfl rfl ?_
 refine ol_val (v := u87) (by exact xr_assign rfl rfl) rfl rfl rfl ?_
 refine ol_val (v := .int .i64 t85.2) (by exact xr_assign rfl rfl) rfl rfl rfl ?_
 refine ol_nil ?_
 refine cw_seq ?_
 refine cw_region ?_
 refine ol_val (v := .pointer (some ⟨G9, 0, none⟩)) (by exact xr_move rfl rfl) rfl rfl rfl ?_
 obtain ⟨t92, k93, h⟩ := bs h
 refine ol_op (by exact opv_call rfl cal55 (ac rfl (ac rfl an)) (press_Read.ok fu _ t72 G9 u75 (o76.rd) u79 (o80.rd) b11 1 _ k93)) rfl rfl rfl ?_
 rintro _ w98 ⟨u94, o95, rfl, q97⟩
 have a99 := OffV.call o88 o95
 have o95 := Own.base o95 fB.size
 have o88 := o88.gr q97
 have fB := fB.gr q97
 refine ol_val (v := .tuple #[u94, .int .i64 t92.2]) (by exact xr_move rfl rfl) rfl rfl rfl ?_
 refine ol_val (v := u94) (by exact xr_extract rfl rfl rfl) rfl rfl rfl ?_
 refine ol_val (v := .int .i64 t92.2) (by exact xr_extract rfl rfl rfl) rfl rfl rfl ?_
 refine ol_val (v := u94) (by exact xr_assign rfl rfl) rfl rfl rfl ?_
 refine ol_val (v := .int .i64 t92.2) (by exact xr_assign rfl rfl) rfl rfl rfl ?_
 refine ol_nil ?_
 refine cw_seq ?_
 obtain ⟨x100, j101, h⟩ := bs h
 refine cw_mid (fun ρ' w' => ρ' 0 = .bool x100 ∧ Gr w98 w') ?_ ?_
 ·skip
  rcases is j101 with ⟨c102, j101⟩ | ⟨c102, j101⟩
  ·skip
   rcases is j101 with ⟨c103, j101⟩ | ⟨c103, j101⟩
   ·skip
    obtain ⟨t104, k105, j101⟩ := bs j101
    rcases is j101 with ⟨c110, j101⟩ | ⟨c110, j101⟩
    ·skip
     obtain ⟨t111, k112, j101⟩ := bs j101
     refine cw_drawL 19 [fun vz wz => vz = (.int .i64 t85.2 : Value), fun vz wz => vz = (.bool (decide (t85.2 = 0)) : Value), fun vz wz => vz = (.bool (decide (t85.2 = 0)) : Value), fun vz wz => vz = (.int .i64 t92.2 : Value), fun vz wz => vz = (.bool (decide (t92.2 = 0)) : Value), fun vz wz => vz = (.bool (decide (t92.2 = 0)) : Value), fun vz wz => vz = (.bool (decide (t92.2 = 0)) : Value), fun vz wz => vz = (u87 : Value), fun vz wz => vz = (sv (List.map toB t85.1) : Value), fun vz wz => ∃ u106 : Value, ∃ o107 : Own (kI .u8) 5 wz w.heap.size u106 t104, vz = (u106 : Value), fun vz wz => vz = (sv (List.map toB t104) : Value), fun vz wz => vz = (.bool (decide ((List.map toB t85.1) = (List.map toB t104))) : Value), fun vz wz => vz = (.bool (decide ((List.map toB t85.1) = (List.map toB t104))) : Value), fun vz wz => vz = (.bool (decide ((List.map toB t85.1) = (List.map toB t104))) : Value), fun vz wz => vz = (u94 : Value), fun vz wz => vz = (sv (List.map toB t92.1) : Value), fun vz wz => ∃ u113 : Value, ∃ o114 : Own (kI .u8) 5 wz w.heap.size u113 t111, vz = (u113 : Value), fun vz wz => vz = (sv (List.map toB t111) : Value), fun vz wz => vz = (.bool (decide ((List.map toB t92.1) = (List.map toB t111))) : Value)] mo rfl ⟨fun _ _ _ h _ => h, fun _ _ _ h _ => h, fun _ _ _ h _ => h, fun _ _ _ h _ => h, fun _ _ _ h _ => h, fun _ _ _ h _ => h, fun _ _ _ h _ => h, fun _ _ _ h _ => h, fun _ _ _ h _ => h, fun _ _ _ ⟨u106, o107, h⟩ q => ⟨u106, o107.gr q, h⟩, fun _ _ _ h _ => h, fun _ _ _ h _ => h, fun _ _ _ h _ => h, fun _ _ _ h _ => h, fun _ _ _ h _ => h, fun _ _ _ h _ => h, fun _ _ _ ⟨u113, o114, h⟩ q => ⟨u113, o114.gr q, h⟩, fun _ _ _ h _ => h, fun _ _ _ h _ => h, trivial⟩ ?_ ?_
     ·refine ⟨?_, ?_, ?_, ?_, ?_, ?_, ?_, ?_, ?_, ?_, ?_, ?_, ?_, ?_, ?_, ?_, ?_, ?_, ?_, trivial⟩
      ·intro ρz wz hz hk hd
       exact sk_val (v := .int .i64 t85.2) (by exact xr_move rfl ((hk 4 rfl).trans rfl)) rfl rfl
      ·intro ρz wz hz hk hd
       have d33 := hd 0 rfl 33 rfl
       exact sk_val (v := .bool (decide (t85.2 = 0))) (by exact xr_eqI rfl Try.underlying31 rfl d33 rfl) rfl rfl
      ·intro ρz wz hz hk hd
       have d34 := hd 1 rfl 34 rfl
       exact sk_val (v := .bool (decide (t85.2 = 0))) (by exact xr_move rfl d34) rfl rfl
      ·intro ρz wz hz hk hd
       have d35 := hd 2 rfl 35 rfl
       exact sk_gval (v := .int .i64 t92.2) (by exact xr_move rfl ((hk 6 rfl).trans rfl)) rfl rfl d35 c102 rfl
      ·intro ρz wz hz hk hd
       have d36 := hd 3 rfl 36 rfl
       have d35 := hd 2 rfl 35 rfl
       exact sk_gval (v := .bool (decide (t92.2 = 0))) (by exact xr_eqI rfl Try.underlying31 rfl d36 rfl) rfl rfl d35 c102 rfl
      ·intro ρz wz hz hk hd
       have d35 := hd 2 rfl 35 rfl
       have d37 := hd 4 rfl 37 rfl
       exact sk_val (v := .bool (decide (t92.2 = 0))) (by exact xr_pickT rfl d35 c102 d37) rfl rfl
      ·intro ρz wz hz hk hd
       have d38 := hd 5 rfl 38 rfl
       exact sk_val (v := .bool (decide (t92.2 = 0))) (by exact xr_move rfl d38) rfl rfl
      ·intro ρz wz hz hk hd
       have d39 := hd 6 rfl 39 rfl
       exact sk_gval (v := u87) (by exact xr_move rfl ((hk 3 rfl).trans rfl)) rfl rfl d39 c103 rfl
      ·intro ρz wz hz hk hd
       have d40 := hd 7 rfl 40 rfl
       have d39 := hd 6 rfl 39 rfl
       exact sk_gval (v := sv (List.map toB t85.1)) (by exact xr_toStr rfl Try.underlying43 Try.underlying5 Try.underlying9 d40 (o88.gr hz).rd) rfl rfl d39 c103 rfl
      ·intro ρz wz hz hk hd
       have d39 := hd 6 rfl 39 rfl
       refine sk_gop (by exact opv_call rfl cal101 (ac rfl an) (rickyardlaw15_block.ok fu _ 0 _ k105)) rfl rfl d39 c103 ?_
       rintro u106 wy ⟨_, o107, rfl, q109⟩
       exact ⟨⟨u106, Own.base o107 ((Nat.le_trans fB.size hz.size)), rfl⟩, q109⟩
      ·intro ρz wz hz hk hd
       obtain ⟨u106, o107, d42⟩ := hd 9 rfl 42 rfl
       have d39 := hd 6 rfl 39 rfl
       exact sk_gval (v := sv (List.map toB t104)) (by exact xr_toStr rfl Try.underlying43 Try.underlying5 Try.underlying9 d42 o107.rd) rfl rfl d39 c103 rfl
      ·intro ρz wz hz hk hd
       have d41 := hd 8 rfl 41 rfl
       have d43 := hd 10 rfl 43 rfl
       have d39 := hd 6 rfl 39 rfl
       exact sk_gval (v := .bool (decide ((List.map toB t85.1) = (List.map toB t104)))) (by exact xr_eqStr rfl Try.underlying9 d41 d43) rfl rfl d39 c103 rfl
      ·intro ρz wz hz hk hd
       have d39 := hd 6 rfl 39 rfl
       have d44 := hd 11 rfl 44 rfl
       exact sk_val (v := .bool (decide ((List.map toB t85.1) = (List.map toB t104)))) (by exact xr_pickT rfl d39 c103 d44) rfl rfl
      ·intro ρz wz hz hk hd
       have d45 := hd 12 rfl 45 rfl
       exact sk_val (v := .bool (decide ((List.map toB t85.1) = (List.map toB t104)))) (by exact xr_move rfl d45) rfl rfl
      ·intro ρz wz hz hk hd
       have d46 := hd 13 rfl 46 rfl
       exact sk_gval (v := u94) (by exact xr_move rfl ((hk 5 rfl).trans rfl)) rfl rfl d46 c110 rfl
      ·intro ρz wz hz hk hd
       have d47 := hd 14 rfl 47 rfl
       have d46 := hd 13 rfl 46 rfl
       exact sk_gval (v := sv (List.map toB t92.1)) (by exact xr_toStr rfl Try.underlying43 Try.underlying5 Try.underlying9 d47 (o95.gr hz).rd) rfl rfl d46 c110 rfl
      ·intro ρz wz hz hk hd
       have d46 := hd 13 rfl 46 rfl
       refine sk_gop (by exact opv_call rfl cal101 (ac rfl an) (rickyardlaw15_block.ok fu _ 7 _ k112)) rfl rfl d46 c110 ?_
       rintro u113 wy ⟨_, o114, rfl, q116⟩
       exact ⟨⟨u113, Own.base o114 ((Nat.le_trans fB.size hz.size)), rfl⟩, q116⟩
      ·intro ρz wz hz hk hd
       obtain ⟨u113, o114, d49⟩ := hd 16 rfl 49 rfl
       have d46 := hd 13 rfl 46 rfl
       exact sk_gval (v := sv (List.map toB t111)) (by exact xr_toStr rfl Try.underlying43 Try.underlying5 Try.underlying9 d49 o114.rd) rfl rfl d46 c110 rfl
      intro ρz wz hz hk hd
      have d48 := hd 15 rfl 48 rfl
      have d50 := hd 17 rfl 50 rfl
      have d46 := hd 13 rfl 46 rfl
      exact sk_gval (v := .bool (decide ((List.map toB t92.1) = (List.map toB t111)))) (by exact xr_eqStr rfl Try.underlying9 d48 d50) rfl rfl d46 c110 rfl
     intro ρ117 w118 q119 hk hd
     have e46 := hd 13 rfl 46 rfl
     have e51 := hd 18 rfl 51 rfl
     have fB := fB.gr q119
     refine ol_val (v := .bool (decide ((List.map toB t92.1) = (List.map toB t111)))) (by exact xr_pickT rfl e46 c110 e51) rfl rfl rfl ?_
     refine ol_val (v := .bool (decide ((List.map toB t92.1) = (List.map toB t111)))) (by exact xr_assign rfl rfl) rfl rfl rfl ?_
     refine ol_nil ?_
     obtain rfl := Option.some.inj j101
     refine thn_i ?_
     exact ⟨rfl, q119⟩
    refine cw_drawL 19 [fun vz wz => vz = (.int .i64 t85.2 : Value), fun vz wz => vz = (.bool (decide (t85.2 = 0)) : Value), fun vz wz => vz = (.bool (decide (t85.2 = 0)) : Value), fun vz wz => vz = (.int .i64 t92.2 : Value), fun vz wz => vz = (.bool (decide (t92.2 = 0)) : Value), fun vz wz => vz = (.bool (decide (t92.2 = 0)) : Value), fun vz wz => vz = (.bool (decide (t92.2 = 0)) : Value), fun vz wz => vz = (u87 : Value), fun vz wz => vz = (sv (List.map toB t85.1) : Value), fun vz wz => ∃ u106 : Value, ∃ o107 : Own (kI .u8) 5 wz w.heap.size u106 t104, vz = (u106 : Value), fun vz wz => vz = (sv (List.map toB t104) : Value), fun vz wz => vz = (.bool (decide ((List.map toB t85.1) = (List.map toB t104))) : Value), fun vz wz => vz = (.bool (decide ((List.map toB t85.1) = (List.map toB t104))) : Value), fun vz wz => vz = (.bool (decide ((List.map toB t85.1) = (List.map toB t104))) : Value), fun vz _ => vz = undef, fun vz _ => vz = undef, fun vz _ => vz = undef, fun vz _ => vz = undef, fun vz _ => vz = undef] mo rfl ⟨fun _ _ _ h _ => h, fun _ _ _ h _ => h, fun _ _ _ h _ => h, fun _ _ _ h _ => h, fun _ _ _ h _ => h, fun _ _ _ h _ => h, fun _ _ _ h _ => h, fun _ _ _ h _ => h, fun _ _ _ h _ => h, fun _ _ _ ⟨u106, o107, h⟩ q => ⟨u106, o107.gr q, h⟩, fun _ _ _ h _ => h, fun _ _ _ h _ => h, fun _ _ _ h _ => h, fun _ _ _ h _ => h, fun _ _ _ h _ => h, fun _ _ _ h _ => h, fun _ _ _ h _ => h, fun _ _ _ h _ => h, fun _ _ _ h _ => h, trivial⟩ ?_ ?_
    ·refine ⟨?_, ?_, ?_, ?_, ?_, ?_, ?_, ?_, ?_, ?_, ?_, ?_, ?_, ?_, ?_, ?_, ?_, ?_, ?_, trivial⟩
     ·intro ρz wz hz hk hd
      exact sk_val (v := .int .i64 t85.2) (by exact xr_move rfl ((hk 4 rfl).trans rfl)) rfl rfl
     ·intro ρz wz hz hk hd
      have d33 := hd 0 rfl 33 rfl
      exact sk_val (v := .bool (decide (t85.2 = 0))) (by exact xr_eqI rfl Try.underlying31 rfl d33 rfl) rfl rfl
     ·intro ρz wz hz hk hd
      have d34 := hd 1 rfl 34 rfl
      exact sk_val (v := .bool (decide (t85.2 = 0))) (by exact xr_move rfl d34) rfl rfl
     ·intro ρz wz hz hk hd
      have d35 := hd 2 rfl 35 rfl
      exact sk_gval (v := .int .i64 t92.2) (by exact xr_move rfl ((hk 6 rfl).trans rfl)) rfl rfl d35 c102 rfl
     ·intro ρz wz hz hk hd
      have d36 := hd 3 rfl 36 rfl
      have d35 := hd 2 rfl 35 rfl
      exact sk_gval (v := .bool (decide (t92.2 = 0))) (by exact xr_eqI rfl Try.underlying31 rfl d36 rfl) rfl rfl d35 c102 rfl
     ·intro ρz wz hz hk hd
      have d35 := hd 2 rfl 35 rfl
      have d37 := hd 4 rfl 37 rfl
      exact sk_val (v := .bool (decide (t92.2 = 0))) (by exact xr_pickT rfl d35 c102 d37) rfl rfl
     ·intro ρz wz hz hk hd
      have d38 := hd 5 rfl 38 rfl
      exact sk_val (v := .bool (decide (t92.2 = 0))) (by exact xr_move rfl d38) rfl rfl
     ·intro ρz wz hz hk hd
      have d39 := hd 6 rfl 39 rfl
      exact sk_gval (v := u87) (by exact xr_move rfl ((hk 3 rfl).trans rfl)) rfl rfl d39 c103 rfl
     ·intro ρz wz hz hk hd
      have d40 := hd 7 rfl 40 rfl
      have d39 := hd 6 rfl 39 rfl
      exact sk_gval (v := sv (List.map toB t85.1)) (by exact xr_toStr rfl Try.underlying43 Try.underlying5 Try.underlying9 d40 (o88.gr hz).rd) rfl rfl d39 c103 rfl
     ·intro ρz wz hz hk hd
      have d39 := hd 6 rfl 39 rfl
      refine sk_gop (by exact opv_call rfl cal101 (ac rfl an) (rickyardlaw15_block.ok fu _ 0 _ k105)) rfl rfl d39 c103 ?_
      rintro u106 wy ⟨_, o107, rfl, q109⟩
      exact ⟨⟨u106, Own.base o107 ((Nat.le_trans fB.size hz.size)), rfl⟩, q109⟩
     ·intro ρz wz hz hk hd
      obtain ⟨u106, o107, d42⟩ := hd 9 rfl 42 rfl
      have d39 := hd 6 rfl 39 rfl
      exact sk_gval (v := sv (List.map toB t104)) (by exact xr_toStr rfl Try.underlying43 Try.underlying5 Try.underlying9 d42 o107.rd) rfl rfl d39 c103 rfl
     ·intro ρz wz hz hk hd
      have d41 := hd 8 rfl 41 rfl
      have d43 := hd 10 rfl 43 rfl
      have d39 := hd 6 rfl 39 rfl
      exact sk_gval (v := .bool (decide ((List.map toB t85.1) = (List.map toB t104)))) (by exact xr_eqStr rfl Try.underlying9 d41 d43) rfl rfl d39 c103 rfl
     ·intro ρz wz hz hk hd
      have d39 := hd 6 rfl 39 rfl
      have d44 := hd 11 rfl 44 rfl
      exact sk_val (v := .bool (decide ((List.map toB t85.1) = (List.map toB t104)))) (by exact xr_pickT rfl d39 c103 d44) rfl rfl
     ·intro ρz wz hz hk hd
      have d45 := hd 12 rfl 45 rfl
      exact sk_val (v := .bool (decide ((List.map toB t85.1) = (List.map toB t104)))) (by exact xr_move rfl d45) rfl rfl
     ·intro ρz wz hz hk hd
      have d46 := hd 13 rfl 46 rfl
      exact sk_skip rfl rfl d46 c110 rfl
     ·intro ρz wz hz hk hd
      have d46 := hd 13 rfl 46 rfl
      exact sk_skip rfl rfl d46 c110 rfl
     ·intro ρz wz hz hk hd
      have d46 := hd 13 rfl 46 rfl
      exact sk_skip rfl rfl d46 c110 rfl
     ·intro ρz wz hz hk hd
      have d46 := hd 13 rfl 46 rfl
      exact sk_skip rfl rfl d46 c110 rfl
     intro ρz wz hz hk hd
     have d46 := hd 13 rfl 46 rfl
     exact sk_skip rfl rfl d46 c110 rfl
    intro ρ120 w121 q122 hk hd
    have e46 := hd 13 rfl 46 rfl
    have fB := fB.gr q122
    refine ol_val (v := .bool false) (by exact xr_pickF rfl e46 c110 rfl) rfl rfl rfl ?_
    refine ol_val (v := .bool false) (by exact xr_assign rfl rfl) rfl rfl rfl ?_
    refine ol_nil ?_
    obtain rfl := Option.some.inj j101
    refine thn_i ?_
    exact ⟨rfl, q122⟩
   refine cw_drawL 19 [fun vz wz => vz = (.int .i64 t85.2 : Value), fun vz wz => vz = (.bool (decide (t85.2 = 0)) : Value), fun vz wz => vz = (.bool (decide (t85.2 = 0)) : Value), fun vz wz => vz = (.int .i64 t92.2 : Value), fun vz wz => vz = (.bool (decide (t92.2 = 0)) : Value), fun vz wz => vz = (.bool (decide (t92.2 = 0)) : Value), fun vz wz => vz = (.bool (decide (t92.2 = 0)) : Value), fun vz _ => vz = undef, fun vz _ => vz = undef, fun vz _ => vz = undef, fun vz _ => vz = undef, fun vz _ => vz = undef, fun vz wz => vz = (.bool false : Value), fun vz wz => vz = (.bool false : Value), fun vz _ => vz = undef, fun vz _ => vz = undef, fun vz _ => vz = undef, fun vz _ => vz = undef, fun vz _ => vz = undef] mo rfl ⟨fun _ _ _ h _ => h, fun _ _ _ h _ => h, fun _ _ _ h _ => h, fun _ _ _ h _ => h, fun _ _ _ h _ => h, fun _ _ _ h _ => h, fun _ _ _ h _ => h, fun _ _ _ h _ => h, fun _ _ _ h _ => h, fun _ _ _ h _ => h, fun _ _ _ h _ => h, fun _ _ _ h _ => h, fun _ _ _ h _ => h, fun _ _ _ h _ => h, fun _ _ _ h _ => h, fun _ _ _ h _ => h, fun _ _ _ h _ => h, fun _ _ _ h _ => h, fun _ _ _ h _ => h, trivial⟩ ?_ ?_
   ·refine ⟨?_, ?_, ?_, ?_, ?_, ?_, ?_, ?_, ?_, ?_, ?_, ?_, ?_, ?_, ?_, ?_, ?_, ?_, ?_, trivial⟩
    ·intro ρz wz hz hk hd
     exact sk_val (v := .int .i64 t85.2) (by exact xr_move rfl ((hk 4 rfl).trans rfl)) rfl rfl
    ·intro ρz wz hz hk hd
     have d33 := hd 0 rfl 33 rfl
     exact sk_val (v := .bool (decide (t85.2 = 0))) (by exact xr_eqI rfl Try.underlying31 rfl d33 rfl) rfl rfl
    ·intro ρz wz hz hk hd
     have d34 := hd 1 rfl 34 rfl
     exact sk_val (v := .bool (decide (t85.2 = 0))) (by exact xr_move rfl d34) rfl rfl
    ·intro ρz wz hz hk hd
     have d35 := hd 2 rfl 35 rfl
     exact sk_gval (v := .int .i64 t92.2) (by exact xr_move rfl ((hk 6 rfl).trans rfl)) rfl rfl d35 c102 rfl
    ·intro ρz wz hz hk hd
     have d36 := hd 3 rfl 36 rfl
     have d35 := hd 2 rfl 35 rfl
     exact sk_gval (v := .bool (decide (t92.2 = 0))) (by exact xr_eqI rfl Try.underlying31 rfl d36 rfl) rfl rfl d35 c102 rfl
    ·intro ρz wz hz hk hd
     have d35 := hd 2 rfl 35 rfl
     have d37 := hd 4 rfl 37 rfl
     exact sk_val (v := .bool (decide (t92.2 = 0))) (by exact xr_pickT rfl d35 c102 d37) rfl rfl
    ·intro ρz wz hz hk hd
     have d38 := hd 5 rfl 38 rfl
     exact sk_val (v := .bool (decide (t92.2 = 0))) (by exact xr_move rfl d38) rfl rfl
    ·intro ρz wz hz hk hd
     have d39 := hd 6 rfl 39 rfl
     exact sk_skip rfl rfl d39 c103 rfl
    ·intro ρz wz hz hk hd
     have d39 := hd 6 rfl 39 rfl
     exact sk_skip rfl rfl d39 c103 rfl
    ·intro ρz wz hz hk hd
     have d39 := hd 6 rfl 39 rfl
     exact sk_skip rfl rfl d39 c103 rfl
    ·intro ρz wz hz hk hd
     have d39 := hd 6 rfl 39 rfl
     exact sk_skip rfl rfl d39 c103 rfl
    ·intro ρz wz hz hk hd
     have d39 := hd 6 rfl 39 rfl
     exact sk_skip rfl rfl d39 c103 rfl
    ·intro ρz wz hz hk hd
     have d39 := hd 6 rfl 39 rfl
     exact sk_val (v := .bool false) (by exact xr_pickF rfl d39 c103 rfl) rfl rfl
    ·intro ρz wz hz hk hd
     have d45 := hd 12 rfl 45 rfl
     exact sk_val (v := .bool false) (by exact xr_move rfl d45) rfl rfl
    ·intro ρz wz hz hk hd
     have d46 := hd 13 rfl 46 rfl
     exact sk_skip rfl rfl d46 rfl rfl
    ·intro ρz wz hz hk hd
     have d46 := hd 13 rfl 46 rfl
     exact sk_skip rfl rfl d46 rfl rfl
    ·intro ρz wz hz hk hd
     have d46 := hd 13 rfl 46 rfl
     exact sk_skip rfl rfl d46 rfl rfl
    ·intro ρz wz hz hk hd
     have d46 := hd 13 rfl 46 rfl
     exact sk_skip rfl rfl d46 rfl rfl
    intro ρz wz hz hk hd
    have d46 := hd 13 rfl 46 rfl
    exact sk_skip rfl rfl d46 rfl rfl
   intro ρ123 w124 q125 hk hd
   have e46 := hd 13 rfl 46 rfl
   have fB := fB.gr q125
   refine ol_val (v := .bool false) (by exact xr_pickF rfl e46 rfl rfl) rfl rfl rfl ?_
   refine ol_val (v := .bool false) (by exact xr_assign rfl rfl) rfl rfl rfl ?_
   refine ol_nil ?_
   obtain rfl := Option.some.inj j101
   refine thn_i ?_
   exact ⟨rfl, q125⟩
  refine cw_drawL 19 [fun vz wz => vz = (.int .i64 t85.2 : Value), fun vz wz => vz = (.bool (decide (t85.2 = 0)) : Value), fun vz wz => vz = (.bool (decide (t85.2 = 0)) : Value), fun vz _ => vz = undef, fun vz _ => vz = undef, fun vz wz => vz = (.bool false : Value), fun vz wz => vz = (.bool false : Value), fun vz _ => vz = undef, fun vz _ => vz = undef, fun vz _ => vz = undef, fun vz _ => vz = undef, fun vz _ => vz = undef, fun vz wz => vz = (.bool false : Value), fun vz wz => vz = (.bool false : Value), fun vz _ => vz = undef, fun vz _ => vz = undef, fun vz _ => vz = undef, fun vz _ => vz = undef, fun vz _ => vz = undef] mo rfl ⟨fun _ _ _ h _ => h, fun _ _ _ h _ => h, fun _ _ _ h _ => h, fun _ _ _ h _ => h, fun _ _ _ h _ => h, fun _ _ _ h _ => h, fun _ _ _ h _ => h, fun _ _ _ h _ => h, fun _ _ _ h _ => h, fun _ _ _ h _ => h, fun _ _ _ h _ => h, fun _ _ _ h _ => h, fun _ _ _ h _ => h, fun _ _ _ h _ => h, fun _ _ _ h _ => h, fun _ _ _ h _ => h, fun _ _ _ h _ => h, fun _ _ _ h _ => h, fun _ _ _ h _ => h, trivial⟩ ?_ ?_
  ·refine ⟨?_, ?_, ?_, ?_, ?_, ?_, ?_, ?_, ?_, ?_, ?_, ?_, ?_, ?_, ?_, ?_, ?_, ?_, ?_, trivial⟩
   ·intro ρz wz hz hk hd
    exact sk_val (v := .int .i64 t85.2) (by exact xr_move rfl ((hk 4 rfl).trans rfl)) rfl rfl
   ·intro ρz wz hz hk hd
    have d33 := hd 0 rfl 33 rfl
    exact sk_val (v := .bool (decide (t85.2 = 0))) (by exact xr_eqI rfl Try.underlying31 rfl d33 rfl) rfl rfl
   ·intro ρz wz hz hk hd
    have d34 := hd 1 rfl 34 rfl
    exact sk_val (v := .bool (decide (t85.2 = 0))) (by exact xr_move rfl d34) rfl rfl
   ·intro ρz wz hz hk hd
    have d35 := hd 2 rfl 35 rfl
    exact sk_skip rfl rfl d35 c102 rfl
   ·intro ρz wz hz hk hd
    have d35 := hd 2 rfl 35 rfl
    exact sk_skip rfl rfl d35 c102 rfl
   ·intro ρz wz hz hk hd
    have d35 := hd 2 rfl 35 rfl
    exact sk_val (v := .bool false) (by exact xr_pickF rfl d35 c102 rfl) rfl rfl
   ·intro ρz wz hz hk hd
    have d38 := hd 5 rfl 38 rfl
    exact sk_val (v := .bool false) (by exact xr_move rfl d38) rfl rfl
   ·intro ρz wz hz hk hd
    have d39 := hd 6 rfl 39 rfl
    exact sk_skip rfl rfl d39 rfl rfl
   ·intro ρz wz hz hk hd
    have d39 := hd 6 rfl 39 rfl
    exact sk_skip rfl rfl d39 rfl rfl
   ·intro ρz wz hz hk hd
    have d39 := hd 6 rfl 39 rfl
    exact sk_skip rfl rfl d39 rfl rfl
   ·intro ρz wz hz hk hd
    have d39 := hd 6 rfl 39 rfl
    exact sk_skip rfl rfl d39 rfl rfl
   ·intro ρz wz hz hk hd
    have d39 := hd 6 rfl 39 rfl
    exact sk_skip rfl rfl d39 rfl rfl
   ·intro ρz wz hz hk hd
    have d39 := hd 6 rfl 39 rfl
    exact sk_val (v := .bool false) (by exact xr_pickF rfl d39 rfl rfl) rfl rfl
   ·intro ρz wz hz hk hd
    have d45 := hd 12 rfl 45 rfl
    exact sk_val (v := .bool false) (by exact xr_move rfl d45) rfl rfl
   ·intro ρz wz hz hk hd
    have d46 := hd 13 rfl 46 rfl
    exact sk_skip rfl rfl d46 rfl rfl
   ·intro ρz wz hz hk hd
    have d46 := hd 13 rfl 46 rfl
    exact sk_skip rfl rfl d46 rfl rfl
   ·intro ρz wz hz hk hd
    have d46 := hd 13 rfl 46 rfl
    exact sk_skip rfl rfl d46 rfl rfl
   ·intro ρz wz hz hk hd
    have d46 := hd 13 rfl 46 rfl
    exact sk_skip rfl rfl d46 rfl rfl
   intro ρz wz hz hk hd
   have d46 := hd 13 rfl 46 rfl
   exact sk_skip rfl rfl d46 rfl rfl
  intro ρ126 w127 q128 hk hd
  have e46 := hd 13 rfl 46 rfl
  have fB := fB.gr q128
  refine ol_val (v := .bool false) (by exact xr_pickF rfl e46 rfl rfl) rfl rfl rfl ?_
  refine ol_val (v := .bool false) (by exact xr_assign rfl rfl) rfl rfl rfl ?_
  refine ol_nil ?_
  obtain rfl := Option.some.inj j101
  refine thn_i ?_
  exact ⟨rfl, q128⟩
 rintro ρ129 w130 ⟨e0, q131⟩
 have fB := fB.gr q131
 refine cw_ret ?_
 repeat (first | with_reducible refine thn_r ?_ | with_reducible refine blk_r ?_)
 obtain rfl := Option.some.inj h
 refine fin_ret1 Try.results52 e0 ?_
 exact ⟨_, rfl, rfl, fB⟩
end Go.Proofs.Ytklhbaghbmndeaa

/- rickyard/rickyardlaw15.PressTorn: its model, and that the Go function computes it: written by gen.py. -/
set_option linter.unusedVariables false
namespace Go.Proofs.Ytklhbaghbmndeaa
open Go Go.Xw
def rickyardlaw15_PressTorn.s0 (fu : Nat) (a0 : Arr 2 (Arr 64 Int)) (t96 : Int × S_pmem_Device) (t127 : (List Int) × Int) : Int → Option (Sum (Sum Bool Unit) Int) := fun s137 => (if (decide (s137 < 64)) = true then (if (0 : Int) ≤ s137 ∧ s137 ≤ (IntKind.i64.wrap (s137 + 8)) ∧ (IntKind.i64.wrap (s137 + 8)) ≤ (List.length t127.1 : Int) then (((if 0 ≤ s137 ∧ s137 ≤ (IntKind.i64.wrap (s137 + 8)) ∧ (IntKind.i64.wrap (s137 + 8)) ≤ (List.length (Arr.l (Arr.get a0 1)) : Int) then (if (!decide ((List.map toB (cut t127.1 s137 (IntKind.i64.wrap (s137 + 8)))) = (List.map toB (cut (Arr.l (Arr.get a0 1)) s137 (IntKind.i64.wrap (s137 + 8)))))) = true then (if 0 ≤ s137 ∧ s137 ≤ (IntKind.i64.wrap (s137 + 8)) ∧ (IntKind.i64.wrap (s137 + 8)) ≤ (List.length (Arr.l (Arr.get a0 0)) : Int) then (if (!decide ((List.map toB (cut t127.1 s137 (IntKind.i64.wrap (s137 + 8)))) = (List.map toB (cut (Arr.l (Arr.get a0 0)) s137 (IntKind.i64.wrap (s137 + 8)))))) = true then some (true) else some ((decide (t96.1 = 0)))) else none) else some (false)) else none) : Option Bool).bind fun x148 => (if x148 = true then some (Sum.inl (Sum.inl (false))) else some (Sum.inr ((IntKind.i64.wrap (s137 + 8)))))) else none) else some (Sum.inl (Sum.inr ())))
def rickyardlaw15_PressTorn.f (fu : Nat) (a0 : Arr 2 (Arr 64 Int)) (a1 : Int) (a2 : List Int) : Option Bool := ((((rickyardlaw15_awake.f fu : Option Bool).bind fun t9 => (if (!t9) = true then some (true) else some ((decide ((List.length a2 : Int) > 20))))) : Option Bool).bind fun x7 => (if x7 = true then ((rickyardlaw15_awake.f fu : Option Bool).bind fun t18 => some (t18)) else ((pmem_New.f fu 1 : Option ((Option S_pmem_Device) × Int)).bind fun t22 => (Option.elim t22.1 (some (false)) (fun m29 => ((press_Write.f fu m29 0 (Arr.l (Arr.get a0 0)) : Option (Int × S_pmem_Device)).bind fun t43 => (if (!decide (t43.1 = 0)) = true then some (false) else ((press_Sure.f fu t43.2 : Option (Int × S_pmem_Device)).bind fun t59 => (if (!decide (t59.1 = 0)) = true then some (false) else ((pmem_Device_Arm.f fu t59.2 (Int.tmod (IntKind.i64.wrap a1) 12) : Option S_pmem_Device).bind fun t74 => ((press_Write.f fu (⟨t59.2.cells, (⟨t59.2.plan.list, t74.plan.at_⟩ : S_pmem_plan), t74.off, t74.armed, t74.left, t74.steps⟩ : S_pmem_Device) 0 (Arr.l (Arr.get a0 1)) : Option (Int × S_pmem_Device)).bind fun t81 => ((press_Sure.f fu t81.2 : Option (Int × S_pmem_Device)).bind fun t96 => (if (if (!decide ((decide (t81.1 = 0)) = (decide ((Int.tmod (IntKind.i64.wrap a1) 12) ≥ 9)))) = true then true else (!decide ((decide (t96.1 = 0)) = (decide ((Int.tmod (IntKind.i64.wrap a1) 12) ≥ 10))))) = true then some (false) else ((pmem_Device_Crash.f fu t96.2 a2 : Option S_pmem_Device).bind fun t113 => ((press_Read.f fu t113 0 : Option ((List Int) × Int)).bind fun t127 => (if (if (!decide (t127.2 = 0)) = true then true else (!decide ((List.length t127.1 : Int) = 64))) = true then some (false) else ((loopM (rickyardlaw15_PressTorn.s0 fu a0 t96 t127) fu (0)).bind fun e138 => match e138 with | Sum.inl p => some p | Sum.inr x141 => some (true))))))))))))))))))
set_option maxRecDepth 100000 in
set_option maxHeartbeats 400000 in
theorem rickyardlaw15_PressTorn.ok (fu : Nat) (w : World) (a0 : Arr 2 (Arr 64 Int)) (a1 : Int) (a2 : List Int) (V2_0 : Value) (R2_0 : Rd (kI .i64) w V2_0 a2) (r : Bool) (h : rickyardlaw15_PressTorn.f fu a0 a1 a2 = some r) :
  Calls Try.prog 10 (([aggV [Kd.seg (kA 2 (kA 64 (kI .u8))) a0], .int .u8 a1, V2_0] : List Value).toArray) w (fun e w' => ∃ v, e = .returned v ∧ v = .bool r ∧ Gr w w') := by
 unfold rickyardlaw15_PressTorn.f at h
 have fB : Gr w w := Fr.refl _ _
 refine calls_cw Try.func10 rfl Try.ntmps10 rfl ?_
 refine cw_seq ?_
 refine cw_region ?_
 refine ol_op (by exact opv_box (ss := [Kd.seg (kA 2 (kA 64 (kI .u8))) a0]) rfl rfl rfl) rfl rfl rfl ?_
 rintro _ w6 ⟨G1, rfl, b2, q3, z4⟩
 have z4 := Nat.le_trans fB.size z4
 have fB := fB.gr q3
 refine ol_val (v := .bool false) (by exact xr_assign rfl rfl) rfl rfl rfl ?_
 refine ol_nil ?_
 refine cw_seq ?_
 refine cw_seq ?_
 obtain ⟨x7, j8, h⟩ := bs h
 refine cw_mid (fun ρ' w' => ρ' 1 = .int .u8 a1 ∧ ρ' 2 = V2_0 ∧ ρ' 3 = .pointer (some ⟨G1, 0, none⟩) ∧ ρ' 22 = .bool x7 ∧ Gr w6 w') ?_ ?_
 ·skip
  refine cw_region ?_
  obtain ⟨t9, k10, j8⟩ := bs j8
  refine ol_op (by exact opv_call rfl cal52 an (rickyardlaw15_awake.ok fu _ _ k10)) rfl rfl rfl ?_
  rintro _ w12 ⟨rfl, q11⟩
  have b2 := b2.gr q11
  have fB := fB.gr q11
  refine ol_val (v := .bool (!t9)) (by exact xr_not rfl rfl) rfl rfl rfl ?_
  refine ol_val (v := .bool (!t9)) (by exact xr_move rfl rfl) rfl rfl rfl ?_
  rcases is j8 with ⟨c13, j8⟩ | ⟨c13, j8⟩
  ·skip
   refine ol_gskip rfl rfl rfl rfl rfl c13 ?_
   refine ol_gskip rfl rfl rfl rfl rfl c13 ?_
   refine ol_gskip rfl rfl rfl rfl rfl c13 ?_
   refine ol_val (v := .bool true) (by exact xr_pickT rfl rfl c13 rfl) rfl rfl rfl ?_
   refine ol_nil ?_
   obtain rfl := Option.some.inj j8
   refine thn_i ?_
   exact ⟨rfl, rfl, rfl, rfl, q11⟩
  refine ol_gval (v := V2_0) (by exact xr_move rfl rfl) rfl rfl rfl rfl rfl c13 ?_
  refine ol_gval (v := .int .i64 (List.length a2 : Int)) (by exact xr_lenR rfl Try.underlying25 rfl (R2_0.gr fB)) rfl rfl rfl rfl rfl c13 ?_
  refine ol_gval (v := .bool (decide ((List.length a2 : Int) > 20))) (by exact xr_gtr rfl rfl rfl) rfl rfl rfl rfl rfl c13 ?_
  refine ol_val (v := .bool (decide ((List.length a2 : Int) > 20))) (by exact xr_pickF rfl rfl c13 rfl) rfl rfl rfl ?_
  refine ol_nil ?_
  obtain rfl := Option.some.inj j8
  refine thn_i ?_
  exact ⟨rfl, rfl, rfl, rfl, q11⟩
 rintro ρ14 w15 ⟨e1, e2, e3, e22, q16⟩
 have b2 := b2.gr q16
 have fB := fB.gr q16
 rcases is h with ⟨c17, h⟩ | ⟨c17, h⟩
 ·refine cw_condT e22 c17 ?_
  refine cw_seq ?_
  refine cw_region ?_
  obtain ⟨t18, k19, h⟩ := bs h
  refine ol_op (by exact opv_call rfl cal52 an (rickyardlaw15_awake.ok fu _ _ k19)) rfl rfl rfl ?_
  rintro _ w21 ⟨rfl, q20⟩
  have fB := fB.gr q20
  refine ol_val (v := .bool t18) (by exact xr_assign rfl rfl) rfl rfl rfl ?_
  refine ol_nil ?_
  refine cw_ret ?_
  repeat (first | with_reducible refine thn_r ?_ | with_reducible refine blk_r ?_)
  obtain rfl := Option.some.inj h
  refine fin_ret1 Try.results10 rfl ?_
  exact ⟨_, rfl, rfl, fB⟩
 refine cw_condF e22 c17 ?_
 refine cw_skip ?_
 refine cw_seq ?_
 refine cw_region ?_
 obtain ⟨t22, k23, h⟩ := bs h
 refine ol_op (by exact opv_call rfl cal26 (ac rfl an) (pmem_New.ok fu _ 1 _ k23)) rfl rfl rfl ?_
 rintro _ w27 ⟨u24, p25, rfl, q26⟩
 rcases en h with ⟨e28, h⟩ | ⟨m29, e28, h⟩
 ·obtain rfl := p25.1 e28
  have b2 := b2.gr q26
  have fB := fB.gr q26
  refine ol_val (v := .tuple #[.pointer none, .int .i64 t22.2]) (by exact xr_move rfl rfl) rfl rfl rfl ?_
  refine ol_val (v := .pointer none) (by exact xr_extract rfl rfl rfl) rfl rfl rfl ?_
  refine ol_val (v := .int .i64 t22.2) (by exact xr_extract rfl rfl rfl) rfl rfl rfl ?_
  refine ol_val (v := .pointer none) (by exact xr_assign rfl rfl) rfl rfl rfl ?_
  refine ol_val (v := .int .i64 t22.2) (by exact xr_assign rfl rfl) rfl rfl rfl ?_
  refine ol_nil ?_
  refine cw_seq ?_
  refine cw_seq ?_
  refine cw_mid (fun ρ' w' => ρ' 1 = .int .u8 a1 ∧ ρ' 2 = V2_0 ∧ ρ' 3 = .pointer (some ⟨G1, 0, none⟩) ∧ ρ' 7 = .pointer none ∧ ρ' 41 = .bool true ∧ w27 = w') ?_ ?_
  ·skip
   refine cw_region ?_
   refine ol_val (v := .pointer none) (by exact xr_move rfl rfl) rfl rfl rfl ?_
   refine ol_val (v := .bool true) (by exact xr_eqP (b := true) rfl Try.underlying30 rfl rfl (by simp) (by simp)) rfl rfl rfl ?_
   refine ol_val (v := .bool true) (by exact xr_move rfl rfl) rfl rfl rfl ?_
   refine ol_gskip rfl rfl rfl rfl rfl rfl ?_
   refine ol_gskip rfl rfl rfl rfl rfl rfl ?_
   refine ol_gskip rfl rfl rfl rfl rfl rfl ?_
   refine ol_gskip rfl rfl rfl rfl rfl rfl ?_
   refine ol_gskip rfl rfl rfl rfl rfl rfl ?_
   refine ol_val (v := .bool true) (by exact xr_pickT rfl rfl rfl rfl) rfl rfl rfl ?_
   refine ol_val (v := .bool true) (by exact xr_move rfl rfl) rfl rfl rfl ?_
   refine ol_gskip rfl rfl rfl rfl rfl rfl ?_
   refine ol_gskip rfl rfl rfl rfl rfl rfl ?_
   refine ol_gskip rfl rfl rfl rfl rfl rfl ?_
   refine ol_val (v := .bool true) (by exact xr_pickT rfl rfl rfl rfl) rfl rfl rfl ?_
   refine ol_nil ?_
   refine thn_i ?_
   exact ⟨e1, e2, e3, rfl, rfl, rfl⟩
  rintro ρ30 _ ⟨e1, e2, e3, e7, e41, rfl⟩
  refine cw_condT e41 rfl ?_
  refine cw_seq ?_
  refine cw_region ?_
  refine ol_val (v := .bool false) (by exact xr_assign rfl rfl) rfl rfl rfl ?_
  refine ol_nil ?_
  refine cw_ret ?_
  repeat (first | with_reducible refine thn_r ?_ | with_reducible refine blk_r ?_)
  obtain rfl := Option.some.inj h
  refine fin_ret1 Try.results10 rfl ?_
  exact ⟨_, rfl, rfl, fB⟩
 obtain ⟨G31, u35, u38, o36, o39, rfl, z32, b33⟩ := p25.2 _ e28
 have o36 := Own.base o36 fB.size
 have o39 := Own.base o39 fB.size
 have n41 := b2.ne z32
 have z32 := Nat.le_trans fB.size z32
 have b2 := b2.gr q26
 have fB := fB.gr q26
 refine ol_val (v := .tuple #[.pointer (some ⟨G31, 0, none⟩), .int .i64 t22.2]) (by exact xr_move rfl rfl) rfl rfl rfl ?_
 refine ol_val (v := .pointer (some ⟨G31, 0, none⟩)) (by exact xr_extract rfl rfl rfl) rfl rfl rfl ?_
 refine ol_val (v := .int .i64 t22.2) (by exact xr_extract rfl rfl rfl) rfl rfl rfl ?_
 refine ol_val (v := .pointer (some ⟨G31, 0, none⟩)) (by exact xr_assign rfl rfl) rfl rfl rfl ?_
 refine ol_val (v := .int .i64 t22.2) (by exact xr_assign rfl rfl) rfl rfl rfl ?_
 refine ol_nil ?_
 refine cw_seq ?_
 refine cw_seq ?_
 refine cw_region ?_
 refine ol_val (v := .pointer (some ⟨G31, 0, none⟩)) (by exact xr_move rfl rfl) rfl rfl rfl ?_
 refine ol_val (v := .bool false) (by exact xr_eqP (b := false) rfl Try.underlying30 rfl rfl (by simp) (by simp)) rfl rfl rfl ?_
 refine ol_val (v := .bool false) (by exact xr_move rfl rfl) rfl rfl rfl ?_
 refine ol_gval (v := .pointer (some ⟨G31, 0, none⟩)) (by exact xr_move rfl rfl) rfl rfl rfl rfl rfl rfl ?_
 refine ol_gval (v := .pointer (some ⟨G1, 0 + Int.toNat 0 * 64, none⟩)) (by exact xr_indexA (p := 0) (s := 64) rfl Try.underlying72 sz71 e3 rfl (by decide) (by decide)) rfl rfl rfl rfl rfl rfl ?_
 refine ol_gval (v := .slice (some ⟨G1, 0 + Int.toNat 0 * 64, none⟩) 64 64) (by exact xr_sliceArr rfl Try.underlying71 sz5 rfl) rfl rfl rfl rfl rfl rfl ?_
 have r42 : Rd (kI .u8) w27 (.slice (some ⟨G1, 0 + Int.toNat 0 * 64, none⟩) 64 64) (Arr.l (Arr.get a0 0)) := Rd.arr (At.arr (a := a0) (b2.seg 0 rfl rfl) (by decide) (by decide))
 obtain ⟨t43, k44, h⟩ := bs h
 have f54 := (nb_or n41 (nb_or (nb_off (off_ty b2 o36 (by decide))) (nb_off (off_ty b2 o39 (by decide)))))
 have f55 := (ro_or (ro_eq (show OffR (.slice (some ⟨G1, 0 + Int.toNat 0 * 64, none⟩) 64 64) (Arr.l (Arr.get a0 0)) G31 from fun _ => n41)) (ro_or (ro_own (show OffRV (.slice (some ⟨G1, 0 + Int.toNat 0 * 64, none⟩) 64 64) (Arr.l (Arr.get a0 0)) u35 from fun _ => off_ty b2 o36 (by decide))) (ro_own (show OffRV (.slice (some ⟨G1, 0 + Int.toNat 0 * 64, none⟩) 64 64) (Arr.l (Arr.get a0 0)) u38 from fun _ => off_ty b2 o39 (by decide)))))
 have c56 : ∀ k, (k = G31 ∨ some k = Value.ownBlock u35 ∨ some k = Value.ownBlock u38) → w.heap.size ≤ k := (cv_or (cv_eq z32) (cv_or (cv_own o36.geO) (cv_own o39.geO)))
 refine ol_gop (by exact opv_call rfl cal53 (ac rfl (ac rfl (ac rfl an))) (press_Write.ok fu _ m29 G31 u35 (Own.base o36 (Nat.zero_le _)) u38 (Own.base o39 (Nat.zero_le _)) b33 0 (Arr.l (Arr.get a0 0)) (.slice (some ⟨G1, 0 + Int.toNat 0 * 64, none⟩) 64 64) (r42) (show OffR (.slice (some ⟨G1, 0 + Int.toNat 0 * 64, none⟩) 64 64) (Arr.l (Arr.get a0 0)) G31 from fun _ => n41) (show OffRV (.slice (some ⟨G1, 0 + Int.toNat 0 * 64, none⟩) 64 64) (Arr.l (Arr.get a0 0)) u35 from fun _ => off_ty b2 o36 (by decide)) (show OffRV (.slice (some ⟨G1, 0 + Int.toNat 0 * 64, none⟩) 64 64) (Arr.l (Arr.get a0 0)) u38 from fun _ => off_ty b2 o39 (by decide)) _ k44)) rfl rfl rfl rfl rfl rfl ?_
 rintro _ w57 ⟨u46, u50, o47, m48, o51, m52, rfl, b33, q45⟩
 have o47 := Own.rebase o47 (fun g hg => (m48 g hg).elim (fun x => Nat.le_trans fB.size x) (c56 g))
 have o51 := Own.rebase o51 (fun g hg => (m52 g hg).elim (fun x => Nat.le_trans fB.size x) (c56 g))
 have b2 := b2.fr q45 f54
 have fB := fB.call q45 (fun k h => .inl (c56 k h))
 refine ol_gval (v := .bool (!decide (t43.1 = 0))) (by exact xr_neI rfl Try.underlying31 rfl rfl rfl) rfl rfl rfl rfl rfl rfl ?_
 refine ol_val (v := .bool (!decide (t43.1 = 0))) (by exact xr_pickF rfl rfl rfl rfl) rfl rfl rfl ?_
 refine ol_val (v := .bool (!decide (t43.1 = 0))) (by exact xr_move rfl rfl) rfl rfl rfl ?_
 rcases is h with ⟨c58, h⟩ | ⟨c58, h⟩
 ·skip
  refine ol_gskip rfl rfl rfl rfl rfl c58 ?_
  refine ol_gskip rfl rfl rfl rfl rfl c58 ?_
  refine ol_gskip rfl rfl rfl rfl rfl c58 ?_
  refine ol_val (v := .bool true) (by exact xr_pickT rfl rfl c58 rfl) rfl rfl rfl ?_
  refine ol_nil ?_
  refine cw_condT rfl rfl ?_
  refine cw_seq ?_
  refine cw_region ?_
  refine ol_val (v := .bool false) (by exact xr_assign rfl rfl) rfl rfl rfl ?_
  refine ol_nil ?_
  refine cw_ret ?_
  repeat (first | with_reducible refine thn_r ?_ | with_reducible refine blk_r ?_)
  obtain rfl := Option.some.inj h
  refine fin_ret1 Try.results10 rfl ?_
  exact ⟨_, rfl, rfl, fB⟩
 refine ol_gval (v := .pointer (some ⟨G31, 0, none⟩)) (by exact xr_move rfl rfl) rfl rfl rfl rfl rfl c58 ?_
 obtain ⟨t59, k60, h⟩ := bs h
 have f70 := (nb_or n41 (nb_or (nb_off (off_ty b2 o47 (by decide))) (nb_off (off_ty b2 o51 (by decide)))))
 have c71 : ∀ k, (k = G31 ∨ some k = Value.ownBlock u46 ∨ some k = Value.ownBlock u50) → w.heap.size ≤ k := (cv_or (cv_eq z32) (cv_or (cv_own o47.geO) (cv_own o51.geO)))
 refine ol_gop (by exact opv_call rfl cal54 (ac rfl an) (press_Sure.ok fu _ t43.2 G31 u46 (Own.base o47 (Nat.zero_le _)) u50 (Own.base o51 (Nat.zero_le _)) b33 _ k60)) rfl rfl rfl rfl rfl c58 ?_
 rintro _ w72 ⟨u62, u66, o63, m64, o67, m68, rfl, b33, q61⟩
 have o63 := Own.rebase o63 (fun g hg => (m64 g hg).elim (fun x => Nat.le_trans fB.size x) (c71 g))
 have o67 := Own.rebase o67 (fun g hg => (m68 g hg).elim (fun x => Nat.le_trans fB.size x) (c71 g))
 have b2 := b2.fr q61 f70
 have fB := fB.call q61 (fun k h => .inl (c71 k h))
 refine ol_gval (v := .bool (!decide (t59.1 = 0))) (by exact xr_neI rfl Try.underlying31 rfl rfl rfl) rfl rfl rfl rfl rfl c58 ?_
 refine ol_val (v := .bool (!decide (t59.1 = 0))) (by exact xr_pickF rfl rfl c58 rfl) rfl rfl rfl ?_
 refine ol_nil ?_
 rcases is h with ⟨c73, h⟩ | ⟨c73, h⟩
 ·refine cw_condT rfl c73 ?_
  refine cw_seq ?_
  refine cw_region ?_
  refine ol_val (v := .bool false) (by exact xr_assign rfl rfl) rfl rfl rfl ?_
  refine ol_nil ?_
  refine cw_ret ?_
  repeat (first | with_reducible refine thn_r ?_ | with_reducible refine blk_r ?_)
  obtain rfl := Option.some.inj h
  refine fin_ret1 Try.results10 rfl ?_
  exact ⟨_, rfl, rfl, fB⟩
 refine cw_condF rfl c73 ?_
 refine cw_skip ?_
 refine cw_seq ?_
 refine cw_region ?_
 refine ol_val (v := .int .u8 a1) (by exact xr_move rfl e1) rfl rfl rfl ?_
 refine ol_val (v := .int .i64 (IntKind.i64.wrap a1)) (by exact xr_conv rfl Try.underlying5 Try.underlying3 rfl) rfl rfl rfl ?_
 refine ol_val (v := .int .i64 (Int.tmod (IntKind.i64.wrap a1) 12)) (by exact xr_rem rfl rfl rfl (by decide)) rfl rfl rfl ?_
 refine ol_val (v := .int .i64 (Int.tmod (IntKind.i64.wrap a1) 12)) (by exact xr_assign rfl rfl) rfl rfl rfl ?_
 refine ol_nil ?_
 refine cw_seq ?_
 refine cw_region ?_
 refine ol_val (v := .pointer (some ⟨G31, 0, none⟩)) (by exact xr_move rfl rfl) rfl rfl rfl ?_
 refine ol_val (v := .int .i64 (Int.tmod (IntKind.i64.wrap a1) 12)) (by exact xr_move rfl rfl) rfl rfl rfl ?_
 obtain ⟨t74, k75, h⟩ := bs h
 have f77 := off_ty b33 o63 (by decide)
 have f78 := off_ty b33 o67 (by decide)
 refine ol_op (by exact opv_call rfl cal38 (ac rfl (ac rfl an)) (pmem_Device_Arm.ok fu _ t59.2 G31 u62 o63.rd (OffR.own o63 (off_ty b33 o63 (by decide))) u66 o67.rd (OffR.own o67 (off_ty b33 o67 (by decide))) b33 (Int.tmod (IntKind.i64.wrap a1) 12) _ k75)) rfl rfl rfl ?_
 rintro _ w79 ⟨rfl, b33, q76⟩
 have b2 := b2.wr q76 n41
 have o63 := o63.wr q76 f77
 have o67 := o67.wr q76 f78
 have fB := fB.wr q76 z32
 refine ol_nil ?_
 refine cw_seq ?_
 refine cw_region ?_
 refine ol_val (v := .pointer (some ⟨G31, 0, none⟩)) (by exact xr_move rfl rfl) rfl rfl rfl ?_
 refine ol_val (v := .pointer (some ⟨G1, 0 + Int.toNat 1 * 64, none⟩)) (by exact xr_indexA (p := 0) (s := 64) rfl Try.underlying72 sz71 e3 rfl (by decide) (by decide)) rfl rfl rfl ?_
 refine ol_val (v := .slice (some ⟨G1, 0 + Int.toNat 1 * 64, none⟩) 64 64) (by exact xr_sliceArr rfl Try.underlying71 sz5 rfl) rfl rfl rfl ?_
 have r80 : Rd (kI .u8) w79 (.slice (some ⟨G1, 0 + Int.toNat 1 * 64, none⟩) 64 64) (Arr.l (Arr.get a0 1)) := Rd.arr (At.arr (a := a0) (b2.seg 0 rfl rfl) (by decide) (by decide))
 obtain ⟨t81, k82, h⟩ := bs h
 have f92 := (nb_or n41 (nb_or (nb_off (off_ty b2 o63 (by decide))) (nb_off (off_ty b2 o67 (by decide)))))
 have f93 := (ro_or (ro_eq (show OffR (.slice (some ⟨G1, 0 + Int.toNat 1 * 64, none⟩) 64 64) (Arr.l (Arr.get a0 1)) G31 from fun _ => n41)) (ro_or (ro_own (show OffRV (.slice (some ⟨G1, 0 + Int.toNat 1 * 64, none⟩) 64 64) (Arr.l (Arr.get a0 1)) u62 from fun _ => off_ty b2 o63 (by decide))) (ro_own (show OffRV (.slice (some ⟨G1, 0 + Int.toNat 1 * 64, none⟩) 64 64) (Arr.l (Arr.get a0 1)) u66 from fun _ => off_ty b2 o67 (by decide)))))
 have c94 : ∀ k, (k = G31 ∨ some k = Value.ownBlock u62 ∨ some k = Value.ownBlock u66) → w.heap.size ≤ k := (cv_or (cv_eq z32) (cv_or (cv_own o63.geO) (cv_own o67.geO)))
 refine ol_op (by exact opv_call rfl cal53 (ac rfl (ac rfl (ac rfl an))) (press_Write.ok fu _ (⟨t59.2.cells, (⟨t59.2.plan.list, t74.plan.at_⟩ : S_pmem_plan), t74.off, t74.armed, t74.left, t74.steps⟩ : S_pmem_Device) G31 u62 (Own.base o63 (Nat.zero_le _)) u66 (Own.base o67 (Nat.zero_le _)) b33 0 (Arr.l (Arr.get a0 1)) (.slice (some ⟨G1, 0 + Int.toNat 1 * 64, none⟩) 64 64) (r80) (show OffR (.slice (some ⟨G1, 0 + Int.toNat 1 * 64, none⟩) 64 64) (Arr.l (Arr.get a0 1)) G31 from fun _ => n41) (show OffRV (.slice (some ⟨G1, 0 + Int.toNat 1 * 64, none⟩) 64 64) (Arr.l (Arr.get a0 1)) u62 from fun _ => off_ty b2 o63 (by decide)) (show OffRV (.slice (some ⟨G1, 0 + Int.toNat 1 * 64, none⟩) 64 64) (Arr.l (Arr.get a0 1)) u66 from fun _ => off_ty b2 o67 (by decide)) _ k82)) rfl rfl rfl ?_
 rintro _ w95 ⟨u84, u88, o85, m86, o89, m90, rfl, b33, q83⟩
 have o85 := Own.rebase o85 (fun g hg => (m86 g hg).elim (fun x => Nat.le_trans fB.size x) (c94 g))
 have o89 := Own.rebase o89 (fun g hg => (m90 g hg).elim (fun x => Nat.le_trans fB.size x) (c94 g))
 have b2 := b2.fr q83 f92
 have fB := fB.call q83 (fun k h => .inl (c94 k h))
 refine ol_val (v := .int .i64 t81.1) (by exact xr_assign rfl rfl) rfl rfl rfl ?_
 refine ol_nil ?_
 refine cw_seq ?_
 refine cw_region ?_
 refine ol_val (v := .pointer (some ⟨G31, 0, none⟩)) (by exact xr_move rfl rfl) rfl rfl rfl ?_
 obtain ⟨t96, k97, h⟩ := bs h
 have f107 := (nb_or n41 (nb_or (nb_off (off_ty b2 o85 (by decide))) (nb_off (off_ty b2 o89 (by decide)))))
 have c108 : ∀ k, (k = G31 ∨ some k = Value.ownBlock u84 ∨ some k = Value.ownBlock u88) → w.heap.size ≤ k := (cv_or (cv_eq z32) (cv_or (cv_own o85.geO) (cv_own o89.geO)))
 refine ol_op (by exact opv_call rfl cal54 (ac rfl an) (press_Sure.ok fu _ t81.2 G31 u84 (Own.base o85 (Nat.zero_le _)) u88 (Own.base o89 (Nat.zero_le _)) b33 _ k97)) rfl rfl rfl ?_
 rintro _ w109 ⟨u99, u103, o100, m101, o104, m105, rfl, b33, q98⟩
 have o100 := Own.rebase o100 (fun g hg => (m101 g hg).elim (fun x => Nat.le_trans fB.size x) (c108 g))
 have o104 := Own.rebase o104 (fun g hg => (m105 g hg).elim (fun x => Nat.le_trans fB.size x) (c108 g))
 have b2 := b2.fr q98 f107
 have fB := fB.call q98 (fun k h => .inl (c108 k h))
 refine ol_val (v := .int .i64 t96.1) (by exact xr_assign rfl rfl) rfl rfl rfl ?_
 refine ol_nil ?_
 refine cw_seq ?_
 refine cw_seq ?_
 refine cw_mid (fun ρ' w' => ρ' 2 = V2_0 ∧ ρ' 3 = .pointer (some ⟨G1, 0, none⟩) ∧ ρ' 7 = .pointer (some ⟨G31, 0, none⟩) ∧ ρ' 11 = .int .i64 t96.1 ∧ ρ' 65 = .bool (if (!decide ((decide (t81.1 = 0)) = (decide ((Int.tmod (IntKind.i64.wrap a1) 12) ≥ 9)))) = true then true else (!decide ((decide (t96.1 = 0)) = (decide ((Int.tmod (IntKind.i64.wrap a1) 12) ≥ 10))))) ∧ w109 = w') ?_ ?_
 ·skip
  refine cw_region ?_
  refine ol_val (v := .int .i64 t81.1) (by exact xr_move rfl rfl) rfl rfl rfl ?_
  refine ol_val (v := .bool (decide (t81.1 = 0))) (by exact xr_eqI rfl Try.underlying31 rfl rfl rfl) rfl rfl rfl ?_
  refine ol_val (v := .int .i64 (Int.tmod (IntKind.i64.wrap a1) 12)) (by exact xr_move rfl rfl) rfl rfl rfl ?_
  refine ol_val (v := .bool (decide ((Int.tmod (IntKind.i64.wrap a1) 12) ≥ 9))) (by exact xr_geq rfl rfl rfl) rfl rfl rfl ?_
  refine ol_val (v := .bool (!decide ((decide (t81.1 = 0)) = (decide ((Int.tmod (IntKind.i64.wrap a1) 12) ≥ 9))))) (by exact xr_neB rfl Try.underlying4 rfl rfl) rfl rfl rfl ?_
  refine ol_val (v := .bool (!decide ((decide (t81.1 = 0)) = (decide ((Int.tmod (IntKind.i64.wrap a1) 12) ≥ 9))))) (by exact xr_move rfl rfl) rfl rfl rfl ?_
  rcases bt (!decide ((decide (t81.1 = 0)) = (decide ((Int.tmod (IntKind.i64.wrap a1) 12) ≥ 9)))) with c110 | c110
  ·skip
   refine ol_gskip rfl rfl rfl rfl rfl c110 ?_
   refine ol_gskip rfl rfl rfl rfl rfl c110 ?_
   refine ol_gskip rfl rfl rfl rfl rfl c110 ?_
   refine ol_gskip rfl rfl rfl rfl rfl c110 ?_
   refine ol_gskip rfl rfl rfl rfl rfl c110 ?_
   refine ol_val (v := .bool true) (by exact xr_pickT rfl rfl c110 rfl) rfl rfl rfl ?_
   refine ol_nil ?_
   refine thn_i ?_
   exact ⟨e2, e3, rfl, rfl, (rfl).trans (congrArg (fun z => (.bool z : Value)) (show true = (if (!decide ((decide (t81.1 = 0)) = (decide ((Int.tmod (IntKind.i64.wrap a1) 12) ≥ 9)))) = true then true else (!decide ((decide (t96.1 = 0)) = (decide ((Int.tmod (IntKind.i64.wrap a1) 12) ≥ 10))))) from by rw [ite_t c110])), rfl⟩
  refine ol_gval (v := .int .i64 t96.1) (by exact xr_move rfl rfl) rfl rfl rfl rfl rfl c110 ?_
  refine ol_gval (v := .bool (decide (t96.1 = 0))) (by exact xr_eqI rfl Try.underlying31 rfl rfl rfl) rfl rfl rfl rfl rfl c110 ?_
  refine ol_gval (v := .int .i64 (Int.tmod (IntKind.i64.wrap a1) 12)) (by exact xr_move rfl rfl) rfl rfl rfl rfl rfl c110 ?_
  refine ol_gval (v := .bool (decide ((Int.tmod (IntKind.i64.wrap a1) 12) ≥ 10))) (by exact xr_geq rfl rfl rfl) rfl rfl rfl rfl rfl c110 ?_
  refine ol_gval (v := .bool (!decide ((decide (t96.1 = 0)) = (decide ((Int.tmod (IntKind.i64.wrap a1) 12) ≥ 10))))) (by exact xr_neB rfl Try.underlying4 rfl rfl) rfl rfl rfl rfl rfl c110 ?_
  refine ol_val (v := .bool (!decide ((decide (t96.1 = 0)) = (decide ((Int.tmod (IntKind.i64.wrap a1) 12) ≥ 10))))) (by exact xr_pickF rfl rfl c110 rfl) rfl rfl rfl ?_
  refine ol_nil ?_
  refine thn_i ?_
  exact ⟨e2, e3, rfl, rfl, (rfl).trans (congrArg (fun z => (.bool z : Value)) (show (!decide ((decide (t96.1 = 0)) = (decide ((Int.tmod (IntKind.i64.wrap a1) 12) ≥ 10)))) = (if (!decide ((decide (t81.1 = 0)) = (decide ((Int.tmod (IntKind.i64.wrap a1) 12) ≥ 9)))) = true then true else (!decide ((decide (t96.1 = 0)) = (decide ((Int.tmod (IntKind.i64.wrap a1) 12) ≥ 10))))) from by rw [ite_f c110])), rfl⟩
 rintro ρ111 _ ⟨e2, e3, e7, e11, e65, rfl⟩
 rcases is h with ⟨c112, h⟩ | ⟨c112, h⟩
 ·refine cw_condT e65 c112 ?_
  refine cw_seq ?_
  refine cw_region ?_
  refine ol_val (v := .bool false) (by exact xr_assign rfl rfl) rfl rfl rfl ?_
  refine ol_nil ?_
  refine cw_ret ?_
  repeat (first | with_reducible refine thn_r ?_ | with_reducible refine blk_r ?_)
  obtain rfl := Option.some.inj h
  refine fin_ret1 Try.results10 rfl ?_
  exact ⟨_, rfl, rfl, fB⟩
 refine cw_condF e65 c112 ?_
 refine cw_skip ?_
 refine cw_seq ?_
 refine cw_region ?_
 refine ol_val (v := .pointer (some ⟨G31, 0, none⟩)) (by exact xr_move rfl e7) rfl rfl rfl ?_
 refine ol_val (v := V2_0) (by exact xr_move rfl e2) rfl rfl rfl ?_
 obtain ⟨t113, k114, h⟩ := bs h
 have f124 := (nb_or n41 (nb_or (nb_off (off_ty b2 o100 (by decide))) (nb_off (off_ty b2 o104 (by decide)))))
 have c125 : ∀ k, (k = G31 ∨ some k = Value.ownBlock u99 ∨ some k = Value.ownBlock u103) → w.heap.size ≤ k := (cv_or (cv_eq z32) (cv_or (cv_own o100.geO) (cv_own o104.geO)))
 refine ol_op (by exact opv_call rfl cal32 (ac rfl (ac rfl an)) (pmem_Device_Crash.ok fu _ t96.2 G31 u99 (Own.base o100 (Nat.zero_le _)) u103 (Own.base o104 (Nat.zero_le _)) b33 a2 V2_0 (R2_0.gr fB) (OffR.new R2_0 z32 rfl) (OffRV.call R2_0 o100 rfl) (OffRV.call R2_0 o104 rfl) _ k114)) rfl rfl rfl ?_
 rintro _ w126 ⟨u116, u120, o117, m118, o121, m122, rfl, b33, q115⟩
 have o117 := Own.rebase o117 (fun g hg => (m118 g hg).elim (fun x => Nat.le_trans fB.size x) (c125 g))
 have o121 := Own.rebase o121 (fun g hg => (m122 g hg).elim (fun x => Nat.le_trans fB.size x) (c125 g))
 have b2 := b2.fr q115 f124
 have fB := fB.call q115 (fun k h => .inl (c125 k h))
 refine ol_nil ?_
 refine cw_seq ?_
 refine cw_region ?_
 refine ol_val (v := .pointer (some ⟨G31, 0, none⟩)) (by exact xr_move rfl e7) rfl rfl rfl ?_
 obtain ⟨t127, k128, h⟩ := bs h
 refine ol_op (by exact opv_call rfl cal55 (ac rfl (ac rfl an)) (press_Read.ok fu _ t113 G31 u116 (o117.rd) u120 (o121.rd) b33 0 _ k128)) rfl rfl rfl ?_
 rintro _ w133 ⟨u129, o130, rfl, q132⟩
 have o130 := Own.base o130 fB.size
 have b2 := b2.gr q132
 have fB := fB.gr q132
 refine ol_val (v := .tuple #[u129, .int .i64 t127.2]) (by exact xr_move rfl rfl) rfl rfl rfl ?_
 refine ol_val (v := u129) (by exact xr_extract rfl rfl rfl) rfl rfl rfl ?_
 refine ol_val (v := .int .i64 t127.2) (by exact xr_extract rfl rfl rfl) rfl rfl rfl ?_
 refine ol_val (v := u129) (by exact xr_assign rfl rfl) rfl rfl rfl ?_
 refine ol_val (v := .int .i64 t127.2) (by exact xr_assign rfl rfl) rfl rfl rfl ?_
 refine ol_nil ?_
 refine cw_seq ?_
 refine cw_seq ?_
 refine cw_mid (fun ρ' w' => ρ' 3 = .pointer (some ⟨G1, 0, none⟩) ∧ ρ' 11 = .int .i64 t96.1 ∧ ρ' 12 = u129 ∧ ρ' 80 = .bool (if (!decide (t127.2 = 0)) = true then true else (!decide ((List.length t127.1 : Int) = 64))) ∧ w133 = w') ?_ ?_
 ·skip
  refine cw_region ?_
  refine ol_val (v := .int .i64 t127.2) (by exact xr_move rfl rfl) rfl rfl rfl ?_
  refine ol_val (v := .bool (!decide (t127.2 = 0))) (by exact xr_neI rfl Try.underlying31 rfl rfl rfl) rfl rfl rfl ?_
  refine ol_val (v := .bool (!decide (t127.2 = 0))) (by exact xr_move rfl rfl) rfl rfl rfl ?_
  rcases bt (!decide (t127.2 = 0)) with c134 | c134
  ·skip
   refine ol_gskip rfl rfl rfl rfl rfl c134 ?_
   refine ol_gskip rfl rfl rfl rfl rfl c134 ?_
   refine ol_gskip rfl rfl rfl rfl rfl c134 ?_
   refine ol_val (v := .bool true) (by exact xr_pickT rfl rfl c134 rfl) rfl rfl rfl ?_
   refine ol_nil ?_
   refine thn_i ?_
   exact ⟨e3, e11, rfl, (rfl).trans (congrArg (fun z => (.bool z : Value)) (show true = (if (!decide (t127.2 = 0)) = true then true else (!decide ((List.length t127.1 : Int) = 64))) from by rw [ite_t c134])), rfl⟩
  refine ol_gval (v := u129) (by exact xr_move rfl rfl) rfl rfl rfl rfl rfl c134 ?_
  refine ol_gval (v := .int .i64 (List.length t127.1 : Int)) (by exact xr_lenR rfl Try.underlying43 rfl o130.rd) rfl rfl rfl rfl rfl c134 ?_
  refine ol_gval (v := .bool (!decide ((List.length t127.1 : Int) = 64))) (by exact xr_neI rfl Try.underlying3 rfl rfl rfl) rfl rfl rfl rfl rfl c134 ?_
  refine ol_val (v := .bool (!decide ((List.length t127.1 : Int) = 64))) (by exact xr_pickF rfl rfl c134 rfl) rfl rfl rfl ?_
  refine ol_nil ?_
  refine thn_i ?_
  exact ⟨e3, e11, rfl, (rfl).trans (congrArg (fun z => (.bool z : Value)) (show (!decide ((List.length t127.1 : Int) = 64)) = (if (!decide (t127.2 = 0)) = true then true else (!decide ((List.length t127.1 : Int) = 64))) from by rw [ite_f c134])), rfl⟩
 rintro ρ135 _ ⟨e3, e11, e12, e80, rfl⟩
 rcases is h with ⟨c136, h⟩ | ⟨c136, h⟩
 ·refine cw_condT e80 c136 ?_
  refine cw_seq ?_
  refine cw_region ?_
  refine ol_val (v := .bool false) (by exact xr_assign rfl rfl) rfl rfl rfl ?_
  refine ol_nil ?_
  refine cw_ret ?_
  repeat (first | with_reducible refine thn_r ?_ | with_reducible refine blk_r ?_)
  obtain rfl := Option.some.inj h
  refine fin_ret1 Try.results10 rfl ?_
  exact ⟨_, rfl, rfl, fB⟩
 refine cw_condF e80 c136 ?_
 refine cw_skip ?_
 refine cw_seq ?_
 refine cw_seq ?_
 refine cw_region ?_
 refine ol_val (v := .int .i64 0) (by exact xr_assign rfl rfl) rfl rfl rfl ?_
 refine ol_nil ?_
 obtain ⟨e138, l139, h140⟩ := bs h
 refine cw_mid (fun ρ' w' => ∃ x141, e138 = Sum.inr x141 ∧ Gr w w') ?_ ?_
 ·refine cw_block ?_
  refine cw_round (fun (s137 : Int) ρ' w' => ∃ o130 : Own (kI .u8) 5 w' w.heap.size u129 t127.1, ρ' 3 = .pointer (some ⟨G1, 0, none⟩) ∧ ρ' 11 = .int .i64 t96.1 ∧ ρ' 12 = u129 ∧ ρ' 14 = .int .i64 s137 ∧ Blk w' G1 72 [Kd.seg (kA 2 (kA 64 (kI .u8))) a0] ∧ Gr w w') l139 ?_ ?_
  ·skip
   exact ⟨o130, e3, e11, e12, rfl, b2, fB⟩
  rintro s137 x144 ρ142 w143 ⟨o130, e3, e11, e12, e14, b2, fB⟩ h
  unfold rickyardlaw15_PressTorn.s0 at h
  refine cw_seq ?_
  refine cw_seq ?_
  refine cw_region ?_
  refine ol_val (v := .int .i64 s137) (by exact xr_move rfl e14) rfl rfl rfl ?_
  refine ol_val (v := .bool (decide (s137 < 64))) (by exact xr_lss rfl rfl rfl) rfl rfl rfl ?_
  refine ol_nil ?_
  rcases is h with ⟨c145, h⟩ | ⟨c145, h⟩
  ·refine cw_condT rfl c145 ?_
   refine cw_skip ?_
   refine cw_seq ?_
   refine cw_block ?_
   refine cw_seq ?_
   refine cw_region ?_
   refine ol_val (v := u129) (by exact xr_move rfl e12) rfl rfl rfl ?_
   refine ol_val (v := .int .i64 s137) (by exact xr_move rfl e14) rfl rfl rfl ?_
   refine ol_val (v := .int .i64 s137) (by exact xr_move rfl e14) rfl rfl rfl ?_
   refine ol_val (v := .int .i64 (IntKind.i64.wrap (s137 + 8))) (by exact xr_add rfl rfl rfl) rfl rfl rfl ?_
   obtain ⟨g147, h⟩ := gs h
   refine ol_val (v := subv 1 u129 (Int.toNat s137) (Int.toNat (IntKind.i64.wrap (s137 + 8)))) (by exact xr_slice_lh (K := (kI .u8)) (v := u129) rfl Try.underlying43 sz5 rfl o130.rd rfl rfl g147.1 g147.2.1 g147.2.2) rfl rfl rfl ?_
   have r146 : Rd (kI .u8) w143 (subv 1 u129 (Int.toNat s137) (Int.toNat (IntKind.i64.wrap (s137 + 8)))) (cut t127.1 s137 (IntKind.i64.wrap (s137 + 8))) := o130.rd.cut (lo := s137) (hi := (IntKind.i64.wrap (s137 + 8))) g147.1 g147.2.1 g147.2.2
   refine ol_val (v := sv (List.map toB (cut t127.1 s137 (IntKind.i64.wrap (s137 + 8))))) (by exact xr_toStr rfl Try.underlying43 Try.underlying5 Try.underlying9 rfl r146) rfl rfl rfl ?_
   refine ol_val (v := sv (List.map toB (cut t127.1 s137 (IntKind.i64.wrap (s137 + 8))))) (by exact xr_assign rfl rfl) rfl rfl rfl ?_
   refine ol_nil ?_
   refine cw_seq ?_
   obtain ⟨x148, j149, h⟩ := bs h
   refine cw_mid (fun ρ' w' => ρ' 3 = .pointer (some ⟨G1, 0, none⟩) ∧ ρ' 11 = .int .i64 t96.1 ∧ ρ' 12 = u129 ∧ ρ' 14 = .int .i64 s137 ∧ ρ' 112 = .bool x148 ∧ w143 = w') ?_ ?_
   ·skip
    refine cw_region ?_
    refine ol_val (v := sv (List.map toB (cut t127.1 s137 (IntKind.i64.wrap (s137 + 8))))) (by exact xr_move rfl rfl) rfl rfl rfl ?_
    refine ol_val (v := .pointer (some ⟨G1, 0 + Int.toNat 1 * 64, none⟩)) (by exact xr_indexA (p := 0) (s := 64) rfl Try.underlying72 sz71 e3 rfl (by decide) (by decide)) rfl rfl rfl ?_
    refine ol_val (v := .int .i64 s137) (by exact xr_move rfl e14) rfl rfl rfl ?_
    refine ol_val (v := .int .i64 s137) (by exact xr_move rfl e14) rfl rfl rfl ?_
    refine ol_val (v := .int .i64 (IntKind.i64.wrap (s137 + 8))) (by exact xr_add rfl rfl rfl) rfl rfl rfl ?_
    obtain ⟨g151, j149⟩ := gs j149
    refine ol_val (v := subv 1 (.slice (some ⟨G1, 0 + Int.toNat 1 * 64, none⟩) 64 64) (Int.toNat s137) (Int.toNat (IntKind.i64.wrap (s137 + 8)))) (by exact xr_sliceArr_lh rfl Try.underlying71 sz5 rfl rfl rfl g151.1 g151.2.1 (by have h9 := g151.2.2; rw [Arr.h] at h9; exact h9)) rfl rfl rfl ?_
    have r150 : Rd (kI .u8) w143 (subv 1 (.slice (some ⟨G1, 0 + Int.toNat 1 * 64, none⟩) 64 64) (Int.toNat s137) (Int.toNat (IntKind.i64.wrap (s137 + 8)))) (cut (Arr.l (Arr.get a0 1)) s137 (IntKind.i64.wrap (s137 + 8))) := (Rd.arr (At.arr (a := a0) (b2.seg 0 rfl rfl) (by decide) (by decide))).cut (lo := s137) (hi := (IntKind.i64.wrap (s137 + 8))) g151.1 g151.2.1 g151.2.2
    refine ol_val (v := sv (List.map toB (cut (Arr.l (Arr.get a0 1)) s137 (IntKind.i64.wrap (s137 + 8))))) (by exact xr_toStr rfl Try.underlying43 Try.underlying5 Try.underlying9 rfl r150) rfl rfl rfl ?_
    refine ol_val (v := .bool (!decide ((List.map toB (cut t127.1 s137 (IntKind.i64.wrap (s137 + 8)))) = (List.map toB (cut (Arr.l (Arr.get a0 1)) s137 (IntKind.i64.wrap (s137 + 8))))))) (by exact xr_neStr rfl Try.underlying9 rfl rfl) rfl rfl rfl ?_
    refine ol_val (v := .bool (!decide ((List.map toB (cut t127.1 s137 (IntKind.i64.wrap (s137 + 8)))) = (List.map toB (cut (Arr.l (Arr.get a0 1)) s137 (IntKind.i64.wrap (s137 + 8))))))) (by exact xr_move rfl rfl) rfl rfl rfl ?_
    rcases is j149 with ⟨c152, j149⟩ | ⟨c152, j149⟩
    ·skip
     refine ol_gval (v := sv (List.map toB (cut t127.1 s137 (IntKind.i64.wrap (s137 + 8))))) (by exact xr_move rfl rfl) rfl rfl rfl rfl rfl c152 ?_
     refine ol_gval (v := .pointer (some ⟨G1, 0 + Int.toNat 0 * 64, none⟩)) (by exact xr_indexA (p := 0) (s := 64) rfl Try.underlying72 sz71 e3 rfl (by decide) (by decide)) rfl rfl rfl rfl rfl c152 ?_
     refine ol_gval (v := .int .i64 s137) (by exact xr_move rfl e14) rfl rfl rfl rfl rfl c152 ?_
     refine ol_gval (v := .int .i64 s137) (by exact xr_move rfl e14) rfl rfl rfl rfl rfl c152 ?_
     refine ol_gval (v := .int .i64 (IntKind.i64.wrap (s137 + 8))) (by exact xr_add rfl rfl rfl) rfl rfl rfl rfl rfl c152 ?_
     obtain ⟨g154, j149⟩ := gs j149
     refine ol_gval (v := subv 1 (.slice (some ⟨G1, 0 + Int.toNat 0 * 64, none⟩) 64 64) (Int.toNat s137) (Int.toNat (IntKind.i64.wrap (s137 + 8)))) (by exact xr_sliceArr_lh rfl Try.underlying71 sz5 rfl rfl rfl g154.1 g154.2.1 (by have h9 := g154.2.2; rw [Arr.h] at h9; exact h9)) rfl rfl rfl rfl rfl c152 ?_
     have r153 : Rd (kI .u8) w143 (subv 1 (.slice (some ⟨G1, 0 + Int.toNat 0 * 64, none⟩) 64 64) (Int.toNat s137) (Int.toNat (IntKind.i64.wrap (s137 + 8)))) (cut (Arr.l (Arr.get a0 0)) s137 (IntKind.i64.wrap (s137 + 8))) := (Rd.arr (At.arr (a := a0) (b2.seg 0 rfl rfl) (by decide) (by decide))).cut (lo := s137) (hi := (IntKind.i64.wrap (s137 + 8))) g154.1 g154.2.1 g154.2.2
     refine ol_gval (v := sv (List.map toB (cut (Arr.l (Arr.get a0 0)) s137 (IntKind.i64.wrap (s137 + 8))))) (by exact xr_toStr rfl Try.underlying43 Try.underlying5 Try.underlying9 rfl r153) rfl rfl rfl rfl rfl c152 ?_
     refine ol_gval (v := .bool (!decide ((List.map toB (cut t127.1 s137 (IntKind.i64.wrap (s137 + 8)))) = (List.map toB (cut (Arr.l (Arr.get a0 0)) s137 (IntKind.i64.wrap (s137 + 8))))))) (by exact xr_neStr rfl Try.underlying9 rfl rfl) rfl rfl rfl rfl rfl c152 ?_
     refine ol_gval (v := .bool (!decide ((List.map toB (cut t127.1 s137 (IntKind.i64.wrap (s137 + 8)))) = (List.map toB (cut (Arr.l (Arr.get a0 0)) s137 (IntKind.i64.wrap (s137 + 8))))))) (by exact xr_move rfl rfl) rfl rfl rfl rfl rfl c152 ?_
     rcases is j149 with ⟨c155, j149⟩ | ⟨c155, j149⟩
     ·skip
      refine ol_gskip rfl rfl rfl rfl rfl c155 ?_
      refine ol_gskip rfl rfl rfl rfl rfl c155 ?_
      refine ol_gval (v := .bool true) (by exact xr_pickT rfl rfl c155 rfl) rfl rfl rfl rfl rfl c152 ?_
      refine ol_val (v := .bool true) (by exact xr_pickT rfl rfl c152 rfl) rfl rfl rfl ?_
      refine ol_nil ?_
      obtain rfl := Option.some.inj j149
      refine thn_i ?_
      exact ⟨e3, e11, e12, e14, rfl, rfl⟩
     refine ol_gval (v := .int .i64 t96.1) (by exact xr_move rfl e11) rfl rfl rfl rfl rfl c155 ?_
     refine ol_gval (v := .bool (decide (t96.1 = 0))) (by exact xr_eqI rfl Try.underlying31 rfl rfl rfl) rfl rfl rfl rfl rfl c155 ?_
     refine ol_gval (v := .bool (decide (t96.1 = 0))) (by exact xr_pickF rfl rfl c155 rfl) rfl rfl rfl rfl rfl c152 ?_
     refine ol_val (v := .bool (decide (t96.1 = 0))) (by exact xr_pickT rfl rfl c152 rfl) rfl rfl rfl ?_
     refine ol_nil ?_
     obtain rfl := Option.some.inj j149
     refine thn_i ?_
     exact ⟨e3, e11, e12, e14, rfl, rfl⟩
    refine ol_gskip rfl rfl rfl rfl rfl c152 ?_
    refine ol_gskip rfl rfl rfl rfl rfl c152 ?_
    refine ol_gskip rfl rfl rfl rfl rfl c152 ?_
    refine ol_gskip rfl rfl rfl rfl rfl c152 ?_
    refine ol_gskip rfl rfl rfl rfl rfl c152 ?_
    refine ol_gskip rfl rfl rfl rfl rfl c152 ?_
    refine ol_gskip rfl rfl rfl rfl rfl c152 ?_
    refine ol_gskip rfl rfl rfl rfl rfl c152 ?_
    refine ol_gskip rfl rfl rfl rfl rfl c152 ?_
    refine ol_uskip rfl rfl rfl rfl rfl ?_
    refine ol_uskip rfl rfl rfl rfl rfl ?_
    refine ol_gskip rfl rfl rfl rfl rfl c152 ?_
    refine ol_val (v := .bool false) (by exact xr_pickF rfl rfl c152 rfl) rfl rfl rfl ?_
    refine ol_nil ?_
    obtain rfl := Option.some.inj j149
    refine thn_i ?_
    exact ⟨e3, e11, e12, e14, rfl, rfl⟩
   rintro ρ156 _ ⟨e3, e11, e12, e14, e112, rfl⟩
   rcases is h with ⟨c157, h⟩ | ⟨c157, h⟩
   ·refine cw_condT e112 c157 ?_
    refine cw_seq ?_
    refine cw_region ?_
    refine ol_val (v := .bool false) (by exact xr_assign rfl rfl) rfl rfl rfl ?_
    refine ol_nil ?_
    refine cw_ret ?_
    repeat (first | with_reducible refine thn_r ?_ | with_reducible refine blk_r ?_)
    obtain rfl := Option.some.inj h
    refine lp_ret ?_
    rintro rfl
    repeat (first | with_reducible refine thn_r ?_ | with_reducible refine blk_r ?_)
    have h := h140
    obtain rfl := Option.some.inj h
    refine fin_ret1 Try.results10 rfl ?_
    exact ⟨_, rfl, rfl, fB⟩
   refine cw_condF e112 c157 ?_
   refine cw_skip ?_
   refine blk_i ?_
   refine cw_region ?_
   refine ol_val (v := .int .i64 s137) (by exact xr_move rfl e14) rfl rfl rfl ?_
   refine ol_val (v := .int .i64 (IntKind.i64.wrap (s137 + 8))) (by exact xr_add rfl rfl rfl) rfl rfl rfl ?_
   refine ol_val (v := .int .i64 (IntKind.i64.wrap (s137 + 8))) (by exact xr_assign rfl rfl) rfl rfl rfl ?_
   refine ol_nil ?_
   obtain rfl := Option.some.inj h
   refine lp_in ?_
   exact ⟨o130, e3, e11, e12, rfl, b2, fB⟩
  refine cw_condF rfl c145 ?_
  refine cw_exit ?_
  repeat (first | with_reducible refine thn_e ?_ | with_reducible refine blk_e rfl ?_)
  obtain rfl := Option.some.inj h
  refine lp_exit ?_
  rintro rfl
  refine thn_x ?_
  exact ⟨_, rfl, fB⟩
 rintro ρ158 w159 ⟨x141, rfl, fB⟩
 have h := h140
 refine cw_seq ?_
 refine cw_region ?_
 refine ol_val (v := .bool true) (by exact xr_assign rfl rfl) rfl rfl rfl ?_
 refine ol_nil ?_
 refine cw_ret ?_
 repeat (first | with_reducible refine thn_r ?_ | with_reducible refine blk_r ?_)
 obtain rfl := Option.some.inj h
 refine fin_ret1 Try.results10 rfl ?_
 exact ⟨_, rfl, rfl, fB⟩
end Go.Proofs.Ytklhbaghbmndeaa

/- What a row's arguments are: the readings of arguments opened into records, lists and their facts. -/
set_option linter.unusedVariables false
set_option linter.unusedSimpArgs false
namespace Go.Xw
open Go
variable {P : Program} {w : World}
def Opn {α : Type} (P : Program) (w : World) (T : TypeId) (K : Kd α) (ok : α → Prop) : Prop :=
  ∀ {H : Type} (enc : TypeId × Value → H) (base : Nat) (sp : Nat → Bool) (held : Bool) (fuel : Nat) (cs : List Value) (x : DataW H × List MemPlace), DataW.trod enc P w base sp held fuel T cs = some x → ∃ a : α, cs = K.enc a ∧ ok a
theorem opn_int {T : TypeId} {k : IntKind} (ht : P.underlying T = some (.int k)) : Opn P w T (kI k) (fun n => (Lit.int k n).wf = true) := by
  intro H enc base sp held fuel cs x h
  obtain ⟨n, rfl, _, hw⟩ := DataW.trod_int ht h
  exact ⟨n, rfl, hw⟩
theorem chunks {α : Type} (K : Kd α) (ok : α → Prop) : ∀ (n : Nat) (cs : List Value), cs.length = n * K.size → (∀ i, i < n → ∃ a, (cs.drop (i * K.size)).take K.size = K.enc a ∧ ok a) → ∃ l : List α, l.length = n ∧ cs = l.flatMap K.enc ∧ ∀ a ∈ l, ok a
  | 0, cs, hl, _ => ⟨[], rfl, by simpa using hl, by simp⟩
  | n + 1, cs, hl, h => by
    obtain ⟨a, ha, hok⟩ := h 0 (by omega)
    rw [Nat.zero_mul, List.drop_zero] at ha
    have hl' : cs.length = n * K.size + K.size := by rw [hl, Nat.succ_mul]
    obtain ⟨l, h1, h2, h3⟩ := chunks K ok n (cs.drop K.size) (by rw [List.length_drop]; omega) (fun i hi => by
      have := h (i + 1) (by omega)
      rw [List.drop_drop, Nat.add_comm, ← Nat.succ_mul]
      exact this)
    refine ⟨a :: l, by simp [h1], ?_, ?_⟩
    · rw [List.flatMap_cons, ← h2, ← ha, List.take_append_drop]
    · intro b hb
      rcases List.mem_cons.1 hb with rfl | hb
      · exact hok
      · exact h3 b hb
theorem ms_len {α β : Type} {f : α → Option β} : ∀ {l : List α} {ys : List β}, l.mapM f = some ys → ys.length = l.length
  | [], ys, h => by simp at h; subst h; rfl
  | a :: l, ys, h => by
    rw [List.mapM_cons] at h
    obtain ⟨b, _, h⟩ := Option.bind_eq_some_iff.1 h
    obtain ⟨bs, hb, h⟩ := Option.bind_eq_some_iff.1 h
    simp at h
    subst h
    simp [ms_len hb]
theorem ms_get {α β : Type} {f : α → Option β} : ∀ {l : List α} {ys : List β}, l.mapM f = some ys → ∀ (i : Nat) (a : α), l[i]? = some a → ∃ y, ys[i]? = some y ∧ f a = some y
  | [], ys, h, i, a, ha => by simp at ha
  | b :: l, ys, h, i, a, ha => by
    rw [List.mapM_cons] at h
    obtain ⟨c, hc, h⟩ := Option.bind_eq_some_iff.1 h
    obtain ⟨bs, hb, h⟩ := Option.bind_eq_some_iff.1 h
    simp at h
    subst h
    cases i with
    | zero =>
      simp at ha
      subst ha
      exact ⟨c, rfl, hc⟩
    | succ i =>
      simp at ha
      obtain ⟨y, h1, h2⟩ := ms_get hb i a ha
      exact ⟨y, by simpa using h1, h2⟩
theorem trod_arr {H : Type} {enc : TypeId × Value → H} {base : Nat} {sp : Nat → Bool} {held : Bool} {fuel : Nat} {T e : TypeId} {n : Nat} {cs : List Value} {x : DataW H × List MemPlace} (ht : P.underlying T = some (.array n e)) (h : DataW.trod enc P w base sp held fuel T cs = some x) :
    cs.length = P.cellsOf T ∧ ∃ m, ∀ i, i < n → ∃ y, DataW.trod enc P w base sp held m e ((cs.drop (i * P.cellsOf e)).take (P.cellsOf e)) = some y := by
  cases fuel with
  | zero => simp [DataW.trod] at h
  | succ m =>
    unfold DataW.trod at h
    rw [ht] at h
    simp only at h
    split at h
    · rename_i hl
      refine ⟨hl, m, fun i hi => ?_⟩
      obtain ⟨xs, hx, _⟩ := Option.map_eq_some_iff.1 h
      obtain ⟨y, _, hy⟩ := ms_get hx i i (by simp [hi])
      exact ⟨y, hy⟩
    · cases h
theorem opn_arr {α : Type} {K : Kd α} {ok : α → Prop} {T e : TypeId} {n : Nat} (ht : P.underlying T = some (.array n e)) (hc : P.cellsOf T = n * P.cellsOf e) (he : P.cellsOf e = K.size) (ho : Opn P w e K ok) : Opn P w T (kA n K) (fun a => ∀ x ∈ a.l, ok x) := by
  intro H enc base sp held fuel cs x h
  obtain ⟨hl, m, hm⟩ := trod_arr ht h
  obtain ⟨l, h1, h2, h3⟩ := chunks K ok n cs (by rw [hl, hc, he]) (fun i hi => by
    obtain ⟨y, hy⟩ := hm i hi
    obtain ⟨a, ha⟩ := ho enc base sp held m _ y hy
    rw [he] at ha
    exact ⟨a, ha⟩)
  exact ⟨⟨l, h1⟩, h2, h3⟩
/-- Slices: a cell that reads as a list. -/
def OpnS {α : Type} (P : Program) (w : World) (T : TypeId) (K : Kd α) (ok : α → Prop) : Prop :=
  ∀ {H : Type} (enc : TypeId × Value → H) (base : Nat) (sp : Nat → Bool) (held : Bool) (fuel : Nat) (cs : List Value) (x : DataW H × List MemPlace), DataW.trod enc P w base sp held fuel T cs = some x → ∃ (l : List α) (V : Value), cs = [V] ∧ Rd K w V l ∧ (∀ a ∈ l, ok a) ∧ l.length ≤ maxLen ∧ (sb V < w.heap.size ∨ l = [])
theorem cells_get {base : Nat} {a : Addr} {n : Nat} {cs : List Value} (h : w.cells? base a n = some cs) : cs.length = n ∧ ∀ j, j < n → w.cell? (a.add j) = cs[j]? := by
  unfold World.cells? at h
  split at h
  · refine ⟨by simpa using ms_len h, fun j hj => ?_⟩
    obtain ⟨y, h1, h2⟩ := ms_get h j j (by simp [hj])
    rw [h1, h2]
  · cases h
theorem opn_slice {α : Type} {K : Kd α} {ok : α → Prop} {T e : TypeId} (ht : P.underlying T = some (.slice e)) (he : P.cellsOf e = K.size) (hk : 0 < K.size) (ho : Opn P w e K ok) : OpnS P w T K ok := by
  intro H enc base sp held fuel cs x h
  rcases DataW.trod_slice ht h with ⟨rfl, _⟩ | ⟨a, len, cap, elems, rest, n, rfl, rfl, _, _, hl, hm, hlen, hel, _, _⟩
  · exact ⟨[], _, rfl, Rd.nil K w, by simp, by simp, .inr rfl⟩
  · have hex : ∀ i, i < len → ∃ b, (∀ j z, (K.enc b)[j]? = some z → w.cell? (a.add (i * K.size + j)) = some z) ∧ ok b := by
      intro i hi
      have h1 := hel i hi
      rw [List.getElem?_eq_getElem (by omega)] at h1
      obtain ⟨cs, h2, h3⟩ := Option.bind_eq_some_iff.1 h1
      obtain ⟨b, rfl, hb⟩ := ho enc base sp held n cs _ h3
      obtain ⟨h4, h5⟩ := cells_get h2
      rw [he] at h4 h5
      refine ⟨b, fun j z hz => ?_, hb⟩
      have hj : j < K.size := by rw [← h4]; exact (List.getElem?_eq_some_iff.1 hz).1
      have := h5 j hj
      rw [hz] at this
      rw [← this]
      congr 1
      unfold Addr.add
      by_cases hi0 : i * K.size = 0
      · by_cases hj0 : j = 0
        · simp [hi0, hj0]
        · simp [hi0, hj0]
      · by_cases hj0 : j = 0
        · simp [hi0, hj0]
        · have : i * K.size + j ≠ 0 := by omega
          simp [hi0, hj0, this, Nat.add_assoc]
    have hlist : ∀ m, m ≤ len → ∃ l : List α, l.length = m ∧ (∀ b ∈ l, ok b) ∧ ∀ j z, (l.flatMap K.enc)[j]? = some z → w.cell? (a.add j) = some z := by
      intro m
      induction m with
      | zero => intro _; exact ⟨[], rfl, by simp, by simp⟩
      | succ m ih =>
        intro hm
        obtain ⟨l, h1, h2, h3⟩ := ih (by omega)
        obtain ⟨b, h4, h5⟩ := hex m (by omega)
        refine ⟨l ++ [b], by simp [h1], ?_, ?_⟩
        · intro c hc
          rcases List.mem_append.1 hc with hc | hc
          · exact h2 c hc
          · obtain rfl := List.mem_singleton.1 hc
            exact h5
        · intro j z hz
          have hL : (l.flatMap K.enc).length = m * K.size := by rw [len_flat, h1]
          simp only [List.flatMap_append, List.flatMap_cons, List.flatMap_nil, List.append_nil] at hz
          by_cases hj : j < m * K.size
          · rw [List.getElem?_append_left (by omega)] at hz
            exact h3 j z hz
          · rw [List.getElem?_append_right (by omega), hL] at hz
            have := h4 (j - m * K.size) z hz
            rwa [show m * K.size + (j - m * K.size) = j from by omega] at this
    obtain ⟨l, h1, h2, h3⟩ := hlist len (Nat.le_refl _)
    have hpos : 0 < l.length → ∃ z, w.cell? a = some z := by
      intro hp
      cases l with
      | nil => simp at hp
      | cons b l =>
        have hb : (K.enc b).length = K.size := K.len b
        have : ∃ z, ((b :: l).flatMap K.enc)[0]? = some z := ⟨_, List.getElem?_eq_getElem (by simp [List.flatMap_cons, hb]; omega)⟩
        obtain ⟨z, hz⟩ := this
        have := h3 0 z hz
        exact ⟨z, by simpa [Addr.add] using this⟩
    refine ⟨l, _, rfl, ⟨some a, cap, by rw [h1], by omega, fun hp => ?_⟩, h2, by omega, ?_⟩
    · obtain ⟨z, hz⟩ := hpos hp
      obtain ⟨b, o, s⟩ := a
      have hs : s = none := by
        unfold World.cell? at hz
        split at hz
        · cases s with
          | none => rfl
          | some _ => simp at hz
        · cases hz
      subst hs
      refine ⟨b, o, rfl, fun j v hv => ?_⟩
      have := h3 j v hv
      rwa [Addr.add_lit] at this
    · rcases Nat.eq_zero_or_pos l.length with h0 | hp
      · exact .inr (List.eq_nil_of_length_eq_zero h0)
      · obtain ⟨z, hz⟩ := hpos hp
        refine .inl ?_
        unfold World.cell? at hz
        split at hz
        · rename_i hh
          exact (Array.getElem?_eq_some_iff.1 hh).1
        · cases hz
theorem agg_of {T : TypeId} {v : Value} {cs : List Value} {base : Nat} (h : aggB P T = some true) (hv : Value.okWide P w .any base T v) (hc : v.cells.toList = cs) : v = .agg cs.toArray := by
  unfold aggB at h
  obtain ⟨d, hu, hd⟩ := Option.map_eq_some_iff.1 h
  unfold Value.okWide at hv
  rw [hu] at hv
  cases d <;> simp at hd <;> (obtain ⟨c2, rfl, _⟩ := hv; subst hc; simp [Value.cells])
end Go.Xw

/- What a row's arguments are: slices of records that hold slices. -/
set_option linter.unusedVariables false
set_option linter.unusedSimpArgs false
namespace Go.Xw
open Go
end Go.Xw

/- What the laws' arguments open into: written by rows.py. -/
set_option linter.unusedVariables false
set_option linter.unusedSimpArgs false
namespace Go.Proofs.Ytklhbaghbmndeaa
open Go Go.Xw
end Go.Proofs.Ytklhbaghbmndeaa

/- Rows turned one by one. -/
set_option linter.unusedVariables false
set_option linter.unusedSimpArgs false
namespace Go.Proofs.Ytklhbaghbmndeaa.Pure
open Go Go.Xw
/-- Of the places from `lo` on the first `j`, each turned by `g`. -/
def upd {α : Type} (g : Nat → α → α) (lo j : Nat) (cs : List α) : List α := cs.mapIdx fun i c => if lo ≤ i ∧ i < lo + j then g i c else c
theorem upd_len {α : Type} (g : Nat → α → α) (lo j : Nat) (cs : List α) : (upd g lo j cs).length = cs.length := by simp [upd]
theorem upd_zero {α : Type} (g : Nat → α → α) (lo : Nat) (cs : List α) : upd g lo 0 cs = cs := by
  apply List.ext_getElem (by simp [upd])
  intro i h1 h2
  simp only [upd, List.getElem_mapIdx]
  rw [if_neg (by omega)]
theorem upd_get {α : Type} (g : Nat → α → α) (lo j : Nat) (cs : List α) (i : Nat) (h : i < (upd g lo j cs).length) : (upd g lo j cs)[i] = if lo ≤ i ∧ i < lo + j then g i (cs[i]'(by simpa [upd] using h)) else cs[i]'(by simpa [upd] using h) := by
  simp only [upd, List.getElem_mapIdx]
theorem upd_next {α : Type} (g : Nat → α → α) (lo j : Nat) (cs : List α) (h : lo + j < cs.length) : (upd g lo j cs)[lo + j]'(by rw [upd_len]; exact h) = cs[lo + j] := by
  rw [upd_get, if_neg (by omega)]
theorem upd_set {α : Type} (g : Nat → α → α) (lo j : Nat) (cs : List α) (h : lo + j < cs.length) : (upd g lo j cs).set (lo + j) (g (lo + j) cs[lo + j]) = upd g lo (j + 1) cs := by
  apply List.ext_getElem (by simp [upd])
  intro i h1 h2
  rw [List.getElem_set, upd_get g lo (j + 1)]
  by_cases e : lo + j = i
  · subst e
    rw [if_pos rfl, if_pos (by omega)]
  · rw [if_neg e, upd_get]
    by_cases c : lo ≤ i ∧ i < lo + j
    · rw [if_pos c, if_pos (by omega)]
    · rw [if_neg c, if_neg (by omega)]
theorem upd_same {α : Type} (g : Nat → α → α) (lo j : Nat) (cs : List α) (h : lo + j < cs.length) (e : g (lo + j) cs[lo + j] = cs[lo + j]) : upd g lo j cs = upd g lo (j + 1) cs := by
  apply List.ext_getElem (by simp [upd])
  intro i h1 h2
  rw [upd_get g lo j, upd_get g lo (j + 1)]
  by_cases e' : lo + j = i
  · subst e'
    rw [if_neg (by omega), if_pos (by omega), e]
  · by_cases c : lo ≤ i ∧ i < lo + j
    · rw [if_pos c, if_pos (by omega)]
    · rw [if_neg c, if_neg (by omega)]
theorem upd_all {α : Type} (g : Nat → α → α) (cs : List α) : upd g 0 cs.length cs = cs.mapIdx g := by
  apply List.ext_getElem (by simp [upd])
  intro i h1 h2
  rw [upd_get, if_pos ⟨by omega, by rw [upd_len] at h1; omega⟩, List.getElem_mapIdx]
theorem getD_set {α : Type} (cs : List α) (i k : Nat) (v d : α) (hi : i < cs.length) : (cs.set i v).getD k d = if i = k then v else cs.getD k d := by
  simp only [List.getD_eq_getElem?_getD, List.getElem?_set]
  by_cases h : i = k
  · subst h
    simp [hi]
  · simp [h]
theorem getD_of {α : Type} (cs : List α) (i : Nat) (d : α) (hi : i < cs.length) : cs.getD i d = cs[i] := by
  simp [List.getD_eq_getElem?_getD, List.getElem?_eq_getElem hi]
end Go.Proofs.Ytklhbaghbmndeaa.Pure

/- rickyard/crc.step: its model, and that the Go function computes it: written by gen.py. -/
set_option linter.unusedVariables false
namespace Go.Proofs.Ytklhbaghbmndeaa
open Go Go.Xw
def crc_step.f (fu : Nat) (a0 : Int) : Option Int := (if (decide ((bAnd .u32 a0 1) = 1)) = true then some ((bXor .u32 (shR .u32 a0 1) 2197175160)) else some ((shR .u32 a0 1)))
set_option maxRecDepth 100000 in
set_option maxHeartbeats 400000 in
theorem crc_step.ok (fu : Nat) (w : World) (a0 : Int) (r : Int) (h : crc_step.f fu a0 = some r) :
  Calls Try.prog 156 (([.int .u32 a0] : List Value).toArray) w (fun e w' => ∃ v, e = .returned v ∧ v = .int .u32 r ∧ Gr w w') := by
 unfold crc_step.f at h
 have fB : Gr w w := Fr.refl _ _
 refine calls_cw Try.func156 rfl Try.ntmps156 rfl ?_
 refine cw_seq ?_
 refine cw_region ?_
 refine ol_val (v := .int .u32 0) (by exact xr_assign rfl rfl) rfl rfl rfl ?_
 refine ol_nil ?_
 refine cw_seq ?_
 refine cw_seq ?_
 refine cw_region ?_
 refine ol_val (v := .int .u32 a0) (by exact xr_move rfl rfl) rfl rfl rfl ?_
 refine ol_val (v := .int .u32 (bAnd .u32 a0 1)) (by exact xr_and rfl rfl rfl) rfl rfl rfl ?_
 refine ol_val (v := .bool (decide ((bAnd .u32 a0 1) = 1))) (by exact xr_eqI rfl Try.underlying191 rfl rfl rfl) rfl rfl rfl ?_
 refine ol_nil ?_
 rcases is h with ⟨c1, h⟩ | ⟨c1, h⟩
 ·refine cw_condT rfl c1 ?_
  refine cw_seq ?_
  refine cw_region ?_
  refine ol_val (v := .int .u32 a0) (by exact xr_move rfl rfl) rfl rfl rfl ?_
  refine ol_val (v := .int .u32 (shR .u32 a0 1)) (by exact xr_shr rfl rfl rfl (by decide)) rfl rfl rfl ?_
  refine ol_val (v := .int .u32 (bXor .u32 (shR .u32 a0 1) 2197175160)) (by exact xr_xor rfl rfl rfl) rfl rfl rfl ?_
  refine ol_val (v := .int .u32 (bXor .u32 (shR .u32 a0 1) 2197175160)) (by exact xr_assign rfl rfl) rfl rfl rfl ?_
  refine ol_nil ?_
  refine cw_ret ?_
  repeat (first | with_reducible refine thn_r ?_ | with_reducible refine blk_r ?_)
  obtain rfl := Option.some.inj h
  refine fin_ret1 Try.results156 rfl ?_
  exact ⟨_, rfl, rfl, fB⟩
 refine cw_condF rfl c1 ?_
 refine cw_skip ?_
 refine cw_seq ?_
 refine cw_region ?_
 refine ol_val (v := .int .u32 a0) (by exact xr_move rfl rfl) rfl rfl rfl ?_
 refine ol_val (v := .int .u32 (shR .u32 a0 1)) (by exact xr_shr rfl rfl rfl (by decide)) rfl rfl rfl ?_
 refine ol_val (v := .int .u32 (shR .u32 a0 1)) (by exact xr_assign rfl rfl) rfl rfl rfl ?_
 refine ol_nil ?_
 refine cw_ret ?_
 repeat (first | with_reducible refine thn_r ?_ | with_reducible refine blk_r ?_)
 obtain rfl := Option.some.inj h
 refine fin_ret1 Try.results156 rfl ?_
 exact ⟨_, rfl, rfl, fB⟩
end Go.Proofs.Ytklhbaghbmndeaa

/- rickyard/crc.Table: its model, and that the Go function computes it: written by gen.py. -/
set_option linter.unusedVariables false
namespace Go.Proofs.Ytklhbaghbmndeaa
open Go Go.Xw
def crc_Table.s3 (fu : Nat) : (Int × Int) → Option (Sum Int (Int × Int)) := fun s22 => (if (decide (s22.2 < 4)) = true then ((crc_step.f fu s22.1 : Option Int).bind fun t30 => some (Sum.inr (t30, (IntKind.i64.wrap (s22.2 + 1))))) else some (Sum.inl (s22.1)))
def crc_Table.s2 (fu : Nat) : (Int × (Arr 16 Int)) → Option (Sum (Arr 16 Int) (Int × (Arr 16 Int))) := fun s14 => (if (decide (s14.1 < 16)) = true then ((loopM (crc_Table.s3 fu) fu ((IntKind.u32.wrap s14.1), 0)).bind fun e23 => (if 0 ≤ s14.1 ∧ s14.1 < 16 then some (Sum.inr ((IntKind.i64.wrap (s14.1 + 1)), (Arr.set s14.2 s14.1 e23))) else none)) else some (Sum.inl (s14.2)))
def crc_Table.f (fu : Nat) : Option (Arr 16 Int) := ((loopM (crc_Table.s2 fu) fu (0, (Arr.rep 16 (0 : Int)))).bind fun e15 => some (e15))
set_option maxRecDepth 100000 in
set_option maxHeartbeats 400000 in
theorem crc_Table.ok (fu : Nat) (w : World)  (r : (Arr 16 Int)) (h : crc_Table.f fu = some r) :
  Calls Try.prog 154 (([] : List Value).toArray) w (fun e w' => ∃ v, e = .returned v ∧ v = aggV [Kd.seg (kA 16 (kI .u32)) r] ∧ Gr w w') := by
 unfold crc_Table.f at h
 have fB : Gr w w := Fr.refl _ _
 refine calls_cw Try.func154 rfl Try.ntmps154 rfl ?_
 refine cw_seq ?_
 refine cw_region ?_
 refine ol_op (by exact opv_alloc (ss := [Kd.seg (kA 16 (kI .u32)) (Arr.rep 16 (0 : Int))]) rfl ze205 rfl) rfl rfl rfl ?_
 rintro _ w6 ⟨G1, rfl, b2, q3, z4⟩
 have z4 := Nat.le_trans fB.size z4
 have fB := fB.gr q3
 refine ol_nil ?_
 refine cw_seq ?_
 refine cw_region ?_
 refine ol_op (by exact opv_alloc (ss := [Kd.seg (kA 16 (kI .u32)) (Arr.rep 16 (0 : Int))]) rfl ze205 rfl) rfl rfl rfl ?_
 rintro _ w12 ⟨G7, rfl, b8, q9, z10⟩
 have n13 := b2.ne z10
 have z10 := Nat.le_trans fB.size z10
 have b2 := b2.gr q9
 have fB := fB.gr q9
 refine ol_nil ?_
 refine cw_seq ?_
 refine cw_seq ?_
 refine cw_region ?_
 refine ol_val (v := .int .i64 0) (by exact xr_move rfl rfl) rfl rfl rfl ?_
 refine ol_nil ?_
 obtain ⟨e15, l16, h17⟩ := bs h
 refine cw_mid (fun ρ' w' => ρ' 0 = .pointer (some ⟨G1, 0, none⟩) ∧ ρ' 1 = .pointer (some ⟨G7, 0, none⟩) ∧ Blk w' G1 205 [Kd.seg (kA 16 (kI .u32)) (Arr.rep 16 (0 : Int))] ∧ Blk w' G7 205 [Kd.seg (kA 16 (kI .u32)) e15] ∧ Gr w w') ?_ ?_
 ·refine cw_block ?_
  refine cw_round (fun (s14 : Int × (Arr 16 Int)) ρ' w' => ρ' 0 = .pointer (some ⟨G1, 0, none⟩) ∧ ρ' 1 = .pointer (some ⟨G7, 0, none⟩) ∧ ρ' 4 = .int .i64 s14.1 ∧ Blk w' G1 205 [Kd.seg (kA 16 (kI .u32)) (Arr.rep 16 (0 : Int))] ∧ Blk w' G7 205 [Kd.seg (kA 16 (kI .u32)) s14.2] ∧ Gr w w') l16 ?_ ?_
  ·skip
   exact ⟨rfl, rfl, rfl, b2, b8, fB⟩
  rintro s14 x20 ρ18 w19 ⟨e0, e1, e4, b2, b8, fB⟩ h
  unfold crc_Table.s2 at h
  refine cw_seq ?_
  refine cw_region ?_
  refine ol_val (v := .bool (decide (s14.1 < 16))) (by exact xr_lss rfl e4 rfl) rfl rfl rfl ?_
  refine ol_nil ?_
  refine cw_seq ?_
  rcases is h with ⟨c21, h⟩ | ⟨c21, h⟩
  ·refine cw_condT rfl c21 ?_
   refine cw_skip ?_
   refine cw_seq ?_
   refine cw_block ?_
   refine cw_seq ?_
   refine cw_region ?_
   refine ol_val (v := .int .i64 s14.1) (by exact xr_move rfl e4) rfl rfl rfl ?_
   refine ol_val (v := .int .i64 s14.1) (by exact xr_assign rfl rfl) rfl rfl rfl ?_
   refine ol_nil ?_
   refine cw_seq ?_
   refine cw_region ?_
   refine ol_val (v := .int .i64 s14.1) (by exact xr_move rfl rfl) rfl rfl rfl ?_
   refine ol_val (v := .int .u32 (IntKind.u32.wrap s14.1)) (by exact xr_conv rfl Try.underlying3 Try.underlying191 rfl) rfl rfl rfl ?_
   refine ol_val (v := .int .u32 (IntKind.u32.wrap s14.1)) (by exact xr_assign rfl rfl) rfl rfl rfl ?_
   refine ol_nil ?_
   refine cw_seq ?_
   refine cw_seq ?_
   refine cw_region ?_
   refine ol_val (v := .int .i64 0) (by exact xr_move rfl rfl) rfl rfl rfl ?_
   refine ol_nil ?_
   obtain ⟨e23, l24, h25⟩ := bs h
   refine cw_mid (fun ρ' w' => ρ' 0 = .pointer (some ⟨G1, 0, none⟩) ∧ ρ' 1 = .pointer (some ⟨G7, 0, none⟩) ∧ ρ' 2 = .int .i64 s14.1 ∧ ρ' 3 = .int .u32 e23 ∧ ρ' 4 = .int .i64 s14.1 ∧ Blk w' G1 205 [Kd.seg (kA 16 (kI .u32)) (Arr.rep 16 (0 : Int))] ∧ Blk w' G7 205 [Kd.seg (kA 16 (kI .u32)) s14.2] ∧ Gr w w') ?_ ?_
   ·refine cw_block ?_
    refine cw_round (fun (s22 : Int × Int) ρ' w' => ρ' 0 = .pointer (some ⟨G1, 0, none⟩) ∧ ρ' 1 = .pointer (some ⟨G7, 0, none⟩) ∧ ρ' 2 = .int .i64 s14.1 ∧ ρ' 3 = .int .u32 s22.1 ∧ ρ' 4 = .int .i64 s14.1 ∧ ρ' 9 = .int .i64 s22.2 ∧ Blk w' G1 205 [Kd.seg (kA 16 (kI .u32)) (Arr.rep 16 (0 : Int))] ∧ Blk w' G7 205 [Kd.seg (kA 16 (kI .u32)) s14.2] ∧ Gr w w') l24 ?_ ?_
    ·skip
     exact ⟨e0, e1, rfl, rfl, e4, rfl, b2, b8, fB⟩
    rintro s22 x28 ρ26 w27 ⟨e0, e1, e2, e3, e4, e9, b2, b8, fB⟩ h
    unfold crc_Table.s3 at h
    refine cw_seq ?_
    refine cw_region ?_
    refine ol_val (v := .bool (decide (s22.2 < 4))) (by exact xr_lss rfl e9 rfl) rfl rfl rfl ?_
    refine ol_nil ?_
    refine cw_seq ?_
    rcases is h with ⟨c29, h⟩ | ⟨c29, h⟩
    ·refine cw_condT rfl c29 ?_
     refine cw_skip ?_
     refine cw_seq ?_
     refine cw_block ?_
     refine cw_region ?_
     refine ol_val (v := .int .u32 s22.1) (by exact xr_move rfl e3) rfl rfl rfl ?_
     obtain ⟨t30, k31, h⟩ := bs h
     refine ol_op (by exact opv_call rfl cal156 (ac rfl an) (crc_step.ok fu _ s22.1 _ k31)) rfl rfl rfl ?_
     rintro _ w33 ⟨rfl, q32⟩
     have b2 := b2.gr q32
     have b8 := b8.gr q32
     have fB := fB.gr q32
     refine ol_val (v := .int .u32 t30) (by exact xr_assign rfl rfl) rfl rfl rfl ?_
     refine ol_nil ?_
     refine blk_i ?_
     refine cw_region ?_
     refine ol_val (v := .int .i64 (IntKind.i64.wrap (s22.2 + 1))) (by exact xr_add rfl e9 rfl) rfl rfl rfl ?_
     refine ol_val (v := .int .i64 (IntKind.i64.wrap (s22.2 + 1))) (by exact xr_move rfl rfl) rfl rfl rfl ?_
     refine ol_nil ?_
     obtain rfl := Option.some.inj h
     refine lp_in ?_
     exact ⟨e0, e1, e2, rfl, e4, rfl, b2, b8, fB⟩
    refine cw_condF rfl c29 ?_
    refine cw_exit ?_
    repeat (first | with_reducible refine thn_e ?_ | with_reducible refine blk_e rfl ?_)
    obtain rfl := Option.some.inj h
    refine lp_exit ?_
    rintro rfl
    refine thn_x ?_
    exact ⟨e0, e1, e2, e3, e4, b2, b8, fB⟩
   rintro ρ34 w35 ⟨e0, e1, e2, e3, e4, b2, b8, fB⟩
   have h := h25
   refine cw_region ?_
   refine ol_val (v := .int .i64 s14.1) (by exact xr_move rfl e2) rfl rfl rfl ?_
   refine ol_val (v := .int .u32 e23) (by exact xr_move rfl e3) rfl rfl rfl ?_
   obtain ⟨g36, h⟩ := gs h
   refine ol_val (v := .pointer (some ⟨G7, 0 + Int.toNat s14.1 * 1, none⟩)) (by exact xr_indexA (p := 0) (s := 1) rfl Try.underlying205 sz191 e1 rfl g36.1 g36.2) rfl rfl rfl ?_
   refine ol_op0 (by exact opv_store (ss' := [Kd.seg (kA 16 (kI .u32)) (Arr.set s14.2 s14.1 e23)]) (xs := cellsOf [Seg.cell (.int .u32 e23)]) rfl sz191 rfl rfl rfl (len_cellsOf _) (one_cellsOf _) b8 (Spl.seg_in _ 0 (Kd.seg (kA 16 (kI .u32)) (Arr.set s14.2 s14.1 e23)) rfl rfl (Spl.arr s14.2 s14.1 e23 g36.1 g36.2 (Spl.whole ((Kd.len _ _).trans (Kd.len _ _).symm))))) rfl rfl ?_
   rintro _ w38 ⟨b8, q37⟩
   have b2 := b2.wr q37 n13
   have fB := fB.wr q37 z10
   refine ol_nil ?_
   refine blk_i ?_
   refine cw_region ?_
   refine ol_val (v := .int .i64 (IntKind.i64.wrap (s14.1 + 1))) (by exact xr_add rfl e4 rfl) rfl rfl rfl ?_
   refine ol_val (v := .int .i64 (IntKind.i64.wrap (s14.1 + 1))) (by exact xr_move rfl rfl) rfl rfl rfl ?_
   refine ol_nil ?_
   obtain rfl := Option.some.inj h
   refine lp_in ?_
   exact ⟨e0, e1, rfl, b2, b8, fB⟩
  refine cw_condF rfl c21 ?_
  refine cw_exit ?_
  repeat (first | with_reducible refine thn_e ?_ | with_reducible refine blk_e rfl ?_)
  obtain rfl := Option.some.inj h
  refine lp_exit ?_
  rintro rfl
  refine thn_x ?_
  exact ⟨e0, e1, b2, b8, fB⟩
 rintro ρ39 w40 ⟨e0, e1, b2, b8, fB⟩
 have h := h17
 refine cw_seq ?_
 refine cw_region ?_
 refine ol_val (v := aggV [Kd.seg (kA 16 (kI .u32)) e15]) (by exact xr_loadS (ss := [Kd.seg (kA 16 (kI .u32)) e15]) rfl ag205 sz205 rfl e1 (b8.segs 0 1 rfl)) rfl rfl rfl ?_
 refine ol_op0 (by exact opv_store (ss' := [Kd.seg (kA 16 (kI .u32)) e15]) (xs := cellsOf [Kd.seg (kA 16 (kI .u32)) e15]) rfl sz205 e0 rfl rfl (len_cellsOf _) (one_cellsOf _) b2 (Spl.segs _ 0 1 [Kd.seg (kA 16 (kI .u32)) e15] rfl rfl)) rfl rfl ?_
 rintro _ w42 ⟨b2, q41⟩
 have fB := fB.wr q41 z4
 refine ol_nil ?_
 refine cw_ret ?_
 repeat (first | with_reducible refine thn_r ?_ | with_reducible refine blk_r ?_)
 obtain rfl := Option.some.inj h
 refine fin_cell Try.results154 e0 ag205 sz205 b2 (by rfl) ?_
 exact ⟨_, rfl, rfl, fB⟩
end Go.Proofs.Ytklhbaghbmndeaa

/- rickyard/crc.register: its model, and that the Go function computes it: written by gen.py. -/
set_option linter.unusedVariables false
namespace Go.Proofs.Ytklhbaghbmndeaa
open Go Go.Xw
def crc_register.s0 (fu : Nat) (a0 : Arr 16 Int) (a2 : List Int) : (Int × Int) → Option (Sum Int (Int × Int)) := fun s1 => (if (decide (s1.2 < (List.length a2 : Int))) = true then (if 0 ≤ s1.2 ∧ s1.2 < (List.length a2 : Int) then (if 0 ≤ (bAnd .u32 (bXor .u32 s1.1 (IntKind.u32.wrap (ix a2 s1.2))) 15) ∧ (bAnd .u32 (bXor .u32 s1.1 (IntKind.u32.wrap (ix a2 s1.2))) 15) < 16 then (if 0 ≤ (bAnd .u32 (bXor .u32 (shR .u32 (bXor .u32 s1.1 (IntKind.u32.wrap (ix a2 s1.2))) 4) (Arr.get a0 (bAnd .u32 (bXor .u32 s1.1 (IntKind.u32.wrap (ix a2 s1.2))) 15))) 15) ∧ (bAnd .u32 (bXor .u32 (shR .u32 (bXor .u32 s1.1 (IntKind.u32.wrap (ix a2 s1.2))) 4) (Arr.get a0 (bAnd .u32 (bXor .u32 s1.1 (IntKind.u32.wrap (ix a2 s1.2))) 15))) 15) < 16 then some (Sum.inr ((bXor .u32 (shR .u32 (bXor .u32 (shR .u32 (bXor .u32 s1.1 (IntKind.u32.wrap (ix a2 s1.2))) 4) (Arr.get a0 (bAnd .u32 (bXor .u32 s1.1 (IntKind.u32.wrap (ix a2 s1.2))) 15))) 4) (Arr.get a0 (bAnd .u32 (bXor .u32 (shR .u32 (bXor .u32 s1.1 (IntKind.u32.wrap (ix a2 s1.2))) 4) (Arr.get a0 (bAnd .u32 (bXor .u32 s1.1 (IntKind.u32.wrap (ix a2 s1.2))) 15))) 15))), (IntKind.i64.wrap (s1.2 + 1)))) else none) else none) else none) else some (Sum.inl (s1.1)))
def crc_register.f (fu : Nat) (a0 : Arr 16 Int) (a1 : Int) (a2 : List Int) : Option Int := ((loopM (crc_register.s0 fu a0 a2) fu (a1, 0)).bind fun e2 => some (e2))
set_option maxRecDepth 100000 in
set_option maxHeartbeats 400000 in
theorem crc_register.ok (fu : Nat) (w : World) (a0 : Arr 16 Int) (G_0 : Nat) (b_0 : Blk w G_0 205 [Kd.seg (kA 16 (kI .u32)) a0]) (a1 : Int) (a2 : List Int) (V2_0 : Value) (R2_0 : Rd (kI .u8) w V2_0 a2) (r : Int) (h : crc_register.f fu a0 a1 a2 = some r) :
  Calls Try.prog 155 (([.pointer (some ⟨G_0, 0, none⟩), .int .u32 a1, V2_0] : List Value).toArray) w (fun e w' => ∃ v, e = .returned v ∧ v = .int .u32 r ∧ Gr w w') := by
 unfold crc_register.f at h
 have fB : Gr w w := Fr.refl _ _
 refine calls_cw Try.func155 rfl Try.ntmps155 rfl ?_
 refine cw_seq ?_
 refine cw_region ?_
 refine ol_val (v := .int .u32 0) (by exact xr_assign rfl rfl) rfl rfl rfl ?_
 refine ol_nil ?_
 refine cw_seq ?_
 refine cw_seq ?_
 refine cw_region ?_
 refine ol_val (v := V2_0) (by exact xr_move rfl rfl) rfl rfl rfl ?_
 refine ol_val (v := .int .i64 (List.length a2 : Int)) (by exact xr_lenR rfl Try.underlying43 rfl (R2_0.gr fB)) rfl rfl rfl ?_
 refine ol_val (v := .int .i64 0) (by exact xr_move rfl rfl) rfl rfl rfl ?_
 refine ol_nil ?_
 obtain ⟨e2, l3, h4⟩ := bs h
 refine cw_mid (fun ρ' w' => ρ' 1 = .int .u32 e2 ∧ Blk w' G_0 205 [Kd.seg (kA 16 (kI .u32)) a0] ∧ Gr w w') ?_ ?_
 ·refine cw_block ?_
  refine cw_round (fun (s1 : Int × Int) ρ' w' => ρ' 0 = .pointer (some ⟨G_0, 0, none⟩) ∧ ρ' 1 = .int .u32 s1.1 ∧ ρ' 9 = V2_0 ∧ ρ' 10 = .int .i64 (List.length a2 : Int) ∧ ρ' 11 = .int .i64 s1.2 ∧ Blk w' G_0 205 [Kd.seg (kA 16 (kI .u32)) a0] ∧ Gr w w') l3 ?_ ?_
  ·skip
   exact ⟨rfl, rfl, rfl, rfl, rfl, b_0, fB⟩
  rintro s1 x7 ρ5 w6 ⟨e0, e1, e9, e10, e11, b_0, fB⟩ h
  unfold crc_register.s0 at h
  refine cw_seq ?_
  refine cw_region ?_
  refine ol_val (v := .bool (decide (s1.2 < (List.length a2 : Int)))) (by exact xr_lss rfl e11 e10) rfl rfl rfl ?_
  refine ol_nil ?_
  refine cw_seq ?_
  rcases is h with ⟨c8, h⟩ | ⟨c8, h⟩
  ·refine cw_condT rfl c8 ?_
   refine cw_skip ?_
   refine cw_seq ?_
   refine cw_block ?_
   refine cw_seq ?_
   refine cw_region ?_
   obtain ⟨g9, h⟩ := gs h
   refine ol_val (v := .pointer (some ⟨(sb V2_0), so V2_0 + Int.toNat s1.2 * 1, none⟩)) (by exact xr_indexR (K := (kI .u8)) (v := V2_0) rfl Try.underlying43 sz5 e9 (R2_0.gr fB) e11 g9.1 g9.2) rfl rfl rfl ?_
   refine ol_val (v := .int .u8 (ix a2 s1.2)) (by exact xr_load1 (v := .int .u8 (ix a2 s1.2)) rfl ag5 rfl ((R2_0.gr fB).elem g9.1 g9.2)) rfl rfl rfl ?_
   refine ol_val (v := .int .u8 (ix a2 s1.2)) (by exact xr_assign rfl rfl) rfl rfl rfl ?_
   refine ol_nil ?_
   refine cw_seq ?_
   refine cw_region ?_
   refine ol_val (v := .int .u32 s1.1) (by exact xr_move rfl e1) rfl rfl rfl ?_
   refine ol_val (v := .int .u8 (ix a2 s1.2)) (by exact xr_move rfl rfl) rfl rfl rfl ?_
   refine ol_val (v := .int .u32 (IntKind.u32.wrap (ix a2 s1.2))) (by exact xr_conv rfl Try.underlying5 Try.underlying191 rfl) rfl rfl rfl ?_
   refine ol_val (v := .int .u32 (bXor .u32 s1.1 (IntKind.u32.wrap (ix a2 s1.2)))) (by exact xr_xor rfl rfl rfl) rfl rfl rfl ?_
   refine ol_val (v := .int .u32 (bXor .u32 s1.1 (IntKind.u32.wrap (ix a2 s1.2)))) (by exact xr_assign rfl rfl) rfl rfl rfl ?_
   refine ol_nil ?_
   refine cw_seq ?_
   refine cw_region ?_
   refine ol_val (v := .int .u32 (bXor .u32 s1.1 (IntKind.u32.wrap (ix a2 s1.2)))) (by exact xr_move rfl rfl) rfl rfl rfl ?_
   refine ol_val (v := .int .u32 (shR .u32 (bXor .u32 s1.1 (IntKind.u32.wrap (ix a2 s1.2))) 4)) (by exact xr_shr rfl rfl rfl (by decide)) rfl rfl rfl ?_
   refine ol_val (v := .pointer (some ⟨G_0, 0, none⟩)) (by exact xr_move rfl e0) rfl rfl rfl ?_
   refine ol_val (v := .int .u32 (bXor .u32 s1.1 (IntKind.u32.wrap (ix a2 s1.2)))) (by exact xr_move rfl rfl) rfl rfl rfl ?_
   refine ol_val (v := .int .u32 (bAnd .u32 (bXor .u32 s1.1 (IntKind.u32.wrap (ix a2 s1.2))) 15)) (by exact xr_and rfl rfl rfl) rfl rfl rfl ?_
   refine ol_val (v := .pointer (some ⟨G_0, 0, none⟩)) (by exact xr_nilCheck rfl rfl) rfl rfl rfl ?_
   obtain ⟨g10, h⟩ := gs h
   refine ol_val (v := .pointer (some ⟨G_0, 0 + Int.toNat (bAnd .u32 (bXor .u32 s1.1 (IntKind.u32.wrap (ix a2 s1.2))) 15) * 1, none⟩)) (by exact xr_indexA (p := 0) (s := 1) rfl Try.underlying205 sz191 rfl rfl g10.1 g10.2) rfl rfl rfl ?_
   refine ol_val (v := .int .u32 (Arr.get a0 (bAnd .u32 (bXor .u32 s1.1 (IntKind.u32.wrap (ix a2 s1.2))) 15))) (by exact xr_load1 (v := .int .u32 (Arr.get a0 (bAnd .u32 (bXor .u32 s1.1 (IntKind.u32.wrap (ix a2 s1.2))) 15))) rfl ag191 rfl (At.arr (a := a0) (b_0.seg 0 rfl rfl) g10.1 g10.2)) rfl rfl rfl ?_
   refine ol_val (v := .int .u32 (bXor .u32 (shR .u32 (bXor .u32 s1.1 (IntKind.u32.wrap (ix a2 s1.2))) 4) (Arr.get a0 (bAnd .u32 (bXor .u32 s1.1 (IntKind.u32.wrap (ix a2 s1.2))) 15)))) (by exact xr_xor rfl rfl rfl) rfl rfl rfl ?_
   refine ol_val (v := .int .u32 (bXor .u32 (shR .u32 (bXor .u32 s1.1 (IntKind.u32.wrap (ix a2 s1.2))) 4) (Arr.get a0 (bAnd .u32 (bXor .u32 s1.1 (IntKind.u32.wrap (ix a2 s1.2))) 15)))) (by exact xr_assign rfl rfl) rfl rfl rfl ?_
   refine ol_nil ?_
   refine cw_region ?_
   refine ol_val (v := .int .u32 (bXor .u32 (shR .u32 (bXor .u32 s1.1 (IntKind.u32.wrap (ix a2 s1.2))) 4) (Arr.get a0 (bAnd .u32 (bXor .u32 s1.1 (IntKind.u32.wrap (ix a2 s1.2))) 15)))) (by exact xr_move rfl rfl) rfl rfl rfl ?_
   refine ol_val (v := .int .u32 (shR .u32 (bXor .u32 (shR .u32 (bXor .u32 s1.1 (IntKind.u32.wrap (ix a2 s1.2))) 4) (Arr.get a0 (bAnd .u32 (bXor .u32 s1.1 (IntKind.u32.wrap (ix a2 s1.2))) 15))) 4)) (by exact xr_shr rfl rfl rfl (by decide)) rfl rfl rfl ?_
   refine ol_val (v := .pointer (some ⟨G_0, 0, none⟩)) (by exact xr_move rfl e0) rfl rfl rfl ?_
   refine ol_val (v := .int .u32 (bXor .u32 (shR .u32 (bXor .u32 s1.1 (IntKind.u32.wrap (ix a2 s1.2))) 4) (Arr.get a0 (bAnd .u32 (bXor .u32 s1.1 (IntKind.u32.wrap (ix a2 s1.2))) 15)))) (by exact xr_move rfl rfl) rfl rfl rfl ?_
   refine ol_val (v := .int .u32 (bAnd .u32 (bXor .u32 (shR .u32 (bXor .u32 s1.1 (IntKind.u32.wrap (ix a2 s1.2))) 4) (Arr.get a0 (bAnd .u32 (bXor .u32 s1.1 (IntKind.u32.wrap (ix a2 s1.2))) 15))) 15)) (by exact xr_and rfl rfl rfl) rfl rfl rfl ?_
   refine ol_val (v := .pointer (some ⟨G_0, 0, none⟩)) (by exact xr_nilCheck rfl rfl) rfl rfl rfl ?_
   obtain ⟨g11, h⟩ := gs h
   refine ol_val (v := .pointer (some ⟨G_0, 0 + Int.toNat (bAnd .u32 (bXor .u32 (shR .u32 (bXor .u32 s1.1 (IntKind.u32.wrap (ix a2 s1.2))) 4) (Arr.get a0 (bAnd .u32 (bXor .u32 s1.1 (IntKind.u32.wrap (ix a2 s1.2))) 15))) 15) * 1, none⟩)) (by exact xr_indexA (p := 0) (s := 1) rfl Try.underlying205 sz191 rfl rfl g11.1 g11.2) rfl rfl rfl ?_
   refine ol_val (v := .int .u32 (Arr.get a0 (bAnd .u32 (bXor .u32 (shR .u32 (bXor .u32 s1.1 (IntKind.u32.wrap (ix a2 s1.2))) 4) (Arr.get a0 (bAnd .u32 (bXor .u32 s1.1 (IntKind.u32.wrap (ix a2 s1.2))) 15))) 15))) (by exact xr_load1 (v := .int .u32 (Arr.get a0 (bAnd .u32 (bXor .u32 (shR .u32 (bXor .u32 s1.1 (IntKind.u32.wrap (ix a2 s1.2))) 4) (Arr.get a0 (bAnd .u32 (bXor .u32 s1.1 (IntKind.u32.wrap (ix a2 s1.2))) 15))) 15))) rfl ag191 rfl (At.arr (a := a0) (b_0.seg 0 rfl rfl) g11.1 g11.2)) rfl rfl rfl ?_
   refine ol_val (v := .int .u32 (bXor .u32 (shR .u32 (bXor .u32 (shR .u32 (bXor .u32 s1.1 (IntKind.u32.wrap (ix a2 s1.2))) 4) (Arr.get a0 (bAnd .u32 (bXor .u32 s1.1 (IntKind.u32.wrap (ix a2 s1.2))) 15))) 4) (Arr.get a0 (bAnd .u32 (bXor .u32 (shR .u32 (bXor .u32 s1.1 (IntKind.u32.wrap (ix a2 s1.2))) 4) (Arr.get a0 (bAnd .u32 (bXor .u32 s1.1 (IntKind.u32.wrap (ix a2 s1.2))) 15))) 15)))) (by exact xr_xor rfl rfl rfl) rfl rfl rfl ?_
   refine ol_val (v := .int .u32 (bXor .u32 (shR .u32 (bXor .u32 (shR .u32 (bXor .u32 s1.1 (IntKind.u32.wrap (ix a2 s1.2))) 4) (Arr.get a0 (bAnd .u32 (bXor .u32 s1.1 (IntKind.u32.wrap (ix a2 s1.2))) 15))) 4) (Arr.get a0 (bAnd .u32 (bXor .u32 (shR .u32 (bXor .u32 s1.1 (IntKind.u32.wrap (ix a2 s1.2))) 4) (Arr.get a0 (bAnd .u32 (bXor .u32 s1.1 (IntKind.u32.wrap (ix a2 s1.2))) 15))) 15)))) (by exact xr_assign rfl rfl) rfl rfl rfl ?_
   refine ol_nil ?_
   refine blk_i ?_
   refine cw_region ?_
   refine ol_val (v := .int .i64 (IntKind.i64.wrap (s1.2 + 1))) (by exact xr_add rfl e11 rfl) rfl rfl rfl ?_
   refine ol_val (v := .int .i64 (IntKind.i64.wrap (s1.2 + 1))) (by exact xr_move rfl rfl) rfl rfl rfl ?_
   refine ol_nil ?_
   obtain rfl := Option.some.inj h
   refine lp_in ?_
   exact ⟨e0, rfl, e9, e10, rfl, b_0, fB⟩
  refine cw_condF rfl c8 ?_
  refine cw_exit ?_
  repeat (first | with_reducible refine thn_e ?_ | with_reducible refine blk_e rfl ?_)
  obtain rfl := Option.some.inj h
  refine lp_exit ?_
  rintro rfl
  refine thn_x ?_
  exact ⟨e1, b_0, fB⟩
 rintro ρ12 w13 ⟨e1, b_0, fB⟩
 have h := h4
 refine cw_seq ?_
 refine cw_region ?_
 refine ol_val (v := .int .u32 e2) (by exact xr_move rfl e1) rfl rfl rfl ?_
 refine ol_val (v := .int .u32 e2) (by exact xr_assign rfl rfl) rfl rfl rfl ?_
 refine ol_nil ?_
 refine cw_ret ?_
 repeat (first | with_reducible refine thn_r ?_ | with_reducible refine blk_r ?_)
 obtain rfl := Option.some.inj h
 refine fin_ret1 Try.results155 rfl ?_
 exact ⟨_, rfl, rfl, fB⟩
end Go.Proofs.Ytklhbaghbmndeaa

/- rickyard/crc.Sum: its model, and that the Go function computes it: written by gen.py. -/
set_option linter.unusedVariables false
namespace Go.Proofs.Ytklhbaghbmndeaa
open Go Go.Xw
def crc_Sum.s0 (fu : Nat) (a0 : List (List Int)) (t1 : (Arr 16 Int)) : (Int × Int) → Option (Sum Int (Int × Int)) := fun s13 => (if (decide (s13.2 < (List.length a0 : Int))) = true then (if 0 ≤ s13.2 ∧ s13.2 < (List.length a0 : Int) then ((crc_register.f fu t1 s13.1 (ix a0 s13.2) : Option Int).bind fun t23 => some (Sum.inr (t23, (IntKind.i64.wrap (s13.2 + 1))))) else none) else some (Sum.inl (s13.1)))
def crc_Sum.f (fu : Nat) (a0 : List (List Int)) : Option Int := ((crc_Table.f fu : Option (Arr 16 Int)).bind fun t1 => ((loopM (crc_Sum.s0 fu a0 t1) fu (4294967295, 0)).bind fun e14 => some ((bXor .u32 e14 4294967295))))
set_option maxRecDepth 100000 in
set_option maxHeartbeats 400000 in
theorem crc_Sum.ok (fu : Nat) (w : World) (a0 : List (List Int)) (V0_0 : Value) (R0_0 : Rds (kI .u8) w V0_0 a0) (r : Int) (h : crc_Sum.f fu a0 = some r) :
  Calls Try.prog 149 (([V0_0] : List Value).toArray) w (fun e w' => ∃ v, e = .returned v ∧ v = .int .u32 r ∧ Gr w w') := by
 unfold crc_Sum.f at h
 have fB : Gr w w := Fr.refl _ _
 refine calls_cw Try.func149 rfl Try.ntmps149 rfl ?_
 refine cw_seq ?_
 refine cw_region ?_
 refine ol_val (v := .int .u32 0) (by exact xr_assign rfl rfl) rfl rfl rfl ?_
 refine ol_nil ?_
 refine cw_seq ?_
 refine cw_region ?_
 obtain ⟨t1, k2, h⟩ := bs h
 refine ol_op (by exact opv_call rfl cal154 an (crc_Table.ok fu _ _ k2)) rfl rfl rfl ?_
 rintro _ w4 ⟨rfl, q3⟩
 have fB := fB.gr q3
 refine ol_op (by exact opv_alloc (ss := [Kd.seg (kA 16 (kI .u32)) (Arr.rep 16 (0 : Int))]) rfl ze205 rfl) rfl rfl rfl ?_
 rintro _ w10 ⟨G5, rfl, b6, q7, z8⟩
 have z8 := Nat.le_trans fB.size z8
 have fB := fB.gr q7
 refine ol_op0 (by exact opv_store (ss' := [Kd.seg (kA 16 (kI .u32)) t1]) (xs := cellsOf [Kd.seg (kA 16 (kI .u32)) t1]) rfl sz205 rfl rfl rfl (len_cellsOf _) (one_cellsOf _) b6 (Spl.segs _ 0 1 [Kd.seg (kA 16 (kI .u32)) t1] rfl rfl)) rfl rfl ?_
 rintro _ w12 ⟨b6, q11⟩
 have fB := fB.wr q11 z8
 refine ol_val (v := .int .u32 4294967295) (by exact xr_assign rfl rfl) rfl rfl rfl ?_
 refine ol_nil ?_
 refine cw_seq ?_
 refine cw_seq ?_
 refine cw_region ?_
 refine ol_val (v := V0_0) (by exact xr_move rfl rfl) rfl rfl rfl ?_
 refine ol_val (v := .int .i64 (List.length a0 : Int)) (by exact xr_lenRs rfl Try.underlying100 rfl (R0_0.gr fB)) rfl rfl rfl ?_
 refine ol_val (v := .int .i64 0) (by exact xr_move rfl rfl) rfl rfl rfl ?_
 refine ol_nil ?_
 obtain ⟨e14, l15, h16⟩ := bs h
 refine cw_mid (fun ρ' w' => ρ' 4 = .int .u32 e14 ∧ Gr w w') ?_ ?_
 ·refine cw_block ?_
  refine cw_round (fun (s13 : Int × Int) ρ' w' => ρ' 3 = .pointer (some ⟨G5, 0, none⟩) ∧ ρ' 4 = .int .u32 s13.1 ∧ ρ' 8 = V0_0 ∧ ρ' 9 = .int .i64 (List.length a0 : Int) ∧ ρ' 10 = .int .i64 s13.2 ∧ Blk w' G5 205 [Kd.seg (kA 16 (kI .u32)) t1] ∧ Gr w w') l15 ?_ ?_
  ·skip
   exact ⟨rfl, rfl, rfl, rfl, rfl, b6, fB⟩
  rintro s13 x19 ρ17 w18 ⟨e3, e4, e8, e9, e10, b6, fB⟩ h
  unfold crc_Sum.s0 at h
  refine cw_seq ?_
  refine cw_region ?_
  refine ol_val (v := .bool (decide (s13.2 < (List.length a0 : Int)))) (by exact xr_lss rfl e10 e9) rfl rfl rfl ?_
  refine ol_nil ?_
  refine cw_seq ?_
  rcases is h with ⟨c20, h⟩ | ⟨c20, h⟩
  ·refine cw_condT rfl c20 ?_
   refine cw_skip ?_
   refine cw_seq ?_
   refine cw_block ?_
   refine cw_seq ?_
   refine cw_region ?_
   obtain ⟨g21, h⟩ := gs h
   refine ol_val (v := .pointer (some ⟨(sb V0_0), so V0_0 + Int.toNat s13.2 * 1, none⟩)) (by exact xr_indexRs (v := V0_0) rfl Try.underlying100 sz43 e8 (R0_0.gr fB) e10 g21.1 g21.2) rfl rfl rfl ?_
   refine ol_val (v := inner w18 V0_0 s13.2) (by exact xr_load1 (v := inner w18 V0_0 s13.2) rfl ag43 rfl ((R0_0.gr fB).elem g21.1 g21.2).1) rfl rfl rfl ?_
   have r22 : Rd (kI .u8) w18 (inner w18 V0_0 s13.2) (ix a0 s13.2) := ((R0_0.gr fB).elem g21.1 g21.2).2
   refine ol_val (v := inner w18 V0_0 s13.2) (by exact xr_assign rfl rfl) rfl rfl rfl ?_
   refine ol_nil ?_
   refine cw_region ?_
   refine ol_val (v := .int .u32 s13.1) (by exact xr_move rfl e4) rfl rfl rfl ?_
   refine ol_val (v := inner w18 V0_0 s13.2) (by exact xr_move rfl rfl) rfl rfl rfl ?_
   obtain ⟨t23, k24, h⟩ := bs h
   refine ol_op (by exact opv_call rfl cal155 (ac e3 (ac rfl (ac rfl an))) (crc_register.ok fu _ t1 G5 b6 s13.1 (ix a0 s13.2) (inner w18 V0_0 s13.2) (r22) _ k24)) rfl rfl rfl ?_
   rintro _ w26 ⟨rfl, q25⟩
   have b6 := b6.gr q25
   have fB := fB.gr q25
   refine ol_val (v := .int .u32 t23) (by exact xr_assign rfl rfl) rfl rfl rfl ?_
   refine ol_nil ?_
   refine blk_i ?_
   refine cw_region ?_
   refine ol_val (v := .int .i64 (IntKind.i64.wrap (s13.2 + 1))) (by exact xr_add rfl e10 rfl) rfl rfl rfl ?_
   refine ol_val (v := .int .i64 (IntKind.i64.wrap (s13.2 + 1))) (by exact xr_move rfl rfl) rfl rfl rfl ?_
   refine ol_nil ?_
   obtain rfl := Option.some.inj h
   refine lp_in ?_
   exact ⟨e3, rfl, e8, e9, rfl, b6, fB⟩
  refine cw_condF rfl c20 ?_
  refine cw_exit ?_
  repeat (first | with_reducible refine thn_e ?_ | with_reducible refine blk_e rfl ?_)
  obtain rfl := Option.some.inj h
  refine lp_exit ?_
  rintro rfl
  refine thn_x ?_
  exact ⟨e4, fB⟩
 rintro ρ27 w28 ⟨e4, fB⟩
 have h := h16
 refine cw_seq ?_
 refine cw_region ?_
 refine ol_val (v := .int .u32 e14) (by exact xr_move rfl e4) rfl rfl rfl ?_
 refine ol_val (v := .int .u32 (bXor .u32 e14 4294967295)) (by exact xr_xor rfl rfl rfl) rfl rfl rfl ?_
 refine ol_val (v := .int .u32 (bXor .u32 e14 4294967295)) (by exact xr_assign rfl rfl) rfl rfl rfl ?_
 refine ol_nil ?_
 refine cw_ret ?_
 repeat (first | with_reducible refine thn_r ?_ | with_reducible refine blk_r ?_)
 obtain rfl := Option.some.inj h
 refine fin_ret1 Try.results149 rfl ?_
 exact ⟨_, rfl, rfl, fB⟩
end Go.Proofs.Ytklhbaghbmndeaa

/- rickyard/rickyardref02.Step: its model, and that the Go function computes it: written by gen.py. -/
set_option linter.unusedVariables false
namespace Go.Proofs.Ytklhbaghbmndeaa
open Go Go.Xw
def rickyardref02_Step.f (fu : Nat) (a0 : Int) : Option Int := (if (decide ((Int.tmod a0 2) = 1)) = true then some ((bXor .u32 (IntKind.u32.wrap (Int.tdiv a0 2)) 2197175160)) else some ((IntKind.u32.wrap (Int.tdiv a0 2))))
set_option maxRecDepth 100000 in
set_option maxHeartbeats 400000 in
theorem rickyardref02_Step.ok (fu : Nat) (w : World) (a0 : Int) (r : Int) (h : rickyardref02_Step.f fu a0 = some r) :
  Calls Try.prog 153 (([.int .u32 a0] : List Value).toArray) w (fun e w' => ∃ v, e = .returned v ∧ v = .int .u32 r ∧ Gr w w') := by
 unfold rickyardref02_Step.f at h
 have fB : Gr w w := Fr.refl _ _
 refine calls_cw Try.func153 rfl Try.ntmps153 rfl ?_
 refine cw_seq ?_
 refine cw_region ?_
 refine ol_val (v := .int .u32 0) (by exact xr_assign rfl rfl) rfl rfl rfl ?_
 refine ol_nil ?_
 refine cw_seq ?_
 refine cw_seq ?_
 refine cw_region ?_
 refine ol_val (v := .int .u32 a0) (by exact xr_move rfl rfl) rfl rfl rfl ?_
 refine ol_val (v := .int .u32 (Int.tmod a0 2)) (by exact xr_rem rfl rfl rfl (by decide)) rfl rfl rfl ?_
 refine ol_val (v := .bool (decide ((Int.tmod a0 2) = 1))) (by exact xr_eqI rfl Try.underlying191 rfl rfl rfl) rfl rfl rfl ?_
 refine ol_nil ?_
 rcases is h with ⟨c1, h⟩ | ⟨c1, h⟩
 ·refine cw_condT rfl c1 ?_
  refine cw_seq ?_
  refine cw_region ?_
  refine ol_val (v := .int .u32 a0) (by exact xr_move rfl rfl) rfl rfl rfl ?_
  refine ol_val (v := .int .u32 (IntKind.u32.wrap (Int.tdiv a0 2))) (by exact xr_quo rfl rfl rfl (by decide)) rfl rfl rfl ?_
  refine ol_val (v := .int .u32 (bXor .u32 (IntKind.u32.wrap (Int.tdiv a0 2)) 2197175160)) (by exact xr_xor rfl rfl rfl) rfl rfl rfl ?_
  refine ol_val (v := .int .u32 (bXor .u32 (IntKind.u32.wrap (Int.tdiv a0 2)) 2197175160)) (by exact xr_assign rfl rfl) rfl rfl rfl ?_
  refine ol_nil ?_
  refine cw_ret ?_
  repeat (first | with_reducible refine thn_r ?_ | with_reducible refine blk_r ?_)
  obtain rfl := Option.some.inj h
  refine fin_ret1 Try.results153 rfl ?_
  exact ⟨_, rfl, rfl, fB⟩
 refine cw_condF rfl c1 ?_
 refine cw_skip ?_
 refine cw_seq ?_
 refine cw_region ?_
 refine ol_val (v := .int .u32 a0) (by exact xr_move rfl rfl) rfl rfl rfl ?_
 refine ol_val (v := .int .u32 (IntKind.u32.wrap (Int.tdiv a0 2))) (by exact xr_quo rfl rfl rfl (by decide)) rfl rfl rfl ?_
 refine ol_val (v := .int .u32 (IntKind.u32.wrap (Int.tdiv a0 2))) (by exact xr_assign rfl rfl) rfl rfl rfl ?_
 refine ol_nil ?_
 refine cw_ret ?_
 repeat (first | with_reducible refine thn_r ?_ | with_reducible refine blk_r ?_)
 obtain rfl := Option.some.inj h
 refine fin_ret1 Try.results153 rfl ?_
 exact ⟨_, rfl, rfl, fB⟩
end Go.Proofs.Ytklhbaghbmndeaa

/- rickyard/rickyardref02.Steps: its model, and that the Go function computes it: written by gen.py. -/
set_option linter.unusedVariables false
namespace Go.Proofs.Ytklhbaghbmndeaa
open Go Go.Xw
def rickyardref02_Steps.s0 (fu : Nat) (a1 : Int) : (Int × Int) → Option (Sum Int (Int × Int)) := fun s1 => (if (decide (s1.2 < a1)) = true then ((rickyardref02_Step.f fu s1.1 : Option Int).bind fun t9 => some (Sum.inr (t9, (IntKind.i64.wrap (s1.2 + 1))))) else some (Sum.inl (s1.1)))
def rickyardref02_Steps.f (fu : Nat) (a0 : Int) (a1 : Int) : Option Int := ((loopM (rickyardref02_Steps.s0 fu a1) fu (a0, 0)).bind fun e2 => some (e2))
set_option maxRecDepth 100000 in
set_option maxHeartbeats 400000 in
theorem rickyardref02_Steps.ok (fu : Nat) (w : World) (a0 : Int) (a1 : Int) (r : Int) (h : rickyardref02_Steps.f fu a0 a1 = some r) :
  Calls Try.prog 148 (([.int .u32 a0, .int .i64 a1] : List Value).toArray) w (fun e w' => ∃ v, e = .returned v ∧ v = .int .u32 r ∧ Gr w w') := by
 unfold rickyardref02_Steps.f at h
 have fB : Gr w w := Fr.refl _ _
 refine calls_cw Try.func148 rfl Try.ntmps148 rfl ?_
 refine cw_seq ?_
 refine cw_region ?_
 refine ol_val (v := .int .u32 0) (by exact xr_assign rfl rfl) rfl rfl rfl ?_
 refine ol_nil ?_
 refine cw_seq ?_
 refine cw_seq ?_
 refine cw_region ?_
 refine ol_val (v := .int .i64 0) (by exact xr_assign rfl rfl) rfl rfl rfl ?_
 refine ol_nil ?_
 obtain ⟨e2, l3, h4⟩ := bs h
 refine cw_mid (fun ρ' w' => ρ' 0 = .int .u32 e2 ∧ Gr w w') ?_ ?_
 ·refine cw_block ?_
  refine cw_round (fun (s1 : Int × Int) ρ' w' => ρ' 0 = .int .u32 s1.1 ∧ ρ' 1 = .int .i64 a1 ∧ ρ' 5 = .int .i64 s1.2 ∧ Gr w w') l3 ?_ ?_
  ·skip
   exact ⟨rfl, rfl, rfl, fB⟩
  rintro s1 x7 ρ5 w6 ⟨e0, e1, e5, fB⟩ h
  unfold rickyardref02_Steps.s0 at h
  refine cw_seq ?_
  refine cw_seq ?_
  refine cw_region ?_
  refine ol_val (v := .int .i64 s1.2) (by exact xr_move rfl e5) rfl rfl rfl ?_
  refine ol_val (v := .int .i64 a1) (by exact xr_move rfl e1) rfl rfl rfl ?_
  refine ol_val (v := .bool (decide (s1.2 < a1))) (by exact xr_lss rfl rfl rfl) rfl rfl rfl ?_
  refine ol_nil ?_
  rcases is h with ⟨c8, h⟩ | ⟨c8, h⟩
  ·refine cw_condT rfl c8 ?_
   refine cw_skip ?_
   refine cw_seq ?_
   refine cw_block ?_
   refine cw_region ?_
   refine ol_val (v := .int .u32 s1.1) (by exact xr_move rfl e0) rfl rfl rfl ?_
   obtain ⟨t9, k10, h⟩ := bs h
   refine ol_op (by exact opv_call rfl cal153 (ac rfl an) (rickyardref02_Step.ok fu _ s1.1 _ k10)) rfl rfl rfl ?_
   rintro _ w12 ⟨rfl, q11⟩
   have fB := fB.gr q11
   refine ol_val (v := .int .u32 t9) (by exact xr_assign rfl rfl) rfl rfl rfl ?_
   refine ol_nil ?_
   refine blk_i ?_
   refine cw_region ?_
   refine ol_val (v := .int .i64 s1.2) (by exact xr_move rfl e5) rfl rfl rfl ?_
   refine ol_val (v := .int .i64 (IntKind.i64.wrap (s1.2 + 1))) (by exact xr_add rfl rfl rfl) rfl rfl rfl ?_
   refine ol_val (v := .int .i64 (IntKind.i64.wrap (s1.2 + 1))) (by exact xr_assign rfl rfl) rfl rfl rfl ?_
   refine ol_nil ?_
   obtain rfl := Option.some.inj h
   refine lp_in ?_
   exact ⟨rfl, e1, rfl, fB⟩
  refine cw_condF rfl c8 ?_
  refine cw_exit ?_
  repeat (first | with_reducible refine thn_e ?_ | with_reducible refine blk_e rfl ?_)
  obtain rfl := Option.some.inj h
  refine lp_exit ?_
  rintro rfl
  refine thn_x ?_
  exact ⟨e0, fB⟩
 rintro ρ13 w14 ⟨e0, fB⟩
 have h := h4
 refine cw_seq ?_
 refine cw_region ?_
 refine ol_val (v := .int .u32 e2) (by exact xr_move rfl e0) rfl rfl rfl ?_
 refine ol_val (v := .int .u32 e2) (by exact xr_assign rfl rfl) rfl rfl rfl ?_
 refine ol_nil ?_
 refine cw_ret ?_
 repeat (first | with_reducible refine thn_r ?_ | with_reducible refine blk_r ?_)
 obtain rfl := Option.some.inj h
 refine fin_ret1 Try.results148 rfl ?_
 exact ⟨_, rfl, rfl, fB⟩
end Go.Proofs.Ytklhbaghbmndeaa

/- rickyard/rickyardref02.Sum: its model, and that the Go function computes it: written by gen.py. -/
set_option linter.unusedVariables false
namespace Go.Proofs.Ytklhbaghbmndeaa
open Go Go.Xw
def rickyardref02_Sum.s0 (fu : Nat) (a0 : List Int) : (Int × Int) → Option (Sum Int (Int × Int)) := fun s1 => (if (decide (s1.2 < (List.length a0 : Int))) = true then (if 0 ≤ s1.2 ∧ s1.2 < (List.length a0 : Int) then ((rickyardref02_Steps.f fu (bXor .u32 s1.1 (IntKind.u32.wrap (ix a0 s1.2))) 8 : Option Int).bind fun t10 => some (Sum.inr (t10, (IntKind.i64.wrap (s1.2 + 1))))) else none) else some (Sum.inl (s1.1)))
def rickyardref02_Sum.f (fu : Nat) (a0 : List Int) : Option Int := ((loopM (rickyardref02_Sum.s0 fu a0) fu (4294967295, 0)).bind fun e2 => some ((IntKind.u32.wrap (4294967295 - e2))))
set_option maxRecDepth 100000 in
set_option maxHeartbeats 400000 in
theorem rickyardref02_Sum.ok (fu : Nat) (w : World) (a0 : List Int) (V0_0 : Value) (R0_0 : Rd (kI .u8) w V0_0 a0) (r : Int) (h : rickyardref02_Sum.f fu a0 = some r) :
  Calls Try.prog 139 (([V0_0] : List Value).toArray) w (fun e w' => ∃ v, e = .returned v ∧ v = .int .u32 r ∧ Gr w w') := by
 unfold rickyardref02_Sum.f at h
 have fB : Gr w w := Fr.refl _ _
 refine calls_cw Try.func139 rfl Try.ntmps139 rfl ?_
 refine cw_seq ?_
 refine cw_region ?_
 refine ol_val (v := .int .u32 0) (by exact xr_assign rfl rfl) rfl rfl rfl ?_
 refine ol_nil ?_
 refine cw_seq ?_
 refine cw_region ?_
 refine ol_val (v := .int .u32 4294967295) (by exact xr_assign rfl rfl) rfl rfl rfl ?_
 refine ol_nil ?_
 refine cw_seq ?_
 refine cw_seq ?_
 refine cw_region ?_
 refine ol_val (v := .int .i64 0) (by exact xr_assign rfl rfl) rfl rfl rfl ?_
 refine ol_nil ?_
 obtain ⟨e2, l3, h4⟩ := bs h
 refine cw_mid (fun ρ' w' => ρ' 3 = .int .u32 e2 ∧ Gr w w') ?_ ?_
 ·refine cw_block ?_
  refine cw_round (fun (s1 : Int × Int) ρ' w' => ρ' 0 = V0_0 ∧ ρ' 3 = .int .u32 s1.1 ∧ ρ' 4 = .int .i64 s1.2 ∧ Gr w w') l3 ?_ ?_
  ·skip
   exact ⟨rfl, rfl, rfl, fB⟩
  rintro s1 x7 ρ5 w6 ⟨e0, e3, e4, fB⟩ h
  unfold rickyardref02_Sum.s0 at h
  refine cw_seq ?_
  refine cw_seq ?_
  refine cw_region ?_
  refine ol_val (v := .int .i64 s1.2) (by exact xr_move rfl e4) rfl rfl rfl ?_
  refine ol_val (v := V0_0) (by exact xr_move rfl e0) rfl rfl rfl ?_
  refine ol_val (v := .int .i64 (List.length a0 : Int)) (by exact xr_lenR rfl Try.underlying43 rfl (R0_0.gr fB)) rfl rfl rfl ?_
  refine ol_val (v := .bool (decide (s1.2 < (List.length a0 : Int)))) (by exact xr_lss rfl rfl rfl) rfl rfl rfl ?_
  refine ol_nil ?_
  rcases is h with ⟨c8, h⟩ | ⟨c8, h⟩
  ·refine cw_condT rfl c8 ?_
   refine cw_skip ?_
   refine cw_seq ?_
   refine cw_block ?_
   refine cw_region ?_
   refine ol_val (v := .int .u32 s1.1) (by exact xr_move rfl e3) rfl rfl rfl ?_
   refine ol_val (v := V0_0) (by exact xr_move rfl e0) rfl rfl rfl ?_
   refine ol_val (v := .int .i64 s1.2) (by exact xr_move rfl e4) rfl rfl rfl ?_
   obtain ⟨g9, h⟩ := gs h
   refine ol_val (v := .pointer (some ⟨(sb V0_0), so V0_0 + Int.toNat s1.2 * 1, none⟩)) (by exact xr_indexR (K := (kI .u8)) (v := V0_0) rfl Try.underlying43 sz5 rfl (R0_0.gr fB) rfl g9.1 g9.2) rfl rfl rfl ?_
   refine ol_val (v := .int .u8 (ix a0 s1.2)) (by exact xr_load1 (v := .int .u8 (ix a0 s1.2)) rfl ag5 rfl ((R0_0.gr fB).elem g9.1 g9.2)) rfl rfl rfl ?_
   refine ol_val (v := .int .u32 (IntKind.u32.wrap (ix a0 s1.2))) (by exact xr_conv rfl Try.underlying5 Try.underlying191 rfl) rfl rfl rfl ?_
   refine ol_val (v := .int .u32 (bXor .u32 s1.1 (IntKind.u32.wrap (ix a0 s1.2)))) (by exact xr_xor rfl rfl rfl) rfl rfl rfl ?_
   obtain ⟨t10, k11, h⟩ := bs h
   refine ol_op (by exact opv_call rfl cal148 (ac rfl (ac rfl an)) (rickyardref02_Steps.ok fu _ (bXor .u32 s1.1 (IntKind.u32.wrap (ix a0 s1.2))) 8 _ k11)) rfl rfl rfl ?_
   rintro _ w13 ⟨rfl, q12⟩
   have fB := fB.gr q12
   refine ol_val (v := .int .u32 t10) (by exact xr_assign rfl rfl) rfl rfl rfl ?_
   refine ol_nil ?_
   refine blk_i ?_
   refine cw_region ?_
   refine ol_val (v := .int .i64 s1.2) (by exact xr_move rfl e4) rfl rfl rfl ?_
   refine ol_val (v := .int .i64 (IntKind.i64.wrap (s1.2 + 1))) (by exact xr_add rfl rfl rfl) rfl rfl rfl ?_
   refine ol_val (v := .int .i64 (IntKind.i64.wrap (s1.2 + 1))) (by exact xr_assign rfl rfl) rfl rfl rfl ?_
   refine ol_nil ?_
   obtain rfl := Option.some.inj h
   refine lp_in ?_
   exact ⟨e0, rfl, rfl, fB⟩
  refine cw_condF rfl c8 ?_
  refine cw_exit ?_
  repeat (first | with_reducible refine thn_e ?_ | with_reducible refine blk_e rfl ?_)
  obtain rfl := Option.some.inj h
  refine lp_exit ?_
  rintro rfl
  refine thn_x ?_
  exact ⟨e3, fB⟩
 rintro ρ14 w15 ⟨e3, fB⟩
 have h := h4
 refine cw_seq ?_
 refine cw_region ?_
 refine ol_val (v := .int .u32 e2) (by exact xr_move rfl e3) rfl rfl rfl ?_
 refine ol_val (v := .int .u32 (IntKind.u32.wrap (4294967295 - e2))) (by exact xr_sub rfl rfl rfl) rfl rfl rfl ?_
 refine ol_val (v := .int .u32 (IntKind.u32.wrap (4294967295 - e2))) (by exact xr_assign rfl rfl) rfl rfl rfl ?_
 refine ol_nil ?_
 refine cw_ret ?_
 repeat (first | with_reducible refine thn_r ?_ | with_reducible refine blk_r ?_)
 obtain rfl := Option.some.inj h
 refine fin_ret1 Try.results139 rfl ?_
 exact ⟨_, rfl, rfl, fB⟩
end Go.Proofs.Ytklhbaghbmndeaa

/- Sums in plain words: steps of one bit over words of 32 bits; the program's halves of octets and the document's single steps tell the same. -/
set_option linter.unusedVariables false
set_option linter.unusedSimpArgs false
namespace Go.Proofs.Ytklhbaghbmndeaa.Pure
open Go Go.Xw
def Bytes (l : List Int) : Prop := ∀ x ∈ l, 0 ≤ x ∧ x ≤ 255
theorem ix_nat {α : Type} [Inhabited α] {l : List α} {j : Nat} (h : j < l.length) : ix l (j : Int) = l[j] := by
  simp [ix, List.getD_eq_getElem?_getD, List.getElem?_eq_getElem h]
theorem take_next {α : Type} {l : List α} {j : Nat} (h : j < l.length) : l.take (j + 1) = l.take j ++ [l[j]] := by
  rw [List.take_add_one, List.getElem?_eq_getElem h]
  rfl
end Go.Proofs.Ytklhbaghbmndeaa.Pure

/- rickyard/octet.there: its model, and that the Go function computes it: written by gen.py. -/
set_option linter.unusedVariables false
namespace Go.Proofs.Ytklhbaghbmndeaa
open Go Go.Xw
def octet_there.f (fu : Nat) (a0 : List Int) (a1 : Int) (a2 : Int) : Option Bool := some ((if (decide (a1 ≥ 0)) = true then (if (decide (a2 ≥ 0)) = true then (if (decide (a2 ≤ (List.length a0 : Int))) = true then (decide (a1 ≤ (IntKind.i64.wrap ((List.length a0 : Int) - a2)))) else false) else false) else false))
set_option maxRecDepth 100000 in
set_option maxHeartbeats 400000 in
theorem octet_there.ok (fu : Nat) (w : World) (a0 : List Int) (V0_0 : Value) (R0_0 : Rd (kI .u8) w V0_0 a0) (a1 : Int) (a2 : Int) (r : Bool) (h : octet_there.f fu a0 a1 a2 = some r) :
  Calls Try.prog 147 (([V0_0, .int .i64 a1, .int .i64 a2] : List Value).toArray) w (fun e w' => ∃ v, e = .returned v ∧ v = .bool r ∧ Gr w w') := by
 unfold octet_there.f at h
 have fB : Gr w w := Fr.refl _ _
 refine calls_cw Try.func147 rfl Try.ntmps147 rfl ?_
 refine cw_seq ?_
 refine cw_region ?_
 refine ol_val (v := .bool false) (by exact xr_assign rfl rfl) rfl rfl rfl ?_
 refine ol_nil ?_
 refine cw_seq ?_
 refine cw_mid (fun ρ' w' => ρ' 6 = .bool (if (decide (a1 ≥ 0)) = true then (if (decide (a2 ≥ 0)) = true then (if (decide (a2 ≤ (List.length a0 : Int))) = true then (decide (a1 ≤ (IntKind.i64.wrap ((List.length a0 : Int) - a2)))) else false) else false) else false) ∧ w = w') ?_ ?_
 ·skip
  refine cw_region ?_
  refine ol_val (v := .int .i64 a1) (by exact xr_move rfl rfl) rfl rfl rfl ?_
  refine ol_val (v := .bool (decide (a1 ≥ 0))) (by exact xr_geq rfl rfl rfl) rfl rfl rfl ?_
  refine ol_val (v := .bool (decide (a1 ≥ 0))) (by exact xr_move rfl rfl) rfl rfl rfl ?_
  rcases bt (decide (a1 ≥ 0)) with c1 | c1
  ·skip
   refine ol_gval (v := .int .i64 a2) (by exact xr_move rfl rfl) rfl rfl rfl rfl rfl c1 ?_
   refine ol_gval (v := .bool (decide (a2 ≥ 0))) (by exact xr_geq rfl rfl rfl) rfl rfl rfl rfl rfl c1 ?_
   refine ol_val (v := .bool (decide (a2 ≥ 0))) (by exact xr_pickT rfl rfl c1 rfl) rfl rfl rfl ?_
   refine ol_val (v := .bool (decide (a2 ≥ 0))) (by exact xr_move rfl rfl) rfl rfl rfl ?_
   rcases bt (decide (a2 ≥ 0)) with c2 | c2
   ·skip
    refine ol_gval (v := .int .i64 a2) (by exact xr_move rfl rfl) rfl rfl rfl rfl rfl c2 ?_
    refine ol_gval (v := V0_0) (by exact xr_move rfl rfl) rfl rfl rfl rfl rfl c2 ?_
    refine ol_gval (v := .int .i64 (List.length a0 : Int)) (by exact xr_lenR rfl Try.underlying43 rfl (R0_0.gr fB)) rfl rfl rfl rfl rfl c2 ?_
    refine ol_gval (v := .bool (decide (a2 ≤ (List.length a0 : Int)))) (by exact xr_leq rfl rfl rfl) rfl rfl rfl rfl rfl c2 ?_
    refine ol_val (v := .bool (decide (a2 ≤ (List.length a0 : Int)))) (by exact xr_pickT rfl rfl c2 rfl) rfl rfl rfl ?_
    refine ol_val (v := .bool (decide (a2 ≤ (List.length a0 : Int)))) (by exact xr_move rfl rfl) rfl rfl rfl ?_
    rcases bt (decide (a2 ≤ (List.length a0 : Int))) with c3 | c3
    ·skip
     refine ol_gval (v := .int .i64 a1) (by exact xr_move rfl rfl) rfl rfl rfl rfl rfl c3 ?_
     refine ol_gval (v := V0_0) (by exact xr_move rfl rfl) rfl rfl rfl rfl rfl c3 ?_
     refine ol_gval (v := .int .i64 (List.length a0 : Int)) (by exact xr_lenR rfl Try.underlying43 rfl (R0_0.gr fB)) rfl rfl rfl rfl rfl c3 ?_
     refine ol_gval (v := .int .i64 a2) (by exact xr_move rfl rfl) rfl rfl rfl rfl rfl c3 ?_
     refine ol_gval (v := .int .i64 (IntKind.i64.wrap ((List.length a0 : Int) - a2))) (by exact xr_sub rfl rfl rfl) rfl rfl rfl rfl rfl c3 ?_
     refine ol_gval (v := .bool (decide (a1 ≤ (IntKind.i64.wrap ((List.length a0 : Int) - a2))))) (by exact xr_leq rfl rfl rfl) rfl rfl rfl rfl rfl c3 ?_
     refine ol_val (v := .bool (decide (a1 ≤ (IntKind.i64.wrap ((List.length a0 : Int) - a2))))) (by exact xr_pickT rfl rfl c3 rfl) rfl rfl rfl ?_
     refine ol_val (v := .bool (decide (a1 ≤ (IntKind.i64.wrap ((List.length a0 : Int) - a2))))) (by exact xr_assign rfl rfl) rfl rfl rfl ?_
     refine ol_nil ?_
     refine thn_i ?_
     exact ⟨(rfl).trans (congrArg (fun z => (.bool z : Value)) (show (decide (a1 ≤ (IntKind.i64.wrap ((List.length a0 : Int) - a2)))) = (if (decide (a1 ≥ 0)) = true then (if (decide (a2 ≥ 0)) = true then (if (decide (a2 ≤ (List.length a0 : Int))) = true then (decide (a1 ≤ (IntKind.i64.wrap ((List.length a0 : Int) - a2)))) else false) else false) else false) from by rw [ite_t c1, ite_t c2, ite_t c3])), rfl⟩
    refine ol_gskip rfl rfl rfl rfl rfl c3 ?_
    refine ol_gskip rfl rfl rfl rfl rfl c3 ?_
    refine ol_gskip rfl rfl rfl rfl rfl c3 ?_
    refine ol_gskip rfl rfl rfl rfl rfl c3 ?_
    refine ol_gskip rfl rfl rfl rfl rfl c3 ?_
    refine ol_gskip rfl rfl rfl rfl rfl c3 ?_
    refine ol_val (v := .bool false) (by exact xr_pickF rfl rfl c3 rfl) rfl rfl rfl ?_
    refine ol_val (v := .bool false) (by exact xr_assign rfl rfl) rfl rfl rfl ?_
    refine ol_nil ?_
    refine thn_i ?_
    exact ⟨(rfl).trans (congrArg (fun z => (.bool z : Value)) (show false = (if (decide (a1 ≥ 0)) = true then (if (decide (a2 ≥ 0)) = true then (if (decide (a2 ≤ (List.length a0 : Int))) = true then (decide (a1 ≤ (IntKind.i64.wrap ((List.length a0 : Int) - a2)))) else false) else false) else false) from by rw [ite_t c1, ite_t c2, ite_f c3])), rfl⟩
   refine ol_gskip rfl rfl rfl rfl rfl c2 ?_
   refine ol_gskip rfl rfl rfl rfl rfl c2 ?_
   refine ol_gskip rfl rfl rfl rfl rfl c2 ?_
   refine ol_gskip rfl rfl rfl rfl rfl c2 ?_
   refine ol_val (v := .bool false) (by exact xr_pickF rfl rfl c2 rfl) rfl rfl rfl ?_
   refine ol_val (v := .bool false) (by exact xr_move rfl rfl) rfl rfl rfl ?_
   refine ol_gskip rfl rfl rfl rfl rfl rfl ?_
   refine ol_gskip rfl rfl rfl rfl rfl rfl ?_
   refine ol_gskip rfl rfl rfl rfl rfl rfl ?_
   refine ol_gskip rfl rfl rfl rfl rfl rfl ?_
   refine ol_gskip rfl rfl rfl rfl rfl rfl ?_
   refine ol_gskip rfl rfl rfl rfl rfl rfl ?_
   refine ol_val (v := .bool false) (by exact xr_pickF rfl rfl rfl rfl) rfl rfl rfl ?_
   refine ol_val (v := .bool false) (by exact xr_assign rfl rfl) rfl rfl rfl ?_
   refine ol_nil ?_
   refine thn_i ?_
   exact ⟨(rfl).trans (congrArg (fun z => (.bool z : Value)) (show false = (if (decide (a1 ≥ 0)) = true then (if (decide (a2 ≥ 0)) = true then (if (decide (a2 ≤ (List.length a0 : Int))) = true then (decide (a1 ≤ (IntKind.i64.wrap ((List.length a0 : Int) - a2)))) else false) else false) else false) from by rw [ite_t c1, ite_f c2])), rfl⟩
  refine ol_gskip rfl rfl rfl rfl rfl c1 ?_
  refine ol_gskip rfl rfl rfl rfl rfl c1 ?_
  refine ol_val (v := .bool false) (by exact xr_pickF rfl rfl c1 rfl) rfl rfl rfl ?_
  refine ol_val (v := .bool false) (by exact xr_move rfl rfl) rfl rfl rfl ?_
  refine ol_gskip rfl rfl rfl rfl rfl rfl ?_
  refine ol_gskip rfl rfl rfl rfl rfl rfl ?_
  refine ol_gskip rfl rfl rfl rfl rfl rfl ?_
  refine ol_gskip rfl rfl rfl rfl rfl rfl ?_
  refine ol_val (v := .bool false) (by exact xr_pickF rfl rfl rfl rfl) rfl rfl rfl ?_
  refine ol_val (v := .bool false) (by exact xr_move rfl rfl) rfl rfl rfl ?_
  refine ol_gskip rfl rfl rfl rfl rfl rfl ?_
  refine ol_gskip rfl rfl rfl rfl rfl rfl ?_
  refine ol_gskip rfl rfl rfl rfl rfl rfl ?_
  refine ol_gskip rfl rfl rfl rfl rfl rfl ?_
  refine ol_gskip rfl rfl rfl rfl rfl rfl ?_
  refine ol_gskip rfl rfl rfl rfl rfl rfl ?_
  refine ol_val (v := .bool false) (by exact xr_pickF rfl rfl rfl rfl) rfl rfl rfl ?_
  refine ol_val (v := .bool false) (by exact xr_assign rfl rfl) rfl rfl rfl ?_
  refine ol_nil ?_
  refine thn_i ?_
  exact ⟨(rfl).trans (congrArg (fun z => (.bool z : Value)) (show false = (if (decide (a1 ≥ 0)) = true then (if (decide (a2 ≥ 0)) = true then (if (decide (a2 ≤ (List.length a0 : Int))) = true then (decide (a1 ≤ (IntKind.i64.wrap ((List.length a0 : Int) - a2)))) else false) else false) else false) from by rw [ite_f c1])), rfl⟩
 rintro ρ4 _ ⟨e6, rfl⟩
 refine cw_ret ?_
 repeat (first | with_reducible refine thn_r ?_ | with_reducible refine blk_r ?_)
 obtain rfl := Option.some.inj h
 refine fin_ret1 Try.results147 e6 ?_
 exact ⟨_, rfl, rfl, fB⟩
end Go.Proofs.Ytklhbaghbmndeaa

/- rickyard/octet.Noughts: its model, and that the Go function computes it: written by gen.py. -/
set_option linter.unusedVariables false
namespace Go.Proofs.Ytklhbaghbmndeaa
open Go Go.Xw
def octet_Noughts.s0 (fu : Nat) (a0 : List Int) (a1 : Int) (a2 : Int) : Int → Option (Sum (Sum Bool Unit) Int) := fun s8 => (if (decide (s8 < (List.length (cut a0 a1 (IntKind.i64.wrap (a1 + a2))) : Int))) = true then (if 0 ≤ s8 ∧ s8 < (List.length (cut a0 a1 (IntKind.i64.wrap (a1 + a2))) : Int) then (if (!decide ((ix (cut a0 a1 (IntKind.i64.wrap (a1 + a2))) s8) = 0)) = true then some (Sum.inl (Sum.inl (false))) else some (Sum.inr ((IntKind.i64.wrap (s8 + 1))))) else none) else some (Sum.inl (Sum.inr ())))
def octet_Noughts.f (fu : Nat) (a0 : List Int) (a1 : Int) (a2 : Int) : Option Bool := ((octet_there.f fu a0 a1 a2 : Option Bool).bind fun t1 => (if (!t1) = true then some (false) else (if (0 : Int) ≤ a1 ∧ a1 ≤ (IntKind.i64.wrap (a1 + a2)) ∧ (IntKind.i64.wrap (a1 + a2)) ≤ (List.length a0 : Int) then ((loopM (octet_Noughts.s0 fu a0 a1 a2) fu (0)).bind fun e9 => match e9 with | Sum.inl p => some p | Sum.inr x12 => some (true)) else none)))
set_option maxRecDepth 100000 in
set_option maxHeartbeats 400000 in
theorem octet_Noughts.ok (fu : Nat) (w : World) (a0 : List Int) (V0_0 : Value) (R0_0 : Rd (kI .u8) w V0_0 a0) (a1 : Int) (a2 : Int) (r : Bool) (h : octet_Noughts.f fu a0 a1 a2 = some r) :
  Calls Try.prog 133 (([V0_0, .int .i64 a1, .int .i64 a2] : List Value).toArray) w (fun e w' => ∃ v, e = .returned v ∧ v = .bool r ∧ Gr w w') := by
 unfold octet_Noughts.f at h
 have fB : Gr w w := Fr.refl _ _
 refine calls_cw Try.func133 rfl Try.ntmps133 rfl ?_
 refine cw_seq ?_
 refine cw_region ?_
 refine ol_val (v := .bool false) (by exact xr_assign rfl rfl) rfl rfl rfl ?_
 refine ol_nil ?_
 refine cw_seq ?_
 refine cw_seq ?_
 refine cw_region ?_
 refine ol_val (v := V0_0) (by exact xr_move rfl rfl) rfl rfl rfl ?_
 refine ol_val (v := .int .i64 a1) (by exact xr_move rfl rfl) rfl rfl rfl ?_
 refine ol_val (v := .int .i64 a2) (by exact xr_move rfl rfl) rfl rfl rfl ?_
 obtain ⟨t1, k2, h⟩ := bs h
 refine ol_op (by exact opv_call rfl cal147 (ac rfl (ac rfl (ac rfl an))) (octet_there.ok fu _ a0 V0_0 (R0_0.gr fB) a1 a2 _ k2)) rfl rfl rfl ?_
 rintro _ w4 ⟨rfl, q3⟩
 have fB := fB.gr q3
 refine ol_val (v := .bool (!t1)) (by exact xr_not rfl rfl) rfl rfl rfl ?_
 refine ol_nil ?_
 rcases is h with ⟨c5, h⟩ | ⟨c5, h⟩
 ·refine cw_condT rfl c5 ?_
  refine cw_seq ?_
  refine cw_region ?_
  refine ol_val (v := .bool false) (by exact xr_assign rfl rfl) rfl rfl rfl ?_
  refine ol_nil ?_
  refine cw_ret ?_
  repeat (first | with_reducible refine thn_r ?_ | with_reducible refine blk_r ?_)
  obtain rfl := Option.some.inj h
  refine fin_ret1 Try.results133 rfl ?_
  exact ⟨_, rfl, rfl, fB⟩
 refine cw_condF rfl c5 ?_
 refine cw_skip ?_
 refine cw_seq ?_
 refine cw_seq ?_
 refine cw_region ?_
 refine ol_val (v := V0_0) (by exact xr_move rfl rfl) rfl rfl rfl ?_
 refine ol_val (v := .int .i64 a1) (by exact xr_move rfl rfl) rfl rfl rfl ?_
 refine ol_val (v := .int .i64 a1) (by exact xr_move rfl rfl) rfl rfl rfl ?_
 refine ol_val (v := .int .i64 a2) (by exact xr_move rfl rfl) rfl rfl rfl ?_
 refine ol_val (v := .int .i64 (IntKind.i64.wrap (a1 + a2))) (by exact xr_add rfl rfl rfl) rfl rfl rfl ?_
 obtain ⟨g7, h⟩ := gs h
 refine ol_val (v := subv 1 V0_0 (Int.toNat a1) (Int.toNat (IntKind.i64.wrap (a1 + a2)))) (by exact xr_slice_lh (K := (kI .u8)) (v := V0_0) rfl Try.underlying43 sz5 rfl (R0_0.gr fB) rfl rfl g7.1 g7.2.1 g7.2.2) rfl rfl rfl ?_
 have r6 : Rd (kI .u8) w4 (subv 1 V0_0 (Int.toNat a1) (Int.toNat (IntKind.i64.wrap (a1 + a2)))) (cut a0 a1 (IntKind.i64.wrap (a1 + a2))) := (R0_0.gr fB).cut (lo := a1) (hi := (IntKind.i64.wrap (a1 + a2))) g7.1 g7.2.1 g7.2.2
 refine ol_val (v := .int .i64 (List.length (cut a0 a1 (IntKind.i64.wrap (a1 + a2))) : Int)) (by exact xr_lenR rfl Try.underlying43 rfl r6) rfl rfl rfl ?_
 refine ol_val (v := .int .i64 0) (by exact xr_move rfl rfl) rfl rfl rfl ?_
 refine ol_nil ?_
 obtain ⟨e9, l10, h11⟩ := bs h
 refine cw_mid (fun ρ' w' => ∃ x12, e9 = Sum.inr x12 ∧ Gr w w') ?_ ?_
 ·refine cw_block ?_
  refine cw_round (fun (s8 : Int) ρ' w' => ∃ r6 : Rd (kI .u8) w' (subv 1 V0_0 (Int.toNat a1) (Int.toNat (IntKind.i64.wrap (a1 + a2)))) (cut a0 a1 (IntKind.i64.wrap (a1 + a2))), ρ' 19 = subv 1 V0_0 (Int.toNat a1) (Int.toNat (IntKind.i64.wrap (a1 + a2))) ∧ ρ' 20 = .int .i64 (List.length (cut a0 a1 (IntKind.i64.wrap (a1 + a2))) : Int) ∧ ρ' 21 = .int .i64 s8 ∧ Gr w w') l10 ?_ ?_
  ·skip
   exact ⟨r6, rfl, rfl, rfl, fB⟩
  rintro s8 x15 ρ13 w14 ⟨r6, e19, e20, e21, fB⟩ h
  unfold octet_Noughts.s0 at h
  refine cw_seq ?_
  refine cw_region ?_
  refine ol_val (v := .bool (decide (s8 < (List.length (cut a0 a1 (IntKind.i64.wrap (a1 + a2))) : Int)))) (by exact xr_lss rfl e21 e20) rfl rfl rfl ?_
  refine ol_nil ?_
  refine cw_seq ?_
  rcases is h with ⟨c16, h⟩ | ⟨c16, h⟩
  ·refine cw_condT rfl c16 ?_
   refine cw_skip ?_
   refine cw_seq ?_
   refine cw_block ?_
   refine cw_seq ?_
   refine cw_region ?_
   obtain ⟨g17, h⟩ := gs h
   refine ol_val (v := .pointer (some ⟨(sb (subv 1 V0_0 (Int.toNat a1) (Int.toNat (IntKind.i64.wrap (a1 + a2))))), so (subv 1 V0_0 (Int.toNat a1) (Int.toNat (IntKind.i64.wrap (a1 + a2)))) + Int.toNat s8 * 1, none⟩)) (by exact xr_indexR (K := (kI .u8)) (v := subv 1 V0_0 (Int.toNat a1) (Int.toNat (IntKind.i64.wrap (a1 + a2)))) rfl Try.underlying43 sz5 e19 r6 e21 g17.1 g17.2) rfl rfl rfl ?_
   refine ol_val (v := .int .u8 (ix (cut a0 a1 (IntKind.i64.wrap (a1 + a2))) s8)) (by exact xr_load1 (v := .int .u8 (ix (cut a0 a1 (IntKind.i64.wrap (a1 + a2))) s8)) rfl ag5 rfl (r6.elem g17.1 g17.2)) rfl rfl rfl ?_
   refine ol_val (v := .int .u8 (ix (cut a0 a1 (IntKind.i64.wrap (a1 + a2))) s8)) (by exact xr_assign rfl rfl) rfl rfl rfl ?_
   refine ol_nil ?_
   refine cw_seq ?_
   refine cw_region ?_
   refine ol_val (v := .int .u8 (ix (cut a0 a1 (IntKind.i64.wrap (a1 + a2))) s8)) (by exact xr_move rfl rfl) rfl rfl rfl ?_
   refine ol_val (v := .bool (!decide ((ix (cut a0 a1 (IntKind.i64.wrap (a1 + a2))) s8) = 0))) (by exact xr_neI rfl Try.underlying5 rfl rfl rfl) rfl rfl rfl ?_
   refine ol_nil ?_
   rcases is h with ⟨c18, h⟩ | ⟨c18, h⟩
   ·refine cw_condT rfl c18 ?_
    refine cw_seq ?_
    refine cw_region ?_
    refine ol_val (v := .bool false) (by exact xr_assign rfl rfl) rfl rfl rfl ?_
    refine ol_nil ?_
    refine cw_ret ?_
    repeat (first | with_reducible refine thn_r ?_ | with_reducible refine blk_r ?_)
    obtain rfl := Option.some.inj h
    refine lp_ret ?_
    rintro rfl
    repeat (first | with_reducible refine thn_r ?_ | with_reducible refine blk_r ?_)
    have h := h11
    obtain rfl := Option.some.inj h
    refine fin_ret1 Try.results133 rfl ?_
    exact ⟨_, rfl, rfl, fB⟩
   refine cw_condF rfl c18 ?_
   refine cw_skip ?_
   refine blk_i ?_
   refine cw_region ?_
   refine ol_val (v := .int .i64 (IntKind.i64.wrap (s8 + 1))) (by exact xr_add rfl e21 rfl) rfl rfl rfl ?_
   refine ol_val (v := .int .i64 (IntKind.i64.wrap (s8 + 1))) (by exact xr_move rfl rfl) rfl rfl rfl ?_
   refine ol_nil ?_
   obtain rfl := Option.some.inj h
   refine lp_in ?_
   exact ⟨r6, e19, e20, rfl, fB⟩
  refine cw_condF rfl c16 ?_
  refine cw_exit ?_
  repeat (first | with_reducible refine thn_e ?_ | with_reducible refine blk_e rfl ?_)
  obtain rfl := Option.some.inj h
  refine lp_exit ?_
  rintro rfl
  refine thn_x ?_
  exact ⟨_, rfl, fB⟩
 rintro ρ19 w20 ⟨x12, rfl, fB⟩
 have h := h11
 refine cw_seq ?_
 refine cw_region ?_
 refine ol_val (v := .bool true) (by exact xr_assign rfl rfl) rfl rfl rfl ?_
 refine ol_nil ?_
 refine cw_ret ?_
 repeat (first | with_reducible refine thn_r ?_ | with_reducible refine blk_r ?_)
 obtain rfl := Option.some.inj h
 refine fin_ret1 Try.results133 rfl ?_
 exact ⟨_, rfl, rfl, fB⟩
end Go.Proofs.Ytklhbaghbmndeaa

/- rickyard/rickyardref01.Octet: its model, and that the Go function computes it: written by gen.py. -/
set_option linter.unusedVariables false
namespace Go.Proofs.Ytklhbaghbmndeaa
open Go Go.Xw
def rickyardref01_Octet.s0 (fu : Nat) (a1 : Int) : (Int × Int) → Option (Sum Int (Int × Int)) := fun s1 => (if (decide (s1.2 < a1)) = true then some (Sum.inr ((IntKind.u64.wrap (Int.tdiv s1.1 256)), (IntKind.i64.wrap (s1.2 + 1)))) else some (Sum.inl (s1.1)))
def rickyardref01_Octet.f (fu : Nat) (a0 : Int) (a1 : Int) : Option Int := ((loopM (rickyardref01_Octet.s0 fu a1) fu (a0, 0)).bind fun e2 => some ((IntKind.u8.wrap (Int.tmod e2 256))))
set_option maxRecDepth 100000 in
set_option maxHeartbeats 400000 in
theorem rickyardref01_Octet.ok (fu : Nat) (w : World) (a0 : Int) (a1 : Int) (r : Int) (h : rickyardref01_Octet.f fu a0 a1 = some r) :
  Calls Try.prog 137 (([.int .u64 a0, .int .i64 a1] : List Value).toArray) w (fun e w' => ∃ v, e = .returned v ∧ v = .int .u8 r ∧ Gr w w') := by
 unfold rickyardref01_Octet.f at h
 have fB : Gr w w := Fr.refl _ _
 refine calls_cw Try.func137 rfl Try.ntmps137 rfl ?_
 refine cw_seq ?_
 refine cw_region ?_
 refine ol_val (v := .int .u8 0) (by exact xr_assign rfl rfl) rfl rfl rfl ?_
 refine ol_nil ?_
 refine cw_seq ?_
 refine cw_seq ?_
 refine cw_region ?_
 refine ol_val (v := .int .i64 0) (by exact xr_assign rfl rfl) rfl rfl rfl ?_
 refine ol_nil ?_
 obtain ⟨e2, l3, h4⟩ := bs h
 refine cw_mid (fun ρ' w' => ρ' 0 = .int .u64 e2 ∧ Gr w w') ?_ ?_
 ·refine cw_block ?_
  refine cw_round (fun (s1 : Int × Int) ρ' w' => ρ' 0 = .int .u64 s1.1 ∧ ρ' 1 = .int .i64 a1 ∧ ρ' 5 = .int .i64 s1.2 ∧ Gr w w') l3 ?_ ?_
  ·skip
   exact ⟨rfl, rfl, rfl, fB⟩
  rintro s1 x7 ρ5 w6 ⟨e0, e1, e5, fB⟩ h
  unfold rickyardref01_Octet.s0 at h
  refine cw_seq ?_
  refine cw_seq ?_
  refine cw_region ?_
  refine ol_val (v := .int .i64 s1.2) (by exact xr_move rfl e5) rfl rfl rfl ?_
  refine ol_val (v := .int .i64 a1) (by exact xr_move rfl e1) rfl rfl rfl ?_
  refine ol_val (v := .bool (decide (s1.2 < a1))) (by exact xr_lss rfl rfl rfl) rfl rfl rfl ?_
  refine ol_nil ?_
  rcases is h with ⟨c8, h⟩ | ⟨c8, h⟩
  ·refine cw_condT rfl c8 ?_
   refine cw_skip ?_
   refine cw_seq ?_
   refine cw_block ?_
   refine cw_region ?_
   refine ol_val (v := .int .u64 s1.1) (by exact xr_move rfl e0) rfl rfl rfl ?_
   refine ol_val (v := .int .u64 (IntKind.u64.wrap (Int.tdiv s1.1 256))) (by exact xr_quo rfl rfl rfl (by decide)) rfl rfl rfl ?_
   refine ol_val (v := .int .u64 (IntKind.u64.wrap (Int.tdiv s1.1 256))) (by exact xr_assign rfl rfl) rfl rfl rfl ?_
   refine ol_nil ?_
   refine blk_i ?_
   refine cw_region ?_
   refine ol_val (v := .int .i64 s1.2) (by exact xr_move rfl e5) rfl rfl rfl ?_
   refine ol_val (v := .int .i64 (IntKind.i64.wrap (s1.2 + 1))) (by exact xr_add rfl rfl rfl) rfl rfl rfl ?_
   refine ol_val (v := .int .i64 (IntKind.i64.wrap (s1.2 + 1))) (by exact xr_assign rfl rfl) rfl rfl rfl ?_
   refine ol_nil ?_
   obtain rfl := Option.some.inj h
   refine lp_in ?_
   exact ⟨rfl, e1, rfl, fB⟩
  refine cw_condF rfl c8 ?_
  refine cw_exit ?_
  repeat (first | with_reducible refine thn_e ?_ | with_reducible refine blk_e rfl ?_)
  obtain rfl := Option.some.inj h
  refine lp_exit ?_
  rintro rfl
  refine thn_x ?_
  exact ⟨e0, fB⟩
 rintro ρ9 w10 ⟨e0, fB⟩
 have h := h4
 refine cw_seq ?_
 refine cw_region ?_
 refine ol_val (v := .int .u64 e2) (by exact xr_move rfl e0) rfl rfl rfl ?_
 refine ol_val (v := .int .u64 (Int.tmod e2 256)) (by exact xr_rem rfl rfl rfl (by decide)) rfl rfl rfl ?_
 refine ol_val (v := .int .u8 (IntKind.u8.wrap (Int.tmod e2 256))) (by exact xr_conv rfl Try.underlying22 Try.underlying5 rfl) rfl rfl rfl ?_
 refine ol_val (v := .int .u8 (IntKind.u8.wrap (Int.tmod e2 256))) (by exact xr_assign rfl rfl) rfl rfl rfl ?_
 refine ol_nil ?_
 refine cw_ret ?_
 repeat (first | with_reducible refine thn_r ?_ | with_reducible refine blk_r ?_)
 obtain rfl := Option.some.inj h
 refine fin_ret1 Try.results137 rfl ?_
 exact ⟨_, rfl, rfl, fB⟩
end Go.Proofs.Ytklhbaghbmndeaa

/- rickyard/rickyardref01.Lay: its model, and that the Go function computes it: written by gen.py. -/
set_option linter.unusedVariables false
namespace Go.Proofs.Ytklhbaghbmndeaa
open Go Go.Xw
def rickyardref01_Lay.s0 (fu : Nat) (a0 : Int) (a1 : Int) : ((List UInt8) × Int) → Option (Sum (List UInt8) ((List UInt8) × Int)) := fun s1 => (if (decide (s1.2 < a1)) = true then ((rickyardref01_Octet.f fu a0 s1.2 : Option Int).bind fun t9 => (if List.length s1.1 + List.length (List.map toB [t9]) ≤ LIM then some (Sum.inr ((s1.1 ++ (List.map toB [t9])), (IntKind.i64.wrap (s1.2 + 1)))) else none)) else some (Sum.inl (s1.1)))
def rickyardref01_Lay.f (fu : Nat) (a0 : Int) (a1 : Int) : Option (List UInt8) := ((loopM (rickyardref01_Lay.s0 fu a0 a1) fu ([], 0)).bind fun e2 => some (e2))
set_option maxRecDepth 100000 in
set_option maxHeartbeats 400000 in
theorem rickyardref01_Lay.ok (fu : Nat) (w : World) (a0 : Int) (a1 : Int) (r : (List UInt8)) (h : rickyardref01_Lay.f fu a0 a1 = some r) :
  Calls Try.prog 117 (([.int .u64 a0, .int .i64 a1] : List Value).toArray) w (fun e w' => ∃ v, e = .returned v ∧ v = sv r ∧ Gr w w') := by
 unfold rickyardref01_Lay.f at h
 have fB : Gr w w := Fr.refl _ _
 refine calls_cw Try.func117 rfl Try.ntmps117 rfl ?_
 refine cw_seq ?_
 refine cw_region ?_
 refine ol_val (v := sv []) (by exact xr_assign rfl rfl) rfl rfl rfl ?_
 refine ol_nil ?_
 refine cw_seq ?_
 refine cw_region ?_
 refine ol_val (v := sv []) (by exact xr_assign rfl rfl) rfl rfl rfl ?_
 refine ol_nil ?_
 refine cw_seq ?_
 refine cw_seq ?_
 refine cw_region ?_
 refine ol_val (v := .int .i64 0) (by exact xr_assign rfl rfl) rfl rfl rfl ?_
 refine ol_nil ?_
 obtain ⟨e2, l3, h4⟩ := bs h
 refine cw_mid (fun ρ' w' => ρ' 5 = sv e2 ∧ Gr w w') ?_ ?_
 ·refine cw_block ?_
  refine cw_round (fun (s1 : (List UInt8) × Int) ρ' w' => ρ' 0 = .int .u64 a0 ∧ ρ' 1 = .int .i64 a1 ∧ ρ' 5 = sv s1.1 ∧ ρ' 6 = .int .i64 s1.2 ∧ Gr w w') l3 ?_ ?_
  ·skip
   exact ⟨rfl, rfl, rfl, rfl, fB⟩
  rintro s1 x7 ρ5 w6 ⟨e0, e1, e5, e6, fB⟩ h
  unfold rickyardref01_Lay.s0 at h
  refine cw_seq ?_
  refine cw_seq ?_
  refine cw_region ?_
  refine ol_val (v := .int .i64 s1.2) (by exact xr_move rfl e6) rfl rfl rfl ?_
  refine ol_val (v := .int .i64 a1) (by exact xr_move rfl e1) rfl rfl rfl ?_
  refine ol_val (v := .bool (decide (s1.2 < a1))) (by exact xr_lss rfl rfl rfl) rfl rfl rfl ?_
  refine ol_nil ?_
  rcases is h with ⟨c8, h⟩ | ⟨c8, h⟩
  ·refine cw_condT rfl c8 ?_
   refine cw_skip ?_
   refine cw_seq ?_
   refine cw_block ?_
   refine cw_region ?_
   refine ol_val (v := sv s1.1) (by exact xr_move rfl e5) rfl rfl rfl ?_
   refine ol_val (v := .int .u64 a0) (by exact xr_move rfl e0) rfl rfl rfl ?_
   refine ol_val (v := .int .i64 s1.2) (by exact xr_move rfl e6) rfl rfl rfl ?_
   obtain ⟨t9, k10, h⟩ := bs h
   refine ol_op (by exact opv_call rfl cal137 (ac rfl (ac rfl an)) (rickyardref01_Octet.ok fu _ a0 s1.2 _ k10)) rfl rfl rfl ?_
   rintro _ w12 ⟨rfl, q11⟩
   have fB := fB.gr q11
   refine ol_op (by exact opv_buildSlice (K := (kI .u8)) (xs := [t9]) (vals := [.int .u8 t9]) rfl Try.underlying43 el5 rfl rfl ⟨rfl, rfl, trivial⟩ rfl rfl rfl fB.size) rfl rfl rfl ?_
   rintro v13 w18 ⟨o15, q14, z16⟩
   have fB := fB.gr q14
   refine ol_val (v := sv (List.map toB [t9])) (by exact xr_toStr rfl Try.underlying43 Try.underlying5 Try.underlying9 rfl o15.rd) rfl rfl rfl ?_
   obtain ⟨g19, h⟩ := gs h
   refine ol_val (v := sv (s1.1 ++ (List.map toB [t9]))) (by exact xr_addStr rfl rfl rfl g19) rfl rfl rfl ?_
   refine ol_val (v := sv (s1.1 ++ (List.map toB [t9]))) (by exact xr_assign rfl rfl) rfl rfl rfl ?_
   refine ol_nil ?_
   refine blk_i ?_
   refine cw_region ?_
   refine ol_val (v := .int .i64 s1.2) (by exact xr_move rfl e6) rfl rfl rfl ?_
   refine ol_val (v := .int .i64 (IntKind.i64.wrap (s1.2 + 1))) (by exact xr_add rfl rfl rfl) rfl rfl rfl ?_
   refine ol_val (v := .int .i64 (IntKind.i64.wrap (s1.2 + 1))) (by exact xr_assign rfl rfl) rfl rfl rfl ?_
   refine ol_nil ?_
   obtain rfl := Option.some.inj h
   refine lp_in ?_
   exact ⟨e0, e1, rfl, rfl, fB⟩
  refine cw_condF rfl c8 ?_
  refine cw_exit ?_
  repeat (first | with_reducible refine thn_e ?_ | with_reducible refine blk_e rfl ?_)
  obtain rfl := Option.some.inj h
  refine lp_exit ?_
  rintro rfl
  refine thn_x ?_
  exact ⟨e5, fB⟩
 rintro ρ20 w21 ⟨e5, fB⟩
 have h := h4
 refine cw_seq ?_
 refine cw_region ?_
 refine ol_val (v := sv e2) (by exact xr_move rfl e5) rfl rfl rfl ?_
 refine ol_val (v := sv e2) (by exact xr_assign rfl rfl) rfl rfl rfl ?_
 refine ol_nil ?_
 refine cw_ret ?_
 repeat (first | with_reducible refine thn_r ?_ | with_reducible refine blk_r ?_)
 obtain rfl := Option.some.inj h
 refine fin_ret1 Try.results117 rfl ?_
 exact ⟨_, rfl, rfl, fB⟩
end Go.Proofs.Ytklhbaghbmndeaa

/- Numbers as octets, in plain words. -/
set_option linter.unusedVariables false
set_option linter.unusedSimpArgs false
namespace Go.Proofs.Ytklhbaghbmndeaa.Pure
open Go Go.Xw
def lay (v n : Nat) : List Int := (List.range n).map fun i => ((v / 256 ^ i % 256 : Nat) : Int)
theorem lay_len (v n : Nat) : (lay v n).length = n := by simp [lay]
theorem lay_succ (v n : Nat) : lay v (n + 1) = lay v n ++ [((v / 256 ^ n % 256 : Nat) : Int)] := by
  simp [lay, List.range_succ]
theorem wu8_mod {n : Nat} : IntKind.u8.wrap (n : Int) = ((n % 256 : Nat) : Int) := by
  unfold IntKind.wrap
  simp only [IntKind.signed, IntKind.bits]
  simp
theorem shr64 (n : Nat) : shR .u64 (n : Int) 8 = ((n / 256 : Nat) : Int) := by
  unfold shR
  show Int.fdiv (n : Int) (2 ^ min ((8 : Int).toNat) 64) = _
  rw [show (2 : Int) ^ min ((8 : Int).toNat) 64 = 256 from by decide, Int.fdiv_eq_ediv_of_nonneg _ (by decide)]
  omega
theorem olay_eq {fu v n : Nat} (hn : n ≤ 8) (hf : n < fu) : octet_Lay.f fu (v : Int) (n : Int) = some (lay v n) := by
  unfold octet_Lay.f
  have h0 : ¬ ((n : Int) < 0) := by omega
  have h8 : ¬ ((n : Int) > 8) := by omega
  have hL : Int.toNat (n : Int) ≤ LIM := by
    have : (8 : Nat) ≤ LIM := by decide
    omega
  simp only [h0, h8, decide_false, Bool.false_eq_true, if_false]
  rw [if_pos ⟨by omega, hL⟩]
  have : loopM (octet_Lay.s0 fu (n : Int)) fu ((v : Int), 0, List.replicate (Int.toNat (n : Int)) (0 : Int)) = some (lay v n) := by
    refine loopM_run (S := fun j => (((v / 256 ^ j : Nat) : Int), (j : Int), lay v j ++ List.replicate (n - j) (0 : Int))) n (by simp [lay]) ?_ ?_ hf
    · intro j hj
      unfold octet_Lay.s0
      have w3 : IntKind.i64.wrap ((j : Int) + 1) = ((j + 1 : Nat) : Int) := by rw [w64 (by omega) (by omega)]; omega
      have e1 : (List.replicate (Int.toNat (n : Int)) (0 : Int)).length = n := by simp
      have e2 : (lay v j ++ List.replicate (n - j) (0 : Int)).length = n := by rw [List.length_append, lay_len, List.length_replicate]; omega
      have e3 : List.set (lay v j ++ List.replicate (n - j) (0 : Int)) (Int.toNat (j : Int)) (IntKind.u8.wrap ((v / 256 ^ j : Nat) : Int)) = lay v (j + 1) ++ List.replicate (n - (j + 1)) (0 : Int) := by
        rw [Int.toNat_natCast, List.set_append, if_neg (by rw [lay_len]; omega), lay_len, Nat.sub_self, wu8_mod, lay_succ, show n - j = n - (j + 1) + 1 from by omega, List.replicate_succ]
        simp
      have e4 : shR .u64 ((v / 256 ^ j : Nat) : Int) 8 = ((v / 256 ^ (j + 1) : Nat) : Int) := by
        rw [shr64, Nat.div_div_eq_div_mul, Nat.pow_succ]
      have h1 : (j : Int) < (n : Int) := by omega
      simp only [e1, e2, e3, e4, w3, h1, decide_true, if_true]
      rw [if_pos ⟨by omega, trivial⟩]
    · unfold octet_Lay.s0
      simp
  rw [this]
  rfl
def num : List Int → Nat
  | [] => 0
  | c :: l => c.toNat + 256 * num l
theorem num_append : ∀ (a b : List Int), num (a ++ b) = num a + 256 ^ a.length * num b
  | [], b => by simp [num]
  | c :: a, b => by
    simp only [List.cons_append, num, num_append a b, List.length_cons, Nat.pow_succ]
    rw [Nat.mul_add, Nat.add_assoc, ← Nat.mul_assoc, Nat.mul_comm 256 (256 ^ a.length)]
theorem num_lt : ∀ {l : List Int}, Bytes l → num l < 256 ^ l.length
  | [], _ => by simp [num]
  | c :: l, h => by
    have h1 := h c (by simp)
    have h2 := num_lt (l := l) fun x hx => h x (by simp [hx])
    simp only [num, List.length_cons, Nat.pow_succ]
    omega
theorem lay_num : ∀ {l : List Int}, Bytes l → lay (num l) l.length = l
  | [], _ => rfl
  | c :: l, h => by
    have h1 := h c (by simp)
    have h2 := lay_num (l := l) fun x hx => h x (by simp [hx])
    have e : lay (num (c :: l)) (l.length + 1) = c :: lay (num l) l.length := by
      unfold lay
      rw [List.range_succ_eq_map, List.map_cons, List.map_map]
      congr 1
      · simp only [num, Nat.pow_zero, Nat.div_one]
        omega
      · apply List.map_congr_left
        intro i hi
        simp only [Function.comp, num, Nat.succ_eq_add_one, Nat.pow_succ]
        rw [Nat.mul_comm (256 ^ i) 256, ← Nat.div_div_eq_div_mul, show (c.toNat + 256 * num l) / 256 = num l from by omega]
    rw [List.length_cons, e, h2]
theorem or_add (a c j : Nat) (ha : a < 256 ^ j) : a ||| c * 256 ^ j = a + 256 ^ j * c := by
  have e : 256 ^ j = 2 ^ (8 * j) := by rw [Nat.pow_mul]
  rw [e] at ha ⊢
  rw [Nat.mul_comm c, Nat.or_comm, ← Nat.two_pow_add_eq_or_of_lt ha, Nat.add_comm]
theorem read_eq {fu : Nat} {l : List Int} (hb : Bytes l) (hl : l.length ≤ 8) (hf : l.length < fu) : octet_Read.f fu l = some ((num l : Nat) : Int) := by
  unfold octet_Read.f
  have hm : mnI (l.length : Int) 8 = (l.length : Int) := by
    unfold mnI
    split <;> omega
  have hc : cut l 0 (l.length : Int) = l := by
    unfold cut
    simp
  rw [hm, if_pos ⟨by omega, Int.le_refl _⟩]
  have : loopM (octet_Read.s0 fu l) fu (0, 0) = some ((num l : Nat) : Int) := by
    refine loopM_run (S := fun j => (((num (l.take j) : Nat) : Int), (j : Int))) l.length (by simp [num]) ?_ ?_ hf
    · intro j hj
      unfold octet_Read.s0
      rw [hm, hc]
      have h1 : (j : Int) < (l.length : Int) := by omega
      have w3 : IntKind.i64.wrap ((j : Int) + 1) = ((j + 1 : Nat) : Int) := by rw [w64 (by omega) (by omega)]; omega
      have w4 : IntKind.i64.wrap (8 * (j : Int)) = ((8 * j : Nat) : Int) := by rw [w64 (by omega) (by omega)]; omega
      have hcb := hb _ (List.getElem_mem hj)
      obtain ⟨c, hc'⟩ : ∃ c : Nat, l[j] = (c : Int) := ⟨l[j].toNat, by omega⟩
      have hlt : num (l.take j) < 256 ^ j := by
        have := num_lt (l := l.take j) fun x hx => hb x (List.mem_of_mem_take hx)
        rwa [List.length_take, Nat.min_eq_left (by omega)] at this
      have e256 : (256 : Nat) ^ j * 256 ≤ 256 ^ 8 := by
        rw [← Nat.pow_succ]
        exact Nat.pow_le_pow_right (by decide) (by omega)
      have e8 : (256 : Nat) ^ 8 = 18446744073709551616 := by decide
      have hcj : c * 256 ^ j < 18446744073709551616 := by
        have : c * 256 ^ j ≤ 255 * 256 ^ j := Nat.mul_le_mul_right _ (by omega)
        have : 0 < 256 ^ j := Nat.pow_pos (by decide)
        omega
      have e1 : shL .u64 (IntKind.u64.wrap (ix l (j : Int))) ((8 * j : Nat) : Int) = ((c * 256 ^ j : Nat) : Int) := by
        rw [ix_nat hj, hc', wu64 (by omega) (by omega)]
        unfold shL
        rw [Int.toNat_natCast, Nat.min_eq_left (by show 8 * j ≤ 64; omega)]
        have : (c : Int) * 2 ^ (8 * j) = ((c * 256 ^ j : Nat) : Int) := by
          have h256 : ((256 ^ j : Nat) : Int) = 2 ^ (8 * j) := by
            rw [Int.natCast_pow, Int.pow_mul]
            exact congrArg (fun z : Int => z ^ j) (by decide : ((256 : Nat) : Int) = 2 ^ 8)
          rw [Int.natCast_mul, h256]
        rw [this, wu64 (by omega) (by omega)]
      have e2 : bOr .u64 ((num (l.take j) : Nat) : Int) ((c * 256 ^ j : Nat) : Int) = ((num (l.take (j + 1)) : Nat) : Int) := by
        unfold bOr
        show IntKind.u64.wrap (((BitVec.ofInt 64 ((num (l.take j) : Nat) : Int) ||| BitVec.ofInt 64 ((c * 256 ^ j : Nat) : Int)).toNat : Nat) : Int) = _
        rw [BitVec.ofInt_natCast, BitVec.ofInt_natCast, BitVec.toNat_or, BitVec.toNat_ofNat, BitVec.toNat_ofNat, Nat.mod_eq_of_lt (by omega), Nat.mod_eq_of_lt (by omega), or_add _ _ _ hlt, take_next hj, num_append]
        have hs : num (l.take j) + 256 ^ j * c < 18446744073709551616 := by
          rw [Nat.mul_comm]
          have : c * 256 ^ j ≤ 255 * 256 ^ j := Nat.mul_le_mul_right _ (by omega)
          omega
        rw [wu64 (by omega) (by omega)]
        simp only [num, hc', Int.toNat_natCast, List.length_take, Nat.min_eq_left (by omega : j ≤ l.length), Nat.mul_zero, Nat.add_zero]
      simp only [h1, decide_true, if_true, w4, e1, e2, w3]
      rw [if_pos ⟨by omega, trivial⟩, if_pos (by omega)]
    · unfold octet_Read.s0
      rw [hm, hc]
      simp
  rw [this]
  rfl
end Go.Proofs.Ytklhbaghbmndeaa.Pure

/- rickyard/rickyardref01.Rest: its model, and that the Go function computes it: written by gen.py. -/
set_option linter.unusedVariables false
namespace Go.Proofs.Ytklhbaghbmndeaa
open Go Go.Xw
def rickyardref01_Rest.f (fu : Nat) (a0 : Int) (a1 : Int) : Option Int := (if a1 ≠ 0 then (if a1 ≠ 0 then some ((Int.tmod (IntKind.i64.wrap ((Int.tmod a0 a1) + a1)) a1)) else none) else none)
set_option maxRecDepth 100000 in
set_option maxHeartbeats 400000 in
theorem rickyardref01_Rest.ok (fu : Nat) (w : World) (a0 : Int) (a1 : Int) (r : Int) (h : rickyardref01_Rest.f fu a0 a1 = some r) :
  Calls Try.prog 27 (([.int .i64 a0, .int .i64 a1] : List Value).toArray) w (fun e w' => ∃ v, e = .returned v ∧ v = .int .i64 r ∧ Gr w w') := by
 unfold rickyardref01_Rest.f at h
 have fB : Gr w w := Fr.refl _ _
 refine calls_cw Try.func27 rfl Try.ntmps27 rfl ?_
 refine cw_seq ?_
 refine cw_region ?_
 refine ol_val (v := .int .i64 0) (by exact xr_assign rfl rfl) rfl rfl rfl ?_
 refine ol_nil ?_
 refine cw_seq ?_
 refine cw_region ?_
 refine ol_val (v := .int .i64 a0) (by exact xr_move rfl rfl) rfl rfl rfl ?_
 refine ol_val (v := .int .i64 a1) (by exact xr_move rfl rfl) rfl rfl rfl ?_
 obtain ⟨g1, h⟩ := gs h
 refine ol_val (v := .int .i64 (Int.tmod a0 a1)) (by exact xr_rem rfl rfl rfl g1) rfl rfl rfl ?_
 refine ol_val (v := .int .i64 a1) (by exact xr_move rfl rfl) rfl rfl rfl ?_
 refine ol_val (v := .int .i64 (IntKind.i64.wrap ((Int.tmod a0 a1) + a1))) (by exact xr_add rfl rfl rfl) rfl rfl rfl ?_
 refine ol_val (v := .int .i64 a1) (by exact xr_move rfl rfl) rfl rfl rfl ?_
 obtain ⟨g2, h⟩ := gs h
 refine ol_val (v := .int .i64 (Int.tmod (IntKind.i64.wrap ((Int.tmod a0 a1) + a1)) a1)) (by exact xr_rem rfl rfl rfl g2) rfl rfl rfl ?_
 refine ol_val (v := .int .i64 (Int.tmod (IntKind.i64.wrap ((Int.tmod a0 a1) + a1)) a1)) (by exact xr_assign rfl rfl) rfl rfl rfl ?_
 refine ol_nil ?_
 refine cw_ret ?_
 repeat (first | with_reducible refine thn_r ?_ | with_reducible refine blk_r ?_)
 obtain rfl := Option.some.inj h
 refine fin_ret1 Try.results27 rfl ?_
 exact ⟨_, rfl, rfl, fB⟩
end Go.Proofs.Ytklhbaghbmndeaa

/- slices.Clone[[]int,int]: its model, and that the Go function computes it: written by gen.py. -/
set_option linter.unusedVariables false
namespace Go.Proofs.Ytklhbaghbmndeaa
open Go Go.Xw
def slices_Clone_1.f (fu : Nat) (a0 : List Int) : Option (List Int) := (if List.length a0 ≤ LIM then some a0 else none)
set_option maxRecDepth 100000 in
theorem slices_Clone_1.ok (fu : Nat) (w : World) (a0 : List Int) (V0_0 : Value) (R0_0 : Rd (kI .i64) w V0_0 a0) (r : List Int) (h : slices_Clone_1.f fu a0 = some r) :
  Calls Try.prog 90 (([V0_0] : List Value).toArray) w (fun e w' => ∃ v, e = .returned v ∧ ∃ u1 : Value, ∃ o2 : Own (kI .i64) 3 w' w.heap.size u1 r, v = u1 ∧ Gr w w') := by
 unfold slices_Clone_1.f at h
 obtain ⟨g, h⟩ := gs h
 obtain rfl := Option.some.inj h
 have fB : Gr w w := Fr.refl _ _
 refine calls_cw Try.func90 rfl Try.ntmps90 rfl ?_
 refine cw_seq ?_
 refine cw_region ?_
 refine ol_val (v := .slice none 0 0) (by exact xr_assign rfl rfl) rfl rfl rfl ?_
 refine ol_nil ?_
 refine cw_seq ?_
 refine cw_seq ?_
 refine cw_region ?_
 refine ol_val (v := V0_0) (by exact xr_move rfl rfl) rfl rfl rfl ?_
 refine ol_val (v := .bool (isNilV V0_0)) (by exact xr_eqNil rfl Try.underlying25 rfl rfl R0_0) rfl rfl rfl ?_
 refine ol_nil ?_
 rcases bt (isNilV V0_0) with c | c
 ·refine cw_condT rfl c ?_
  obtain rfl := R0_0.isNil c
  refine cw_seq ?_
  refine cw_region ?_
  refine ol_val (v := .slice none 0 0) (by exact xr_assign rfl rfl) rfl rfl rfl ?_
  refine ol_nil ?_
  refine cw_ret ?_
  repeat (first | with_reducible refine thn_r ?_ | with_reducible refine blk_r ?_)
  refine fin_ret1 Try.results90 rfl ?_
  exact ⟨_, rfl, _, Own.nil _ _ _ _, rfl, fB⟩
 refine cw_condF rfl c ?_
 refine cw_skip ?_
 refine cw_seq ?_
 refine cw_region ?_
 refine ol_op (by exact opv_buildSlice (K := (kI .i64)) (xs := ([] : List Int)) (vals := []) rfl Try.underlying25 el3 rfl rfl trivial rfl rfl rfl fB.size) rfl rfl rfl ?_
 rintro v1 w1 ⟨o1, q1, z1⟩
 refine ol_val (v := V0_0) (by exact xr_move rfl rfl) rfl rfl rfl ?_
 refine ol_op (by exact opv_append (K := (kI .i64)) rfl Try.underlying25 el3 rfl rfl rfl rfl rfl o1 (R0_0.gr q1) (by simpa using g) (fB.gr q1).size) rfl rfl rfl ?_
 rintro v2 w2 ⟨o2, q2, n2⟩
 refine ol_val (v := v2) (by exact xr_assign rfl rfl) rfl rfl rfl ?_
 refine ol_nil ?_
 refine cw_ret ?_
 repeat (first | with_reducible refine thn_r ?_ | with_reducible refine blk_r ?_)
 refine fin_ret1 Try.results90 rfl ?_
 exact ⟨_, rfl, v2, o2, rfl, (fB.gr q1).wrO q2 o1.geO⟩
end Go.Proofs.Ytklhbaghbmndeaa

/- (*rickyard/pmem.Device).Plan: its model, and that the Go function computes it: written by gen.py. -/
set_option linter.unusedVariables false
namespace Go.Proofs.Ytklhbaghbmndeaa
open Go Go.Xw
def pmem_Device_Plan.f (fu : Nat) (a0 : S_pmem_Device) (a1 : List Int) : Option S_pmem_Device := ((slices_Clone_1.f fu a1 : Option (List Int)).bind fun t7 => some ((⟨a0.cells, (⟨t7, (0 : Int)⟩ : S_pmem_plan), a0.off, a0.armed, a0.left, a0.steps⟩ : S_pmem_Device)))
set_option maxRecDepth 100000 in
set_option maxHeartbeats 400000 in
theorem pmem_Device_Plan.ok (fu : Nat) (w : World) (a0 : S_pmem_Device) (G_0 : Nat) (V0_0 : Value) (O0_0 : Own k_pmem_cell 142 w 0 V0_0 a0.cells) (V0_1 : Value) (O0_1 : Own (kI .i64) 3 w 0 V0_1 a0.plan.list) (b_0 : Blk w G_0 139 [Seg.cell V0_0 O0_0.one, Seg.cell V0_1 O0_1.one, Seg.cell (.int .i64 a0.plan.at_), Seg.cell (.bool a0.off), Seg.cell (.bool a0.armed), Seg.cell (.int .i64 a0.left), Seg.cell (.int .i64 a0.steps)]) (a1 : List Int) (V1_0 : Value) (R1_0 : Rd (kI .i64) w V1_0 a1) (NR1_0_P0 : OffR V1_0 a1 G_0) (NR1_0_R0_0 : OffRV V1_0 a1 V0_0) (NR1_0_R0_1 : OffRV V1_0 a1 V0_1) (r : S_pmem_Device) (h : pmem_Device_Plan.f fu a0 a1 = some r) :
  Calls Try.prog 35 (([.pointer (some ⟨G_0, 0, none⟩), V1_0] : List Value).toArray) w (fun e w' => ∃ v, e = .returned v ∧ ∃ u1 : Value, ∃ u4 : Value, ∃ o2 : Own k_pmem_cell 142 w' 0 u1 r.cells, ∃ m3 : ∀ g, Value.ownBlock u1 = some g → w.heap.size ≤ g ∨ (g = G_0 ∨ some g = Value.ownBlock V0_0 ∨ some g = Value.ownBlock V0_1), ∃ o5 : Own (kI .i64) 3 w' 0 u4 r.plan.list, ∃ m6 : ∀ g, Value.ownBlock u4 = some g → w.heap.size ≤ g ∨ (g = G_0 ∨ some g = Value.ownBlock V0_0 ∨ some g = Value.ownBlock V0_1), v = .tuple #[] ∧ Blk w' G_0 139 [Seg.cell u1 o2.one, Seg.cell u4 o5.one, Seg.cell (.int .i64 r.plan.at_), Seg.cell (.bool r.off), Seg.cell (.bool r.armed), Seg.cell (.int .i64 r.left), Seg.cell (.int .i64 r.steps)] ∧ Fr (fun j => j = G_0 ∨ some j = Value.ownBlock V0_0 ∨ some j = Value.ownBlock V0_1) w w') := by
 unfold pmem_Device_Plan.f at h
 have fB : Fr (fun j => j = G_0 ∨ some j = Value.ownBlock V0_0 ∨ some j = Value.ownBlock V0_1) w w := Fr.refl _ _
 have M0_0 : ∀ g, Value.ownBlock V0_0 = some g → w.heap.size ≤ g ∨ (g = G_0 ∨ some g = Value.ownBlock V0_0 ∨ some g = Value.ownBlock V0_1) := fun g hg => .inr (.inr (.inl hg.symm))
 have M0_1 : ∀ g, Value.ownBlock V0_1 = some g → w.heap.size ≤ g ∨ (g = G_0 ∨ some g = Value.ownBlock V0_0 ∨ some g = Value.ownBlock V0_1) := fun g hg => .inr (.inr (.inr hg.symm))
 refine calls_cw Try.func35 rfl Try.ntmps35 rfl ?_
 refine cw_region ?_
 refine ol_val (v := .pointer (some ⟨G_0, 0, none⟩)) (by exact xr_move rfl rfl) rfl rfl rfl ?_
 refine ol_val (v := V1_0) (by exact xr_move rfl rfl) rfl rfl rfl ?_
 obtain ⟨t7, k8, h⟩ := bs h
 refine ol_op (by exact opv_call rfl cal90 (ac rfl an) (slices_Clone_1.ok fu _ a1 V1_0 (R1_0) _ k8)) rfl rfl rfl ?_
 rintro u9 w13 ⟨_, o10, rfl, q12⟩
 have a14 := OffV.call O0_1 o10
 have o10 := Own.base o10 fB.size
 have b_0 := b_0.gr q12
 have O0_0 := O0_0.gr q12
 have O0_1 := O0_1.gr q12
 have fB := fB.gr q12
 refine ol_val (v := aggV [Seg.cell u9 o10.one, Seg.cell (.int .i64 (0 : Int))]) (by exact xr_buildS (vals := [(0, u9)]) (res := [Seg.cell u9 o10.one, Seg.cell (.int .i64 (0 : Int))]) rfl ⟨rfl, rfl, trivial⟩ Try.underlying137 ze137 pl137 (fl_cons (xs := cellsOf [Seg.cell u9 o10.one]) (cs' := cellsOf [Seg.cell u9 o10.one, Seg.cell (.int .i64 (0 : Int))]) rfl (cells_one o10.one) (len_cellsOf _) (Spl.segs [Seg.cell (.slice none 0 0) (by rfl), Seg.cell (.int .i64 (0 : Int))] 0 1 [Seg.cell u9 o10.one] rfl rfl) fl_nil)) rfl rfl rfl ?_
 refine ol_val (v := .pointer (some ⟨G_0, 0, none⟩)) (by exact xr_nilCheck rfl rfl) rfl rfl rfl ?_
 refine ol_val (v := .pointer (some ⟨G_0, 1, none⟩)) (by exact xr_fieldAddr (p := 0) (q := 1) rfl fl139_1 rfl) rfl rfl rfl ?_
 have f16 := off_ty b_0 O0_0 (by decide)
 have f17 := off_ty b_0 o10 (by decide)
 refine ol_op0 (by exact opv_store (ss' := [Seg.cell V0_0 O0_0.one, Seg.cell u9 o10.one, Seg.cell (.int .i64 (0 : Int)), Seg.cell (.bool a0.off), Seg.cell (.bool a0.armed), Seg.cell (.int .i64 a0.left), Seg.cell (.int .i64 a0.steps)]) (xs := cellsOf [Seg.cell u9 o10.one, Seg.cell (.int .i64 (0 : Int))]) rfl sz137 rfl rfl rfl (len_cellsOf _) (one_cellsOf _) b_0 (Spl.segs _ 1 2 [Seg.cell u9 o10.one, Seg.cell (.int .i64 (0 : Int))] rfl rfl)) rfl rfl ?_
 rintro _ w18 ⟨b_0, q15⟩
 have O0_0 := O0_0.wr q15 f16
 have o10 := o10.wr q15 f17
 have fB := fB.wrS q15 (.inl rfl)
 refine ol_nil ?_
 obtain rfl := Option.some.inj h
 refine fin_end0 Try.results35 ?_
 exact ⟨_, rfl, V0_0, u9, O0_0, M0_0, (Own.base o10 (Nat.zero_le _)), (ms_geO o10), rfl, b_0, fB⟩
end Go.Proofs.Ytklhbaghbmndeaa
