/- FateCrashes: texts merged, part 3 of 6. The last part proves that the law FateCrashes holds for every input. -/
import Derived.Test.YtklhbaghbmndeaaPkFateCrashes2
set_option maxRecDepth 100000
set_option maxHeartbeats 4000000
set_option linter.unusedVariables false
set_option linter.unusedSimpArgs false
namespace Go.Proofs.Ytklhbaghbmndeaa
open Go Go.Xw
def fate_Count.s0 (fu : Nat) (t1 : (List S_api_Fate)) : (Int × Int) → Option (Sum Int (Int × Int)) := fun s8 => (if (decide (s8.2 < (List.length t1 : Int))) = true then (if 0 ≤ s8.2 ∧ s8.2 < (List.length t1 : Int) then ((fate_Values.f fu (ix t1 s8.2)).bind fun t28 => some (Sum.inr ((mnI (IntKind.i64.wrap (s8.1 * (List.length t28 : Int))) 1099511627776), (IntKind.i64.wrap (s8.2 + 1))))) else none) else some (Sum.inl (s8.1)))
def fate_Count.f (fu : Nat) (a0 : S_pmem_Device) : Option Int := ((pmem_Device_Fates.f fu a0).bind fun t1 => ((loopM (fate_Count.s0 fu t1) fu (1, 0)).bind fun e9 => some (e9)))
theorem fate_Count.ok (fu : Nat) (w : World) (a0 : S_pmem_Device) (G_0 : Nat) (V0_0 : Value) (R0_0 : Rd k_pmem_cell w V0_0 a0.cells) (V0_1 : Value) (R0_1 : Rd (kI .i64) w V0_1 a0.plan.list) (b_0 : Blk w G_0 139 [Seg.cell V0_0 R0_0.one, Seg.cell V0_1 R0_1.one, (sI a0.plan.at_), Seg.cell (.bool a0.off), Seg.cell (.bool a0.armed), (sI a0.left), (sI a0.steps)]) (r : Int) (h : fate_Count.f fu a0 = some r) :
  Calls Try.prog 61 (([(pt G_0 0)] : List Value).toArray) w (fun e w' => ∃ v, e = .returned v ∧ v = .int .i64 r ∧ Gr w w') := by
 unfold fate_Count.f at h
 have fB : Gr w w := Fr.refl _ _
 refine calls_cw Try.func61 rfl Try.ntmps61 rfl ?_
 refine cw_seq ?_
 refine cw_region ?_
 refine ol_val (v := .int .i64 0) (xr_assign rfl rfl) rfl rfl rfl ?_
 refine ol_nil ?_
 refine cw_seq ?_
 refine cw_seq ?_
 refine cw_region ?_
 refine ol_val (v := (pt G_0 0)) (xr_move rfl rfl) rfl rfl rfl ?_
 refine ol_val (v := .bool false) (xr_eqP (b := false) rfl Try.underlying30 rfl rfl (by simp) (by simp)) rfl rfl rfl ?_
 refine ol_nil ?_
 refine cw_condF rfl rfl ?_
 refine cw_skip ?_
 refine cw_seq ?_
 refine cw_region ?_
 refine ol_val (v := .int .i64 1) (xr_assign rfl rfl) rfl rfl rfl ?_
 refine ol_nil ?_
 refine cw_seq ?_
 refine cw_seq ?_
 refine cw_region ?_
 refine ol_val (v := (pt G_0 0)) (xr_move rfl rfl) rfl rfl rfl ?_
 obtain ⟨t1, k2, h⟩ := bs h
 refine ol_op (opv_call rfl cal40 (ac rfl an) (pmem_Device_Fates.ok fu _ a0 G_0 V0_0 (R0_0.gr fB) V0_1 (R0_1.gr fB) b_0 _ k2)) rfl rfl rfl ?_
 rintro u3 w7 ⟨_, o4, rfl, q6⟩
 have o4 := Own.base o4 fB.size
 have b_0 := b_0.gr q6
 have fB := fB.gr q6
 refine ol_val (v := .int .i64 (List.length t1 : Int)) (xr_lenR rfl Try.underlying52 rfl o4.rd) rfl rfl rfl ?_
 refine ol_val (v := .int .i64 0) (xr_move rfl rfl) rfl rfl rfl ?_
 refine ol_nil ?_
 obtain ⟨e9, l10, h11⟩ := bs h
 refine cw_mid (fun ρ' w' => ρ' 3 = .int .i64 e9 ∧ Blk w' G_0 139 [Seg.cell V0_0 R0_0.one, Seg.cell V0_1 R0_1.one, (sI a0.plan.at_), Seg.cell (.bool a0.off), Seg.cell (.bool a0.armed), (sI a0.left), (sI a0.steps)] ∧ Gr w w') ?_ ?_
 ·refine cw_block ?_
  refine cw_round (fun (s8 : Int × Int) ρ' w' => ∃ o4 : Own k_api_Fate 55 w' w.heap.size u3 t1, ρ' 3 = .int .i64 s8.1 ∧ ρ' 9 = u3 ∧ ρ' 10 = .int .i64 (List.length t1 : Int) ∧ ρ' 11 = .int .i64 s8.2 ∧ Blk w' G_0 139 [Seg.cell V0_0 R0_0.one, Seg.cell V0_1 R0_1.one, (sI a0.plan.at_), Seg.cell (.bool a0.off), Seg.cell (.bool a0.armed), (sI a0.left), (sI a0.steps)] ∧ Gr w w') l10 ?_ ?_
  ·skip
   exact ⟨o4, rfl, rfl, rfl, rfl, b_0, fB⟩
  rintro s8 x14 ρ12 w13 ⟨o4, e3, e9, e10, e11, b_0, fB⟩ h
  unfold fate_Count.s0 at h
  refine cw_seq ?_
  refine cw_region ?_
  refine ol_val (v := .bool (decide (s8.2 < (List.length t1 : Int)))) (xr_lss rfl e11 e10) rfl rfl rfl ?_
  refine ol_nil ?_
  refine cw_seq ?_
  rcases is h with ⟨c15, h⟩ | ⟨c15, h⟩
  ·refine cw_condT rfl c15 ?_
   refine cw_skip ?_
   refine cw_seq ?_
   refine cw_block ?_
   refine cw_seq ?_
   refine cw_region ?_
   obtain ⟨g16, h⟩ := gs h
   refine ol_val (v := (pt ((sb u3)) (so u3 + Int.toNat s8.2 * 5))) (xr_indexR (K := k_api_Fate) (v := u3) rfl Try.underlying52 sz55 e9 o4.rd e11 g16.1 g16.2) rfl rfl rfl ?_
   refine ol_val (v := aggV [(sI ((ix t1 s8.2).At)), Seg.cell (.int .u64 ((ix t1 s8.2).Lasts)), Seg.cell (.bool ((ix t1 s8.2).Flushed)), Seg.cell (.int .u64 ((ix t1 s8.2).Sent)), Seg.cell (.int .u64 ((ix t1 s8.2).Stored))]) (xr_loadS (ss := [(sI ((ix t1 s8.2).At)), Seg.cell (.int .u64 ((ix t1 s8.2).Lasts)), Seg.cell (.bool ((ix t1 s8.2).Flushed)), Seg.cell (.int .u64 ((ix t1 s8.2).Sent)), Seg.cell (.int .u64 ((ix t1 s8.2).Stored))]) rfl ag55 sz55 rfl rfl (o4.rd.elem g16.1 g16.2)) rfl rfl rfl ?_
   refine ol_op (opv_alloc (ss := [(sI (0 : Int)), Seg.cell (.int .u64 (0 : Int)), Seg.cell (.bool false), Seg.cell (.int .u64 (0 : Int)), Seg.cell (.int .u64 (0 : Int))]) rfl ze55 rfl) rfl rfl rfl ?_
   rintro _ w22 ⟨G17, rfl, b18, q19, z20⟩
   have n23 := b_0.ne z20
   have a24 := Own.off_new o4 z20
   have z20 := Nat.le_trans fB.size z20
   have b_0 := b_0.gr q19
   have o4 := o4.gr q19
   have fB := fB.gr q19
   have f26 := a24
   refine ol_op0 (opv_store (ss' := [(sI ((ix t1 s8.2).At)), Seg.cell (.int .u64 ((ix t1 s8.2).Lasts)), Seg.cell (.bool ((ix t1 s8.2).Flushed)), Seg.cell (.int .u64 ((ix t1 s8.2).Sent)), Seg.cell (.int .u64 ((ix t1 s8.2).Stored))]) (xs := cellsOf [(sI ((ix t1 s8.2).At)), Seg.cell (.int .u64 ((ix t1 s8.2).Lasts)), Seg.cell (.bool ((ix t1 s8.2).Flushed)), Seg.cell (.int .u64 ((ix t1 s8.2).Sent)), Seg.cell (.int .u64 ((ix t1 s8.2).Stored))]) rfl sz55 rfl rfl rfl (len_cellsOf _) (one_cellsOf _) b18 (Spl.segs _ 0 5 [(sI ((ix t1 s8.2).At)), Seg.cell (.int .u64 ((ix t1 s8.2).Lasts)), Seg.cell (.bool ((ix t1 s8.2).Flushed)), Seg.cell (.int .u64 ((ix t1 s8.2).Sent)), Seg.cell (.int .u64 ((ix t1 s8.2).Stored))] rfl rfl)) rfl rfl ?_
   rintro _ w27 ⟨b18, q25⟩
   have b_0 := b_0.wr q25 n23
   have o4 := o4.wr q25 f26
   have fB := fB.wr q25 z20
   refine ol_nil ?_
   refine cw_region ?_
   refine ol_val (v := .int .i64 s8.1) (xr_move rfl e3) rfl rfl rfl ?_
   refine ol_val (v := aggV [(sI ((ix t1 s8.2).At)), Seg.cell (.int .u64 ((ix t1 s8.2).Lasts)), Seg.cell (.bool ((ix t1 s8.2).Flushed)), Seg.cell (.int .u64 ((ix t1 s8.2).Sent)), Seg.cell (.int .u64 ((ix t1 s8.2).Stored))]) (xr_loadS (ss := [(sI ((ix t1 s8.2).At)), Seg.cell (.int .u64 ((ix t1 s8.2).Lasts)), Seg.cell (.bool ((ix t1 s8.2).Flushed)), Seg.cell (.int .u64 ((ix t1 s8.2).Sent)), Seg.cell (.int .u64 ((ix t1 s8.2).Stored))]) rfl ag55 sz55 rfl rfl (b18.segs 0 5 rfl)) rfl rfl rfl ?_
   obtain ⟨t28, k29, h⟩ := bs h
   refine ol_op (opv_call rfl cal50 (ac rfl an) (fate_Values.ok fu _ (ix t1 s8.2) _ k29)) rfl rfl rfl ?_
   rintro u30 w34 ⟨_, o31, rfl, q33⟩
   have o31 := Own.base o31 fB.size
   have b_0 := b_0.gr q33
   have o4 := o4.gr q33
   have fB := fB.gr q33
   refine ol_val (v := .int .i64 (List.length t28 : Int)) (xr_lenR rfl Try.underlying46 rfl o31.rd) rfl rfl rfl ?_
   refine ol_val (v := .int .i64 (IntKind.i64.wrap (s8.1 * (List.length t28 : Int)))) (xr_mul rfl rfl rfl) rfl rfl rfl ?_
   refine ol_val (v := .int .i64 (mnI (IntKind.i64.wrap (s8.1 * (List.length t28 : Int))) 1099511627776)) (xr_min2 rfl rfl rfl) rfl rfl rfl ?_
   refine ol_val (v := .int .i64 (mnI (IntKind.i64.wrap (s8.1 * (List.length t28 : Int))) 1099511627776)) (xr_assign rfl rfl) rfl rfl rfl ?_
   refine ol_nil ?_
   refine blk_i ?_
   refine cw_region ?_
   refine ol_val (v := .int .i64 (IntKind.i64.wrap (s8.2 + 1))) (xr_add rfl e11 rfl) rfl rfl rfl ?_
   refine ol_val (v := .int .i64 (IntKind.i64.wrap (s8.2 + 1))) (xr_move rfl rfl) rfl rfl rfl ?_
   refine ol_nil ?_
   obtain rfl := Option.some.inj h
   refine lp_in ?_
   exact ⟨o4, rfl, e9, e10, rfl, b_0, fB⟩
  refine cw_condF rfl c15 ?_
  refine cw_exit ?_
  repeat (first | with_reducible refine thn_e ?_ | with_reducible refine blk_e rfl ?_)
  obtain rfl := Option.some.inj h
  refine lp_exit ?_
  rintro rfl
  refine thn_x ?_
  exact ⟨e3, b_0, fB⟩
 rintro ρ35 w36 ⟨e3, b_0, fB⟩
 have h := h11
 refine cw_seq ?_
 refine cw_region ?_
 refine ol_val (v := .int .i64 e9) (xr_move rfl e3) rfl rfl rfl ?_
 refine ol_val (v := .int .i64 e9) (xr_assign rfl rfl) rfl rfl rfl ?_
 refine ol_nil ?_
 refine cw_ret ?_
 repeat (first | with_reducible refine thn_r ?_ | with_reducible refine blk_r ?_)
 obtain rfl := Option.some.inj h
 refine fin_ret1 Try.results61 rfl ?_
 exact ⟨_, rfl, rfl, fB⟩
def fate_choice.f (fu : Nat) (a0 : S_api_Fate) (a1 : Int) : Option Int := (if (decide (a1 = a0.Lasts)) = true then some (0) else (if (if a0.Flushed = true then (decide (a1 = a0.Sent)) else false) = true then some (1) else (if (decide (a1 = a0.Stored)) = true then some (2) else some ((-1)))))
theorem fate_choice.ok (fu : Nat) (w : World) (a0 : S_api_Fate) (a1 : Int) (r : Int) (h : fate_choice.f fu a0 a1 = some r) :
  Calls Try.prog 108 (([aggV [(sI a0.At), Seg.cell (.int .u64 a0.Lasts), Seg.cell (.bool a0.Flushed), Seg.cell (.int .u64 a0.Sent), Seg.cell (.int .u64 a0.Stored)], .int .u64 a1] : List Value).toArray) w (fun e w' => ∃ v, e = .returned v ∧ v = .int .i64 r ∧ Gr w w') := by
 unfold fate_choice.f at h
 have fB : Gr w w := Fr.refl _ _
 refine calls_cw Try.func108 rfl Try.ntmps108 rfl ?_
 refine cw_seq ?_
 refine cw_region ?_
 refine ol_op (opv_box (ss := [(sI a0.At), Seg.cell (.int .u64 a0.Lasts), Seg.cell (.bool a0.Flushed), Seg.cell (.int .u64 a0.Sent), Seg.cell (.int .u64 a0.Stored)]) rfl rfl rfl) rfl rfl rfl ?_
 rintro _ w6 ⟨G1, rfl, b2, q3, z4⟩
 have z4 := Nat.le_trans fB.size z4
 have fB := fB.gr q3
 refine ol_val (v := .int .i64 0) (xr_assign rfl rfl) rfl rfl rfl ?_
 refine ol_nil ?_
 refine cw_seq ?_
 refine cw_block ?_
 refine cw_seq ?_
 refine cw_region ?_
 refine ol_val (v := .int .u64 a1) (xr_move rfl rfl) rfl rfl rfl ?_
 refine ol_val (v := (pt G1 1)) (xr_fieldAddr (p := 0) (q := 1) rfl fl55_1 rfl) rfl rfl rfl ?_
 refine ol_val (v := .int .u64 a0.Lasts) (xr_load1 (v := .int .u64 a0.Lasts) rfl ag22 rfl (b2.seg 1 rfl rfl)) rfl rfl rfl ?_
 refine ol_val (v := .bool (decide (a1 = a0.Lasts))) (xr_eqI rfl Try.underlying22 rfl rfl rfl) rfl rfl rfl ?_
 refine ol_val (v := .bool (decide (a1 = a0.Lasts))) (xr_assign rfl rfl) rfl rfl rfl ?_
 refine ol_nil ?_
 rcases is h with ⟨c7, h⟩ | ⟨c7, h⟩
 ·refine cw_condT rfl c7 ?_
  refine cw_seq ?_
  refine cw_region ?_
  refine ol_val (v := .int .i64 0) (xr_assign rfl rfl) rfl rfl rfl ?_
  refine ol_nil ?_
  refine cw_ret ?_
  repeat (first | with_reducible refine thn_r ?_ | with_reducible refine blk_r ?_)
  obtain rfl := Option.some.inj h
  refine fin_ret1 Try.results108 rfl ?_
  exact ⟨_, rfl, rfl, fB⟩
 refine cw_condF rfl c7 ?_
 refine cw_seq ?_
 refine cw_mid (fun ρ' w' => ρ' 1 = .int .u64 a1 ∧ ρ' 2 = (pt G1 0) ∧ ρ' 10 = .bool (if a0.Flushed = true then (decide (a1 = a0.Sent)) else false) ∧ w6 = w') ?_ ?_
 ·skip
  refine cw_region ?_
  refine ol_val (v := (pt G1 2)) (xr_fieldAddr (p := 0) (q := 2) rfl fl55_2 rfl) rfl rfl rfl ?_
  refine ol_val (v := .bool a0.Flushed) (xr_load1 (v := .bool a0.Flushed) rfl ag4 rfl (b2.seg 2 rfl rfl)) rfl rfl rfl ?_
  refine ol_val (v := .bool a0.Flushed) (xr_move rfl rfl) rfl rfl rfl ?_
  rcases bt a0.Flushed with c8 | c8
  ·skip
   refine ol_gval (v := .int .u64 a1) (xr_move rfl rfl) rfl rfl rfl rfl rfl c8 ?_
   refine ol_gval (v := (pt G1 3)) (xr_fieldAddr (p := 0) (q := 3) rfl fl55_3 rfl) rfl rfl rfl rfl rfl c8 ?_
   refine ol_gval (v := .int .u64 a0.Sent) (xr_load1 (v := .int .u64 a0.Sent) rfl ag22 rfl (b2.seg 3 rfl rfl)) rfl rfl rfl rfl rfl c8 ?_
   refine ol_gval (v := .bool (decide (a1 = a0.Sent))) (xr_eqI rfl Try.underlying22 rfl rfl rfl) rfl rfl rfl rfl rfl c8 ?_
   refine ol_val (v := .bool (decide (a1 = a0.Sent))) (xr_pickT rfl rfl c8 rfl) rfl rfl rfl ?_
   refine ol_val (v := .bool (decide (a1 = a0.Sent))) (xr_assign rfl rfl) rfl rfl rfl ?_
   refine ol_nil ?_
   refine thn_i ?_
   exact ⟨rfl, rfl, (rfl).trans (congrArg (fun z => (.bool z : Value)) (show (decide (a1 = a0.Sent)) = (if a0.Flushed = true then (decide (a1 = a0.Sent)) else false) from by rw [ite_t c8])), rfl⟩
  refine ol_gskip rfl rfl rfl rfl rfl c8 ?_
  refine ol_gskip rfl rfl rfl rfl rfl c8 ?_
  refine ol_gskip rfl rfl rfl rfl rfl c8 ?_
  refine ol_gskip rfl rfl rfl rfl rfl c8 ?_
  refine ol_val (v := .bool false) (xr_pickF rfl rfl c8 rfl) rfl rfl rfl ?_
  refine ol_val (v := .bool false) (xr_assign rfl rfl) rfl rfl rfl ?_
  refine ol_nil ?_
  refine thn_i ?_
  exact ⟨rfl, rfl, (rfl).trans (congrArg (fun z => (.bool z : Value)) (show false = (if a0.Flushed = true then (decide (a1 = a0.Sent)) else false) from by rw [ite_f c8])), rfl⟩
 rintro ρ9 _ ⟨e1, e2, e10, rfl⟩
 rcases is h with ⟨c10, h⟩ | ⟨c10, h⟩
 ·refine cw_condT e10 c10 ?_
  refine cw_seq ?_
  refine cw_region ?_
  refine ol_val (v := .int .i64 1) (xr_assign rfl rfl) rfl rfl rfl ?_
  refine ol_nil ?_
  refine cw_ret ?_
  repeat (first | with_reducible refine thn_r ?_ | with_reducible refine blk_r ?_)
  obtain rfl := Option.some.inj h
  refine fin_ret1 Try.results108 rfl ?_
  exact ⟨_, rfl, rfl, fB⟩
 refine cw_condF e10 c10 ?_
 refine cw_seq ?_
 refine cw_region ?_
 refine ol_val (v := .int .u64 a1) (xr_move rfl e1) rfl rfl rfl ?_
 refine ol_val (v := (pt G1 4)) (xr_fieldAddr (p := 0) (q := 4) rfl fl55_4 e2) rfl rfl rfl ?_
 refine ol_val (v := .int .u64 a0.Stored) (xr_load1 (v := .int .u64 a0.Stored) rfl ag22 rfl (b2.seg 4 rfl rfl)) rfl rfl rfl ?_
 refine ol_val (v := .bool (decide (a1 = a0.Stored))) (xr_eqI rfl Try.underlying22 rfl rfl rfl) rfl rfl rfl ?_
 refine ol_val (v := .bool (decide (a1 = a0.Stored))) (xr_assign rfl rfl) rfl rfl rfl ?_
 refine ol_nil ?_
 rcases is h with ⟨c11, h⟩ | ⟨c11, h⟩
 ·refine cw_condT rfl c11 ?_
  refine cw_seq ?_
  refine cw_region ?_
  refine ol_val (v := .int .i64 2) (xr_assign rfl rfl) rfl rfl rfl ?_
  refine ol_nil ?_
  refine cw_ret ?_
  repeat (first | with_reducible refine thn_r ?_ | with_reducible refine blk_r ?_)
  obtain rfl := Option.some.inj h
  refine fin_ret1 Try.results108 rfl ?_
  exact ⟨_, rfl, rfl, fB⟩
 refine cw_condF rfl c11 ?_
 refine cw_skip ?_
 refine blk_i ?_
 refine cw_seq ?_
 refine cw_region ?_
 refine ol_val (v := .int .i64 (-1)) (xr_assign rfl rfl) rfl rfl rfl ?_
 refine ol_nil ?_
 refine cw_ret ?_
 repeat (first | with_reducible refine thn_r ?_ | with_reducible refine blk_r ?_)
 obtain rfl := Option.some.inj h
 refine fin_ret1 Try.results108 rfl ?_
 exact ⟨_, rfl, rfl, fB⟩
def octet_Read.s0 (fu : Nat) (a0 : List Int) : (Int × Int) → Option (Sum Int (Int × Int)) := fun s3 => (if (decide (s3.2 < (List.length (cut a0 0 (mnI (List.length a0 : Int) 8)) : Int))) = true then (if 0 ≤ s3.2 ∧ s3.2 < (List.length (cut a0 0 (mnI (List.length a0 : Int) 8)) : Int) then (if 0 ≤ (IntKind.i64.wrap (8 * s3.2)) then some (Sum.inr ((bOr .u64 s3.1 (shL .u64 (IntKind.u64.wrap (ix (cut a0 0 (mnI (List.length a0 : Int) 8)) s3.2)) (IntKind.i64.wrap (8 * s3.2)))), (IntKind.i64.wrap (s3.2 + 1)))) else none) else none) else some (Sum.inl (s3.1)))
def octet_Read.f (fu : Nat) (a0 : List Int) : Option Int := (if 0 ≤ (mnI (List.length a0 : Int) 8) ∧ (mnI (List.length a0 : Int) 8) ≤ (List.length a0 : Int) then ((loopM (octet_Read.s0 fu a0) fu (0, 0)).bind fun e4 => some (e4)) else none)
theorem octet_Read.ok (fu : Nat) (w : World) (a0 : List Int) (V0_0 : Value) (R0_0 : Rd (kI .u8) w V0_0 a0) (r : Int) (h : octet_Read.f fu a0 = some r) :
  Calls Try.prog 109 (([V0_0] : List Value).toArray) w (fun e w' => ∃ v, e = .returned v ∧ v = .int .u64 r ∧ Gr w w') := by
 unfold octet_Read.f at h
 have fB : Gr w w := Fr.refl _ _
 refine calls_cw Try.func109 rfl Try.ntmps109 rfl ?_
 refine cw_seq ?_
 refine cw_region ?_
 refine ol_val (v := .int .u64 0) (xr_assign rfl rfl) rfl rfl rfl ?_
 refine ol_nil ?_
 refine cw_seq ?_
 refine cw_region ?_
 refine ol_val (v := .int .u64 0) (xr_assign rfl rfl) rfl rfl rfl ?_
 refine ol_nil ?_
 refine cw_seq ?_
 refine cw_seq ?_
 refine cw_region ?_
 refine ol_val (v := V0_0) (xr_move rfl rfl) rfl rfl rfl ?_
 refine ol_val (v := V0_0) (xr_move rfl rfl) rfl rfl rfl ?_
 refine ol_val (v := .int .i64 (List.length a0 : Int)) (xr_lenR rfl Try.underlying43 rfl (R0_0.gr fB)) rfl rfl rfl ?_
 refine ol_val (v := .int .i64 (mnI (List.length a0 : Int) 8)) (xr_min2 rfl rfl rfl) rfl rfl rfl ?_
 obtain ⟨g2, h⟩ := gs h
 refine ol_val (v := subv 1 V0_0 0 (Int.toNat (mnI (List.length a0 : Int) 8))) (xr_slice_h (K := (kI .u8)) (v := V0_0) rfl Try.underlying43 sz5 rfl (R0_0.gr fB) rfl g2.1 g2.2) rfl rfl rfl ?_
 have r1 : Rd (kI .u8) w (subv 1 V0_0 0 (Int.toNat (mnI (List.length a0 : Int) 8))) (cut a0 0 (mnI (List.length a0 : Int) 8)) := (R0_0.gr fB).cut (lo := 0) (hi := (mnI (List.length a0 : Int) 8)) (by decide) g2.1 g2.2
 refine ol_val (v := .int .i64 (List.length (cut a0 0 (mnI (List.length a0 : Int) 8)) : Int)) (xr_lenR rfl Try.underlying43 rfl r1) rfl rfl rfl ?_
 refine ol_val (v := .int .i64 0) (xr_move rfl rfl) rfl rfl rfl ?_
 refine ol_nil ?_
 obtain ⟨e4, l5, h6⟩ := bs h
 refine cw_mid (fun ρ' w' => ρ' 3 = .int .u64 e4 ∧ Gr w w') ?_ ?_
 ·refine cw_block ?_
  refine cw_round (fun (s3 : Int × Int) ρ' w' => ∃ r1 : Rd (kI .u8) w' (subv 1 V0_0 0 (Int.toNat (mnI (List.length a0 : Int) 8))) (cut a0 0 (mnI (List.length a0 : Int) 8)), ρ' 3 = .int .u64 s3.1 ∧ ρ' 10 = subv 1 V0_0 0 (Int.toNat (mnI (List.length a0 : Int) 8)) ∧ ρ' 11 = .int .i64 (List.length (cut a0 0 (mnI (List.length a0 : Int) 8)) : Int) ∧ ρ' 12 = .int .i64 s3.2 ∧ Gr w w') l5 ?_ ?_
  ·skip
   exact ⟨r1, rfl, rfl, rfl, rfl, fB⟩
  rintro s3 x9 ρ7 w8 ⟨r1, e3, e10, e11, e12, fB⟩ h
  unfold octet_Read.s0 at h
  refine cw_seq ?_
  refine cw_region ?_
  refine ol_val (v := .bool (decide (s3.2 < (List.length (cut a0 0 (mnI (List.length a0 : Int) 8)) : Int)))) (xr_lss rfl e12 e11) rfl rfl rfl ?_
  refine ol_nil ?_
  refine cw_seq ?_
  rcases is h with ⟨c10, h⟩ | ⟨c10, h⟩
  ·refine cw_condT rfl c10 ?_
   refine cw_skip ?_
   refine cw_seq ?_
   refine cw_block ?_
   refine cw_seq ?_
   refine cw_region ?_
   refine ol_val (v := .int .i64 s3.2) (xr_move rfl e12) rfl rfl rfl ?_
   obtain ⟨g11, h⟩ := gs h
   refine ol_val (v := (pt ((sb (subv 1 V0_0 0 (Int.toNat (mnI (List.length a0 : Int) 8))))) (so (subv 1 V0_0 0 (Int.toNat (mnI (List.length a0 : Int) 8))) + Int.toNat s3.2 * 1))) (xr_indexR (K := (kI .u8)) (v := subv 1 V0_0 0 (Int.toNat (mnI (List.length a0 : Int) 8))) rfl Try.underlying43 sz5 e10 r1 e12 g11.1 g11.2) rfl rfl rfl ?_
   refine ol_val (v := .int .u8 (ix (cut a0 0 (mnI (List.length a0 : Int) 8)) s3.2)) (xr_load1 (v := .int .u8 (ix (cut a0 0 (mnI (List.length a0 : Int) 8)) s3.2)) rfl ag5 rfl (r1.elem g11.1 g11.2)) rfl rfl rfl ?_
   refine ol_val (v := .int .i64 s3.2) (xr_assign rfl rfl) rfl rfl rfl ?_
   refine ol_val (v := .int .u8 (ix (cut a0 0 (mnI (List.length a0 : Int) 8)) s3.2)) (xr_assign rfl rfl) rfl rfl rfl ?_
   refine ol_nil ?_
   refine cw_region ?_
   refine ol_val (v := .int .u64 s3.1) (xr_move rfl e3) rfl rfl rfl ?_
   refine ol_val (v := .int .u8 (ix (cut a0 0 (mnI (List.length a0 : Int) 8)) s3.2)) (xr_move rfl rfl) rfl rfl rfl ?_
   refine ol_val (v := .int .u64 (IntKind.u64.wrap (ix (cut a0 0 (mnI (List.length a0 : Int) 8)) s3.2))) (xr_conv rfl Try.underlying5 Try.underlying22 rfl) rfl rfl rfl ?_
   refine ol_val (v := .int .i64 s3.2) (xr_move rfl rfl) rfl rfl rfl ?_
   refine ol_val (v := .int .i64 (IntKind.i64.wrap (8 * s3.2))) (xr_mul rfl rfl rfl) rfl rfl rfl ?_
   obtain ⟨g12, h⟩ := gs h
   refine ol_val (v := .int .u64 (shL .u64 (IntKind.u64.wrap (ix (cut a0 0 (mnI (List.length a0 : Int) 8)) s3.2)) (IntKind.i64.wrap (8 * s3.2)))) (xr_shl rfl rfl rfl g12) rfl rfl rfl ?_
   refine ol_val (v := .int .u64 (bOr .u64 s3.1 (shL .u64 (IntKind.u64.wrap (ix (cut a0 0 (mnI (List.length a0 : Int) 8)) s3.2)) (IntKind.i64.wrap (8 * s3.2))))) (xr_or rfl rfl rfl) rfl rfl rfl ?_
   refine ol_val (v := .int .u64 (bOr .u64 s3.1 (shL .u64 (IntKind.u64.wrap (ix (cut a0 0 (mnI (List.length a0 : Int) 8)) s3.2)) (IntKind.i64.wrap (8 * s3.2))))) (xr_assign rfl rfl) rfl rfl rfl ?_
   refine ol_nil ?_
   refine blk_i ?_
   refine cw_region ?_
   refine ol_val (v := .int .i64 (IntKind.i64.wrap (s3.2 + 1))) (xr_add rfl e12 rfl) rfl rfl rfl ?_
   refine ol_val (v := .int .i64 (IntKind.i64.wrap (s3.2 + 1))) (xr_move rfl rfl) rfl rfl rfl ?_
   refine ol_nil ?_
   obtain rfl := Option.some.inj h
   refine lp_in ?_
   exact ⟨r1, rfl, e10, e11, rfl, fB⟩
  refine cw_condF rfl c10 ?_
  refine cw_exit ?_
  repeat (first | with_reducible refine thn_e ?_ | with_reducible refine blk_e rfl ?_)
  obtain rfl := Option.some.inj h
  refine lp_exit ?_
  rintro rfl
  refine thn_x ?_
  exact ⟨e3, fB⟩
 rintro ρ13 w14 ⟨e3, fB⟩
 have h := h6
 refine cw_seq ?_
 refine cw_region ?_
 refine ol_val (v := .int .u64 e4) (xr_move rfl e3) rfl rfl rfl ?_
 refine ol_val (v := .int .u64 e4) (xr_assign rfl rfl) rfl rfl rfl ?_
 refine ol_nil ?_
 refine cw_ret ?_
 repeat (first | with_reducible refine thn_r ?_ | with_reducible refine blk_r ?_)
 obtain rfl := Option.some.inj h
 refine fin_ret1 Try.results109 rfl ?_
 exact ⟨_, rfl, rfl, fB⟩
def slices_Equal.s0 (fu : Nat) (a0 : List Int) (a1 : List Int) : Int → Option (Sum (Sum Bool Unit) Int) := fun s2 => (if (decide (s2 < (List.length a0 : Int))) = true then (if 0 ≤ s2 ∧ s2 < (List.length a0 : Int) then (if 0 ≤ s2 ∧ s2 < (List.length a1 : Int) then (if (!decide ((ix a0 s2) = (ix a1 s2))) = true then some (Sum.inl (Sum.inl (false))) else some (Sum.inr ((IntKind.i64.wrap (s2 + 1))))) else none) else none) else some (Sum.inl (Sum.inr ())))
def slices_Equal.f (fu : Nat) (a0 : List Int) (a1 : List Int) : Option Bool := (if (!decide ((List.length a0 : Int) = (List.length a1 : Int))) = true then some (false) else ((loopM (slices_Equal.s0 fu a0 a1) fu (0)).bind fun e3 => match e3 with | Sum.inl p => some p | Sum.inr x6 => some (true)))
theorem slices_Equal.ok (fu : Nat) (w : World) (a0 : List Int) (V0_0 : Value) (R0_0 : Rd (kI .u8) w V0_0 a0) (a1 : List Int) (V1_0 : Value) (R1_0 : Rd (kI .u8) w V1_0 a1) (r : Bool) (h : slices_Equal.f fu a0 a1 = some r) :
  Calls Try.prog 110 (([V0_0, V1_0] : List Value).toArray) w (fun e w' => ∃ v, e = .returned v ∧ v = .bool r ∧ Gr w w') := by
 unfold slices_Equal.f at h
 have fB : Gr w w := Fr.refl _ _
 refine calls_cw Try.func110 rfl Try.ntmps110 rfl ?_
 refine cw_seq ?_
 refine cw_region ?_
 refine ol_val (v := .bool false) (xr_assign rfl rfl) rfl rfl rfl ?_
 refine ol_nil ?_
 refine cw_seq ?_
 refine cw_seq ?_
 refine cw_region ?_
 refine ol_val (v := V0_0) (xr_move rfl rfl) rfl rfl rfl ?_
 refine ol_val (v := .int .i64 (List.length a0 : Int)) (xr_lenR rfl Try.underlying43 rfl (R0_0.gr fB)) rfl rfl rfl ?_
 refine ol_val (v := V1_0) (xr_move rfl rfl) rfl rfl rfl ?_
 refine ol_val (v := .int .i64 (List.length a1 : Int)) (xr_lenR rfl Try.underlying43 rfl (R1_0.gr fB)) rfl rfl rfl ?_
 refine ol_val (v := .bool (!decide ((List.length a0 : Int) = (List.length a1 : Int)))) (xr_neI rfl Try.underlying3 rfl rfl rfl) rfl rfl rfl ?_
 refine ol_nil ?_
 rcases is h with ⟨c1, h⟩ | ⟨c1, h⟩
 ·refine cw_condT rfl c1 ?_
  refine cw_seq ?_
  refine cw_region ?_
  refine ol_val (v := .bool false) (xr_assign rfl rfl) rfl rfl rfl ?_
  refine ol_nil ?_
  refine cw_ret ?_
  repeat (first | with_reducible refine thn_r ?_ | with_reducible refine blk_r ?_)
  obtain rfl := Option.some.inj h
  refine fin_ret1 Try.results110 rfl ?_
  exact ⟨_, rfl, rfl, fB⟩
 refine cw_condF rfl c1 ?_
 refine cw_skip ?_
 refine cw_seq ?_
 refine cw_seq ?_
 refine cw_region ?_
 refine ol_val (v := V0_0) (xr_move rfl rfl) rfl rfl rfl ?_
 refine ol_val (v := .int .i64 (List.length a0 : Int)) (xr_lenR rfl Try.underlying43 rfl (R0_0.gr fB)) rfl rfl rfl ?_
 refine ol_val (v := .int .i64 0) (xr_move rfl rfl) rfl rfl rfl ?_
 refine ol_nil ?_
 obtain ⟨e3, l4, h5⟩ := bs h
 refine cw_mid (fun ρ' w' => ∃ x6, e3 = Sum.inr x6 ∧ Gr w w') ?_ ?_
 ·refine cw_block ?_
  refine cw_round (fun (s2 : Int) ρ' w' => ρ' 0 = V0_0 ∧ ρ' 1 = V1_0 ∧ ρ' 12 = .int .i64 (List.length a0 : Int) ∧ ρ' 13 = .int .i64 s2 ∧ Gr w w') l4 ?_ ?_
  ·skip
   exact ⟨rfl, rfl, rfl, rfl, fB⟩
  rintro s2 x9 ρ7 w8 ⟨e0, e1, e12, e13, fB⟩ h
  unfold slices_Equal.s0 at h
  refine cw_seq ?_
  refine cw_region ?_
  refine ol_val (v := .bool (decide (s2 < (List.length a0 : Int)))) (xr_lss rfl e13 e12) rfl rfl rfl ?_
  refine ol_nil ?_
  refine cw_seq ?_
  rcases is h with ⟨c10, h⟩ | ⟨c10, h⟩
  ·refine cw_condT rfl c10 ?_
   refine cw_skip ?_
   refine cw_seq ?_
   refine cw_block ?_
   refine cw_seq ?_
   refine cw_region ?_
   refine ol_val (v := .int .i64 s2) (xr_move rfl e13) rfl rfl rfl ?_
   refine ol_val (v := .int .i64 s2) (xr_assign rfl rfl) rfl rfl rfl ?_
   refine ol_nil ?_
   refine cw_seq ?_
   obtain ⟨g11, h⟩ := gs h
   obtain ⟨g12, h⟩ := gs h
   refine cw_drawL 8 [fun vz wz => vz = (V0_0 : Value), fun vz wz => vz = (.int .i64 s2 : Value), fun vz wz => vz = ((pt ((sb V0_0)) (so V0_0 + Int.toNat s2 * 1)) : Value), fun vz wz => vz = (.int .u8 (ix a0 s2) : Value), fun vz wz => vz = (V1_0 : Value), fun vz wz => vz = (.int .i64 s2 : Value), fun vz wz => vz = ((pt ((sb V1_0)) (so V1_0 + Int.toNat s2 * 1)) : Value), fun vz wz => vz = (.int .u8 (ix a1 s2) : Value)] mo rfl ⟨fun _ _ _ h _ => h, fun _ _ _ h _ => h, fun _ _ _ h _ => h, fun _ _ _ h _ => h, fun _ _ _ h _ => h, fun _ _ _ h _ => h, fun _ _ _ h _ => h, fun _ _ _ h _ => h, trivial⟩ ?_ ?_
   ·refine ⟨?_, ?_, ?_, ?_, ?_, ?_, ?_, ?_, trivial⟩
    ·intro ρz wz hz hk hd
     exact sk_val (v := V0_0) (xr_move rfl ((hk 0 rfl).trans e0)) rfl rfl
    ·intro ρz wz hz hk hd
     exact sk_val (v := .int .i64 s2) (xr_move rfl ((hk 5 rfl).trans rfl)) rfl rfl
    ·intro ρz wz hz hk hd
     exact sk_val (xr_indexR (K := (kI .u8)) (v := V0_0) rfl Try.underlying43 sz5 (hd 0 rfl 16 rfl) (R0_0.gr (fB.gr hz)) (hd 1 rfl 17 rfl) g11.1 g11.2) rfl rfl
    ·intro ρz wz hz hk hd
     exact sk_val (v := .int .u8 (ix a0 s2)) (xr_load1 (v := .int .u8 (ix a0 s2)) rfl ag5 (hd 2 rfl 18 rfl) ((R0_0.gr (fB.gr hz)).elem g11.1 g11.2)) rfl rfl
    ·intro ρz wz hz hk hd
     exact sk_val (v := V1_0) (xr_move rfl ((hk 1 rfl).trans e1)) rfl rfl
    ·intro ρz wz hz hk hd
     exact sk_val (v := .int .i64 s2) (xr_move rfl ((hk 5 rfl).trans rfl)) rfl rfl
    ·intro ρz wz hz hk hd
     exact sk_val (xr_indexR (K := (kI .u8)) (v := V1_0) rfl Try.underlying43 sz5 (hd 4 rfl 20 rfl) (R1_0.gr (fB.gr hz)) (hd 5 rfl 21 rfl) g12.1 g12.2) rfl rfl
    intro ρz wz hz hk hd
    exact sk_val (v := .int .u8 (ix a1 s2)) (xr_load1 (v := .int .u8 (ix a1 s2)) rfl ag5 (hd 6 rfl 22 rfl) ((R1_0.gr (fB.gr hz)).elem g12.1 g12.2)) rfl rfl
   intro ρ13 w14 q15 hk hd
   have e0 := (hk 0 rfl).trans e0
   have e1 := (hk 1 rfl).trans e1
   have e12 := (hk 12 rfl).trans e12
   have e13 := (hk 13 rfl).trans e13
   have e19 := hd 3 rfl 19 rfl
   have e23 := hd 7 rfl 23 rfl
   have fB := fB.gr q15
   refine ol_val (v := .bool (!decide ((ix a0 s2) = (ix a1 s2)))) (xr_neI rfl Try.underlying5 rfl e19 e23) rfl rfl rfl ?_
   refine ol_nil ?_
   rcases is h with ⟨c16, h⟩ | ⟨c16, h⟩
   ·refine cw_condT rfl c16 ?_
    refine cw_seq ?_
    refine cw_region ?_
    refine ol_val (v := .bool false) (xr_assign rfl rfl) rfl rfl rfl ?_
    refine ol_nil ?_
    refine cw_ret ?_
    repeat (first | with_reducible refine thn_r ?_ | with_reducible refine blk_r ?_)
    obtain rfl := Option.some.inj h
    refine lp_ret ?_
    rintro rfl
    repeat (first | with_reducible refine thn_r ?_ | with_reducible refine blk_r ?_)
    have h := h5
    obtain rfl := Option.some.inj h
    refine fin_ret1 Try.results110 rfl ?_
    exact ⟨_, rfl, rfl, fB⟩
   refine cw_condF rfl c16 ?_
   refine cw_skip ?_
   refine blk_i ?_
   refine cw_region ?_
   refine ol_val (v := .int .i64 (IntKind.i64.wrap (s2 + 1))) (xr_add rfl e13 rfl) rfl rfl rfl ?_
   refine ol_val (v := .int .i64 (IntKind.i64.wrap (s2 + 1))) (xr_move rfl rfl) rfl rfl rfl ?_
   refine ol_nil ?_
   obtain rfl := Option.some.inj h
   refine lp_in ?_
   exact ⟨e0, e1, e12, rfl, fB⟩
  refine cw_condF rfl c10 ?_
  refine cw_exit ?_
  repeat (first | with_reducible refine thn_e ?_ | with_reducible refine blk_e rfl ?_)
  obtain rfl := Option.some.inj h
  refine lp_exit ?_
  rintro rfl
  refine thn_x ?_
  exact ⟨_, rfl, fB⟩
 rintro ρ17 w18 ⟨x6, rfl, fB⟩
 have h := h5
 refine cw_seq ?_
 refine cw_region ?_
 refine ol_val (v := .bool true) (xr_assign rfl rfl) rfl rfl rfl ?_
 refine ol_nil ?_
 refine cw_ret ?_
 repeat (first | with_reducible refine thn_r ?_ | with_reducible refine blk_r ?_)
 obtain rfl := Option.some.inj h
 refine fin_ret1 Try.results110 rfl ?_
 exact ⟨_, rfl, rfl, fB⟩
def fate_Choose.s0 (fu : Nat) (a1 : List Int) (t14 : (List S_api_Fate)) : ((List Int) × Int × (List Int)) → Option (Sum (Sum ((List Int) × Bool) ((List Int) × (List Int))) ((List Int) × Int × (List Int))) := fun s23 => (if (decide (s23.2.1 < (List.length t14 : Int))) = true then (if 0 ≤ s23.2.1 ∧ s23.2.1 < (List.length t14 : Int) then (if (0 : Int) ≤ (IntKind.i64.wrap (((ix t14 s23.2.1).At) * 8)) ∧ (IntKind.i64.wrap (((ix t14 s23.2.1).At) * 8)) ≤ (IntKind.i64.wrap ((IntKind.i64.wrap (((ix t14 s23.2.1).At) * 8)) + 8)) ∧ (IntKind.i64.wrap ((IntKind.i64.wrap (((ix t14 s23.2.1).At) * 8)) + 8)) ≤ (List.length a1 : Int) then ((octet_Read.f fu (cut a1 (IntKind.i64.wrap (((ix t14 s23.2.1).At) * 8)) (IntKind.i64.wrap ((IntKind.i64.wrap (((ix t14 s23.2.1).At) * 8)) + 8)))).bind fun t60 => ((fate_choice.f fu (ix t14 s23.2.1) t60).bind fun t66 => (if (decide (t66 < 0)) = true then some (Sum.inl (Sum.inl ([], false))) else (if List.length s23.1 + List.length [t66] ≤ LIM then (if 0 ≤ (IntKind.i64.wrap (((ix t14 s23.2.1).At) * 8)) ∧ (IntKind.i64.wrap (((ix t14 s23.2.1).At) * 8)) ≤ (List.length s23.2.2 : Int) then (if Int.toNat (IntKind.i64.wrap (((ix t14 s23.2.1).At) * 8)) ≤ List.length s23.2.2 ∧ List.length s23.2.2 ≤ List.length s23.2.2 then some (Sum.inr ((s23.1 ++ [t66]), (IntKind.i64.wrap (s23.2.1 + 1)), (splL s23.2.2 (Int.toNat (IntKind.i64.wrap (((ix t14 s23.2.1).At) * 8))) (List.take (List.length s23.2.2 - Int.toNat (IntKind.i64.wrap (((ix t14 s23.2.1).At) * 8))) (cut a1 (IntKind.i64.wrap (((ix t14 s23.2.1).At) * 8)) (IntKind.i64.wrap ((IntKind.i64.wrap (((ix t14 s23.2.1).At) * 8)) + 8))))))) else none) else none) else none)))) else none) else none) else some (Sum.inl (Sum.inr (s23.1, s23.2.2))))
def fate_Choose.f (fu : Nat) (a0 : S_pmem_Device) (a1 : List Int) : Option ((List Int) × Bool) := ((pmem_Device_Image.f fu a0).bind fun t4 => (if (!decide ((List.length a1 : Int) = (List.length t4 : Int))) = true then some ([], false) else ((pmem_Device_Fates.f fu a0).bind fun t14 => ((loopM (fate_Choose.s0 fu a1 t14) fu ([], 0, t4)).bind fun e24 => match e24 with | Sum.inl p => some p | Sum.inr x27 => ((slices_Equal.f fu x27.2 a1).bind fun t107 => (if (!t107) = true then some ([], false) else some (x27.1, true)))))))
theorem fate_Choose.ok (fu : Nat) (w : World) (a0 : S_pmem_Device) (G_0 : Nat) (V0_0 : Value) (R0_0 : Rd k_pmem_cell w V0_0 a0.cells) (V0_1 : Value) (R0_1 : Rd (kI .i64) w V0_1 a0.plan.list) (b_0 : Blk w G_0 139 [Seg.cell V0_0 R0_0.one, Seg.cell V0_1 R0_1.one, (sI a0.plan.at_), Seg.cell (.bool a0.off), Seg.cell (.bool a0.armed), (sI a0.left), (sI a0.steps)]) (a1 : List Int) (V1_0 : Value) (R1_0 : Rd (kI .u8) w V1_0 a1) (r : (List Int) × Bool) (h : fate_Choose.f fu a0 a1 = some r) :
  Calls Try.prog 63 (([(pt G_0 0), V1_0] : List Value).toArray) w (fun e w' => ∃ v, e = .returned v ∧ ∃ u1 : Value, ∃ o2 : Own (kI .i64) 3 w' w.heap.size u1 r.1, v = .tuple #[u1, .bool r.2] ∧ Gr w w') := by
 unfold fate_Choose.f at h
 have fB : Gr w w := Fr.refl _ _
 refine calls_cw Try.func63 rfl Try.ntmps63 rfl ?_
 refine cw_seq ?_
 refine cw_region ?_
 refine ol_val (v := .slice none 0 0) (xr_assign rfl rfl) rfl rfl rfl ?_
 refine ol_val (v := .bool false) (xr_assign rfl rfl) rfl rfl rfl ?_
 refine ol_nil ?_
 refine cw_seq ?_
 refine cw_seq ?_
 refine cw_region ?_
 refine ol_val (v := (pt G_0 0)) (xr_move rfl rfl) rfl rfl rfl ?_
 refine ol_val (v := .bool false) (xr_eqP (b := false) rfl Try.underlying30 rfl rfl (by simp) (by simp)) rfl rfl rfl ?_
 refine ol_nil ?_
 refine cw_condF rfl rfl ?_
 refine cw_skip ?_
 refine cw_seq ?_
 refine cw_region ?_
 refine ol_val (v := (pt G_0 0)) (xr_move rfl rfl) rfl rfl rfl ?_
 obtain ⟨t4, k5, h⟩ := bs h
 refine ol_op (opv_call rfl cal33 (ac rfl an) (pmem_Device_Image.ok fu _ a0 G_0 V0_0 (R0_0) V0_1 (R0_1) b_0 _ k5)) rfl rfl rfl ?_
 rintro u6 w10 ⟨_, o7, rfl, q9⟩
 have a11 := OffRV.call R0_0 o7 rfl
 have a12 := OffRV.call R0_1 o7 rfl
 have o7 := Own.base o7 fB.size
 have b_0 := b_0.gr q9
 have R0_0 := R0_0.gr q9
 have R0_1 := R0_1.gr q9
 have fB := fB.gr q9
 refine ol_val (v := u6) (xr_assign rfl rfl) rfl rfl rfl ?_
 refine ol_nil ?_
 refine cw_seq ?_
 refine cw_seq ?_
 refine cw_region ?_
 refine ol_val (v := V1_0) (xr_move rfl rfl) rfl rfl rfl ?_
 refine ol_val (v := .int .i64 (List.length a1 : Int)) (xr_lenR rfl Try.underlying43 rfl (R1_0.gr fB)) rfl rfl rfl ?_
 refine ol_val (v := u6) (xr_move rfl rfl) rfl rfl rfl ?_
 refine ol_val (v := .int .i64 (List.length t4 : Int)) (xr_lenR rfl Try.underlying43 rfl o7.rd) rfl rfl rfl ?_
 refine ol_val (v := .bool (!decide ((List.length a1 : Int) = (List.length t4 : Int)))) (xr_neI rfl Try.underlying3 rfl rfl rfl) rfl rfl rfl ?_
 refine ol_nil ?_
 rcases is h with ⟨c13, h⟩ | ⟨c13, h⟩
 ·refine cw_condT rfl c13 ?_
  refine cw_seq ?_
  refine cw_region ?_
  refine ol_val (v := .slice none 0 0) (xr_assign rfl rfl) rfl rfl rfl ?_
  refine ol_val (v := .bool false) (xr_assign rfl rfl) rfl rfl rfl ?_
  refine ol_nil ?_
  refine cw_ret ?_
  repeat (first | with_reducible refine thn_r ?_ | with_reducible refine blk_r ?_)
  obtain rfl := Option.some.inj h
  refine fin_ret2 Try.results63 rfl rfl ?_
  exact ⟨_, rfl, (.slice none 0 0), Own.nil _ _ _ _, rfl, fB⟩
 refine cw_condF rfl c13 ?_
 refine cw_skip ?_
 refine cw_seq ?_
 refine cw_region ?_
 refine ol_val (v := .slice none 0 0) (xr_assign rfl rfl) rfl rfl rfl ?_
 refine ol_nil ?_
 refine cw_seq ?_
 refine cw_seq ?_
 refine cw_region ?_
 refine ol_val (v := (pt G_0 0)) (xr_move rfl rfl) rfl rfl rfl ?_
 obtain ⟨t14, k15, h⟩ := bs h
 refine ol_op (opv_call rfl cal40 (ac rfl an) (pmem_Device_Fates.ok fu _ a0 G_0 V0_0 (R0_0) V0_1 (R0_1) b_0 _ k15)) rfl rfl rfl ?_
 rintro u16 w20 ⟨_, o17, rfl, q19⟩
 have a21 := OffRV.call R0_0 o17 rfl
 have a22 := OffRV.call R0_1 o17 rfl
 have o17 := Own.base o17 fB.size
 have b_0 := b_0.gr q19
 have o7 := o7.gr q19
 have R0_0 := R0_0.gr q19
 have R0_1 := R0_1.gr q19
 have fB := fB.gr q19
 refine ol_val (v := .int .i64 (List.length t14 : Int)) (xr_lenR rfl Try.underlying52 rfl o17.rd) rfl rfl rfl ?_
 refine ol_val (v := .int .i64 0) (xr_move rfl rfl) rfl rfl rfl ?_
 refine ol_nil ?_
 obtain ⟨e24, l25, h26⟩ := bs h
 refine cw_mid (fun ρ' w' => ∃ x27, e24 = Sum.inr x27 ∧ ∃ v28 : Value, ∃ o7 : Own (kI .u8) 5 w' w.heap.size u6 x27.2, ∃ o29 : Own (kI .i64) 3 w' w.heap.size v28 x27.1, ∃ R0_0 : Rd k_pmem_cell w' V0_0 a0.cells, ∃ R0_1 : Rd (kI .i64) w' V0_1 a0.plan.list, OffRV V0_0 a0.cells v28 ∧ OffRV V0_1 a0.plan.list v28 ∧ ρ' 1 = V1_0 ∧ ρ' 6 = u6 ∧ ρ' 7 = v28 ∧ Blk w' G_0 139 [Seg.cell V0_0 R0_0.one, Seg.cell V0_1 R0_1.one, (sI a0.plan.at_), Seg.cell (.bool a0.off), Seg.cell (.bool a0.armed), (sI a0.left), (sI a0.steps)] ∧ Gr w w') ?_ ?_
 ·refine cw_block ?_
  refine cw_round (fun (s23 : (List Int) × Int × (List Int)) ρ' w' => ∃ v33 : Value, ∃ o7 : Own (kI .u8) 5 w' w.heap.size u6 s23.2.2, ∃ o17 : Own k_api_Fate 55 w' w.heap.size u16 t14, ∃ o34 : Own (kI .i64) 3 w' w.heap.size v33 s23.1, ∃ R0_0 : Rd k_pmem_cell w' V0_0 a0.cells, ∃ R0_1 : Rd (kI .i64) w' V0_1 a0.plan.list, OffRV V0_0 a0.cells v33 ∧ OffRV V0_1 a0.plan.list v33 ∧ ρ' 1 = V1_0 ∧ ρ' 6 = u6 ∧ ρ' 7 = v33 ∧ ρ' 22 = u16 ∧ ρ' 23 = .int .i64 (List.length t14 : Int) ∧ ρ' 24 = .int .i64 s23.2.1 ∧ Blk w' G_0 139 [Seg.cell V0_0 R0_0.one, Seg.cell V0_1 R0_1.one, (sI a0.plan.at_), Seg.cell (.bool a0.off), Seg.cell (.bool a0.armed), (sI a0.left), (sI a0.steps)] ∧ Gr w w') l25 ?_ ?_
  ·skip
   exact ⟨(.slice none 0 0), o7, o17, Own.nil _ _ _ _, R0_0, R0_1, (OffRV.nil _ _), (OffRV.nil _ _), rfl, rfl, rfl, rfl, rfl, rfl, b_0, fB⟩
  rintro s23 x40 ρ38 w39 ⟨v33, o7, o17, o34, R0_0, R0_1, a36, a37, e1, e6, e7, e22, e23, e24, b_0, fB⟩ h
  unfold fate_Choose.s0 at h
  refine cw_seq ?_
  refine cw_region ?_
  refine ol_val (v := .bool (decide (s23.2.1 < (List.length t14 : Int)))) (xr_lss rfl e24 e23) rfl rfl rfl ?_
  refine ol_nil ?_
  refine cw_seq ?_
  rcases is h with ⟨c41, h⟩ | ⟨c41, h⟩
  ·refine cw_condT rfl c41 ?_
   refine cw_skip ?_
   refine cw_seq ?_
   refine cw_block ?_
   refine cw_seq ?_
   refine cw_region ?_
   obtain ⟨g42, h⟩ := gs h
   refine ol_val (v := (pt ((sb u16)) (so u16 + Int.toNat s23.2.1 * 5))) (xr_indexR (K := k_api_Fate) (v := u16) rfl Try.underlying52 sz55 e22 o17.rd e24 g42.1 g42.2) rfl rfl rfl ?_
   refine ol_val (v := aggV [(sI ((ix t14 s23.2.1).At)), Seg.cell (.int .u64 ((ix t14 s23.2.1).Lasts)), Seg.cell (.bool ((ix t14 s23.2.1).Flushed)), Seg.cell (.int .u64 ((ix t14 s23.2.1).Sent)), Seg.cell (.int .u64 ((ix t14 s23.2.1).Stored))]) (xr_loadS (ss := [(sI ((ix t14 s23.2.1).At)), Seg.cell (.int .u64 ((ix t14 s23.2.1).Lasts)), Seg.cell (.bool ((ix t14 s23.2.1).Flushed)), Seg.cell (.int .u64 ((ix t14 s23.2.1).Sent)), Seg.cell (.int .u64 ((ix t14 s23.2.1).Stored))]) rfl ag55 sz55 rfl rfl (o17.rd.elem g42.1 g42.2)) rfl rfl rfl ?_
   refine ol_op (opv_alloc (ss := [(sI (0 : Int)), Seg.cell (.int .u64 (0 : Int)), Seg.cell (.bool false), Seg.cell (.int .u64 (0 : Int)), Seg.cell (.int .u64 (0 : Int))]) rfl ze55 rfl) rfl rfl rfl ?_
   rintro _ w48 ⟨G43, rfl, b44, q45, z46⟩
   have n49 := b_0.ne z46
   have a50 := Own.off_new o17 z46
   have a51 := OffR.new R0_0 z46 rfl
   have a52 := OffR.new R0_1 z46 rfl
   have z46 := Nat.le_trans fB.size z46
   have b_0 := b_0.gr q45
   have o7 := o7.gr q45
   have o17 := o17.gr q45
   have o34 := o34.gr q45
   have R0_0 := R0_0.gr q45
   have R0_1 := R0_1.gr q45
   have fB := fB.gr q45
   have f54 := off_ty b44 o7 (by decide)
   have f55 := a50
   have f56 := off_ty b44 o34 (by decide)
   refine ol_op0 (opv_store (ss' := [(sI ((ix t14 s23.2.1).At)), Seg.cell (.int .u64 ((ix t14 s23.2.1).Lasts)), Seg.cell (.bool ((ix t14 s23.2.1).Flushed)), Seg.cell (.int .u64 ((ix t14 s23.2.1).Sent)), Seg.cell (.int .u64 ((ix t14 s23.2.1).Stored))]) (xs := cellsOf [(sI ((ix t14 s23.2.1).At)), Seg.cell (.int .u64 ((ix t14 s23.2.1).Lasts)), Seg.cell (.bool ((ix t14 s23.2.1).Flushed)), Seg.cell (.int .u64 ((ix t14 s23.2.1).Sent)), Seg.cell (.int .u64 ((ix t14 s23.2.1).Stored))]) rfl sz55 rfl rfl rfl (len_cellsOf _) (one_cellsOf _) b44 (Spl.segs _ 0 5 [(sI ((ix t14 s23.2.1).At)), Seg.cell (.int .u64 ((ix t14 s23.2.1).Lasts)), Seg.cell (.bool ((ix t14 s23.2.1).Flushed)), Seg.cell (.int .u64 ((ix t14 s23.2.1).Sent)), Seg.cell (.int .u64 ((ix t14 s23.2.1).Stored))] rfl rfl)) rfl rfl ?_
   rintro _ w57 ⟨b44, q53⟩
   have b_0 := b_0.wr q53 n49
   have o7 := o7.wr q53 f54
   have o17 := o17.wr q53 f55
   have o34 := o34.wr q53 f56
   have R0_0 := R0_0.wr q53 a51
   have R0_1 := R0_1.wr q53 a52
   have fB := fB.wr q53 z46
   refine ol_nil ?_
   refine cw_seq ?_
   refine cw_region ?_
   refine ol_val (v := V1_0) (xr_move rfl e1) rfl rfl rfl ?_
   refine ol_val (v := (pt G43 0)) (xr_fieldAddr (p := 0) (q := 0) rfl fl55_0 rfl) rfl rfl rfl ?_
   refine ol_val (v := .int .i64 ((ix t14 s23.2.1).At)) (xr_load1 (v := .int .i64 ((ix t14 s23.2.1).At)) rfl ag3 rfl (b44.seg 0 rfl rfl)) rfl rfl rfl ?_
   refine ol_val (v := .int .i64 (IntKind.i64.wrap (((ix t14 s23.2.1).At) * 8))) (xr_mul rfl rfl rfl) rfl rfl rfl ?_
   refine ol_val (v := (pt G43 0)) (xr_fieldAddr (p := 0) (q := 0) rfl fl55_0 rfl) rfl rfl rfl ?_
   refine ol_val (v := .int .i64 ((ix t14 s23.2.1).At)) (xr_load1 (v := .int .i64 ((ix t14 s23.2.1).At)) rfl ag3 rfl (b44.seg 0 rfl rfl)) rfl rfl rfl ?_
   refine ol_val (v := .int .i64 (IntKind.i64.wrap (((ix t14 s23.2.1).At) * 8))) (xr_mul rfl rfl rfl) rfl rfl rfl ?_
   refine ol_val (v := .int .i64 (IntKind.i64.wrap ((IntKind.i64.wrap (((ix t14 s23.2.1).At) * 8)) + 8))) (xr_add rfl rfl rfl) rfl rfl rfl ?_
   obtain ⟨g59, h⟩ := gs h
   refine ol_val (v := subv 1 V1_0 (Int.toNat (IntKind.i64.wrap (((ix t14 s23.2.1).At) * 8))) (Int.toNat (IntKind.i64.wrap ((IntKind.i64.wrap (((ix t14 s23.2.1).At) * 8)) + 8)))) (xr_slice_lh (K := (kI .u8)) (v := V1_0) rfl Try.underlying43 sz5 rfl (R1_0.gr fB) rfl rfl g59.1 g59.2.1 g59.2.2) rfl rfl rfl ?_
   have r58 : Rd (kI .u8) w57 (subv 1 V1_0 (Int.toNat (IntKind.i64.wrap (((ix t14 s23.2.1).At) * 8))) (Int.toNat (IntKind.i64.wrap ((IntKind.i64.wrap (((ix t14 s23.2.1).At) * 8)) + 8)))) (cut a1 (IntKind.i64.wrap (((ix t14 s23.2.1).At) * 8)) (IntKind.i64.wrap ((IntKind.i64.wrap (((ix t14 s23.2.1).At) * 8)) + 8))) := (R1_0.gr fB).cut (lo := (IntKind.i64.wrap (((ix t14 s23.2.1).At) * 8))) (hi := (IntKind.i64.wrap ((IntKind.i64.wrap (((ix t14 s23.2.1).At) * 8)) + 8))) g59.1 g59.2.1 g59.2.2
   refine ol_val (v := subv 1 V1_0 (Int.toNat (IntKind.i64.wrap (((ix t14 s23.2.1).At) * 8))) (Int.toNat (IntKind.i64.wrap ((IntKind.i64.wrap (((ix t14 s23.2.1).At) * 8)) + 8)))) (xr_assign rfl rfl) rfl rfl rfl ?_
   refine ol_nil ?_
   refine cw_seq ?_
   obtain ⟨t60, k61, h⟩ := bs h
   refine cw_drawL 3 [fun vz wz => vz = (aggV [(sI ((ix t14 s23.2.1).At)), Seg.cell (.int .u64 ((ix t14 s23.2.1).Lasts)), Seg.cell (.bool ((ix t14 s23.2.1).Flushed)), Seg.cell (.int .u64 ((ix t14 s23.2.1).Sent)), Seg.cell (.int .u64 ((ix t14 s23.2.1).Stored))] : Value), fun vz wz => vz = (subv 1 V1_0 (Int.toNat (IntKind.i64.wrap (((ix t14 s23.2.1).At) * 8))) (Int.toNat (IntKind.i64.wrap ((IntKind.i64.wrap (((ix t14 s23.2.1).At) * 8)) + 8))) : Value), fun vz wz => vz = (.int .u64 t60 : Value)] mo rfl ⟨fun _ _ _ h _ => h, fun _ _ _ h _ => h, fun _ _ _ h _ => h, trivial⟩ ?_ ?_
   ·refine ⟨?_, ?_, ?_, trivial⟩
    ·intro ρz wz hz hk hd
     exact sk_val (xr_loadS (ss := [(sI ((ix t14 s23.2.1).At)), Seg.cell (.int .u64 ((ix t14 s23.2.1).Lasts)), Seg.cell (.bool ((ix t14 s23.2.1).Flushed)), Seg.cell (.int .u64 ((ix t14 s23.2.1).Sent)), Seg.cell (.int .u64 ((ix t14 s23.2.1).Stored))]) rfl ag55 sz55 rfl ((hk 9 rfl).trans rfl) ((b44.gr hz).segs 0 5 rfl)) rfl rfl
    ·intro ρz wz hz hk hd
     exact sk_val (xr_move rfl ((hk 10 rfl).trans rfl)) rfl rfl
    intro ρz wz hz hk hd
    refine sk_op (opv_call rfl cal109 (ac (hd 1 rfl 38 rfl) an) (octet_Read.ok fu _ (cut a1 (IntKind.i64.wrap (((ix t14 s23.2.1).At) * 8)) (IntKind.i64.wrap ((IntKind.i64.wrap (((ix t14 s23.2.1).At) * 8)) + 8))) (subv 1 V1_0 (Int.toNat (IntKind.i64.wrap (((ix t14 s23.2.1).At) * 8))) (Int.toNat (IntKind.i64.wrap ((IntKind.i64.wrap (((ix t14 s23.2.1).At) * 8)) + 8)))) (r58.gr hz) _ k61)) rfl ?_
    rintro _ wy ⟨rfl, q62⟩
    exact ⟨rfl, q62⟩
   intro ρ63 w64 q65 hk hd
   have e1 := (hk 1 rfl).trans e1
   have e6 := (hk 6 rfl).trans e6
   have e7 := (hk 7 rfl).trans e7
   have e9 := (hk 9 rfl).trans rfl
   have e10 := (hk 10 rfl).trans rfl
   have e22 := (hk 22 rfl).trans e22
   have e23 := (hk 23 rfl).trans e23
   have e24 := (hk 24 rfl).trans e24
   have e37 := hd 0 rfl 37 rfl
   have e39 := hd 2 rfl 39 rfl
   have b_0 := b_0.gr q65
   have b44 := b44.gr q65
   have o7 := o7.gr q65
   have o17 := o17.gr q65
   have o34 := o34.gr q65
   have R0_0 := R0_0.gr q65
   have R0_1 := R0_1.gr q65
   have r58 := r58.gr q65
   have fB := fB.gr q65
   obtain ⟨t66, k67, h⟩ := bs h
   refine ol_op (opv_call rfl cal108 (ac e37 (ac e39 an)) (fate_choice.ok fu _ (ix t14 s23.2.1) t60 _ k67)) rfl rfl rfl ?_
   rintro _ w69 ⟨rfl, q68⟩
   have b_0 := b_0.gr q68
   have b44 := b44.gr q68
   have o7 := o7.gr q68
   have o17 := o17.gr q68
   have o34 := o34.gr q68
   have R0_0 := R0_0.gr q68
   have R0_1 := R0_1.gr q68
   have r58 := r58.gr q68
   have fB := fB.gr q68
   refine ol_val (v := .int .i64 t66) (xr_assign rfl rfl) rfl rfl rfl ?_
   refine ol_nil ?_
   refine cw_seq ?_
   refine cw_seq ?_
   refine cw_region ?_
   refine ol_val (v := .int .i64 t66) (xr_move rfl rfl) rfl rfl rfl ?_
   refine ol_val (v := .bool (decide (t66 < 0))) (xr_lss rfl rfl rfl) rfl rfl rfl ?_
   refine ol_nil ?_
   rcases is h with ⟨c70, h⟩ | ⟨c70, h⟩
   ·refine cw_condT rfl c70 ?_
    refine cw_seq ?_
    refine cw_region ?_
    refine ol_val (v := .slice none 0 0) (xr_assign rfl rfl) rfl rfl rfl ?_
    refine ol_val (v := .bool false) (xr_assign rfl rfl) rfl rfl rfl ?_
    refine ol_nil ?_
    refine cw_ret ?_
    repeat (first | with_reducible refine thn_r ?_ | with_reducible refine blk_r ?_)
    obtain rfl := Option.some.inj h
    refine lp_ret ?_
    rintro rfl
    repeat (first | with_reducible refine thn_r ?_ | with_reducible refine blk_r ?_)
    have h := h26
    obtain rfl := Option.some.inj h
    refine fin_ret2 Try.results63 rfl rfl ?_
    exact ⟨_, rfl, (.slice none 0 0), Own.nil _ _ _ _, rfl, fB⟩
   refine cw_condF rfl c70 ?_
   refine cw_skip ?_
   refine cw_seq ?_
   refine cw_region ?_
   refine ol_val (v := v33) (xr_move rfl e7) rfl rfl rfl ?_
   refine ol_val (v := .int .i64 t66) (xr_move rfl rfl) rfl rfl rfl ?_
   refine ol_op (opv_buildSlice (K := (kI .i64)) (xs := [t66]) (vals := [.int .i64 t66]) rfl Try.underlying25 el3 rfl rfl ⟨rfl, rfl, trivial⟩ rfl rfl rfl fB.size) rfl rfl rfl ?_
   rintro v71 w76 ⟨o73, q72, z74⟩
   have a77 := OffV.new o34 z74
   have a78 := OffRV.new R0_0 z74 rfl
   have a79 := OffRV.new R0_1 z74 rfl
   have a80 := OffRV.new r58 z74 rfl
   have b_0 := b_0.gr q72
   have b44 := b44.gr q72
   have o7 := o7.gr q72
   have o17 := o17.gr q72
   have o34 := o34.gr q72
   have R0_0 := R0_0.gr q72
   have R0_1 := R0_1.gr q72
   have r58 := r58.gr q72
   have fB := fB.gr q72
   obtain ⟨g85, h⟩ := gs h
   have f87 := off_ty b_0 o34 (by decide)
   have f88 := off_ty b44 o34 (by decide)
   have f89 := OffV.ty o7 o34 (by decide)
   have f90 := OffV.ty o17 o34 (by decide)
   have f91 := o34.geO
   refine ol_op (opv_append (K := (kI .i64)) rfl Try.underlying25 el3 rfl rfl rfl rfl rfl o34 o73.rd g85 fB.size) rfl rfl rfl ?_
   rintro v81 w92 ⟨o82, q83, n84⟩
   have a93 := OffRV.app R0_0 a36 n84 rfl
   have a94 := OffRV.app R0_1 a37 n84 rfl
   have a95 := OffRV.app r58 (OffRV.cut (OffRV.call R1_0 o34 rfl)) n84 rfl
   have b_0 := b_0.wrO q83 f87
   have b44 := b44.wrO q83 f88
   have o7 := o7.wrV q83 f89
   have o17 := o17.wrV q83 f90
   have fB := fB.wrO q83 f91
   have R0_0 := R0_0.wrV q83 a36
   have R0_1 := R0_1.wrV q83 a37
   have r58 := r58.wrV q83 (OffRV.cut (OffRV.call R1_0 o34 rfl))
   refine ol_val (v := v81) (xr_assign rfl rfl) rfl rfl rfl ?_
   refine ol_nil ?_
   refine cw_region ?_
   refine ol_val (v := u6) (xr_move rfl e6) rfl rfl rfl ?_
   refine ol_val (v := (pt G43 0)) (xr_fieldAddr (p := 0) (q := 0) rfl fl55_0 e9) rfl rfl rfl ?_
   refine ol_val (v := .int .i64 ((ix t14 s23.2.1).At)) (xr_load1 (v := .int .i64 ((ix t14 s23.2.1).At)) rfl ag3 rfl (b44.seg 0 rfl rfl)) rfl rfl rfl ?_
   refine ol_val (v := .int .i64 (IntKind.i64.wrap (((ix t14 s23.2.1).At) * 8))) (xr_mul rfl rfl rfl) rfl rfl rfl ?_
   obtain ⟨g97, h⟩ := gs h
   refine ol_val (v := subv 1 u6 (Int.toNat (IntKind.i64.wrap (((ix t14 s23.2.1).At) * 8))) (List.length s23.2.2)) (xr_slice_l (K := (kI .u8)) (v := u6) rfl Try.underlying43 sz5 rfl o7.rd rfl g97.1 g97.2) rfl rfl rfl ?_
   have r96 : Rd (kI .u8) w92 (subv 1 u6 (Int.toNat (IntKind.i64.wrap (((ix t14 s23.2.1).At) * 8))) (List.length s23.2.2)) (cut s23.2.2 (IntKind.i64.wrap (((ix t14 s23.2.1).At) * 8)) (List.length s23.2.2 : Int)) := o7.rd.cut (lo := (IntKind.i64.wrap (((ix t14 s23.2.1).At) * 8))) (hi := (List.length s23.2.2 : Int)) g97.1 g97.2 (Int.le_refl _)
   refine ol_val (v := subv 1 V1_0 (Int.toNat (IntKind.i64.wrap (((ix t14 s23.2.1).At) * 8))) (Int.toNat (IntKind.i64.wrap ((IntKind.i64.wrap (((ix t14 s23.2.1).At) * 8)) + 8)))) (xr_move rfl e10) rfl rfl rfl ?_
   obtain ⟨g99, h⟩ := gs h
   have f100 := off_ty b_0 o7 (by decide)
   have f101 := OffV.ty o17 o7 (by decide)
   have f102 := OffV.ty o82 o7 (by decide)
   have f103 := o7.geO
   refine ol_op (opv_copyCut rfl Try.underlying43 sz5 rfl rfl rfl rfl o7 g99.1 g99.2 r58) rfl rfl rfl ?_
   rintro _ w104 ⟨rfl, o7, q98⟩
   have b_0 := b_0.wrO q98 f100
   have o17 := o17.wrV q98 f101
   have o82 := o82.wrV q98 f102
   have fB := fB.wrO q98 f103
   have R0_0 := R0_0.wrV q98 a11
   have R0_1 := R0_1.wrV q98 a12
   refine ol_nil ?_
   refine blk_i ?_
   refine cw_region ?_
   refine ol_val (v := .int .i64 (IntKind.i64.wrap (s23.2.1 + 1))) (xr_add rfl e24 rfl) rfl rfl rfl ?_
   refine ol_val (v := .int .i64 (IntKind.i64.wrap (s23.2.1 + 1))) (xr_move rfl rfl) rfl rfl rfl ?_
   refine ol_nil ?_
   obtain rfl := Option.some.inj h
   refine lp_in ?_
   exact ⟨v81, o7, o17, o82, R0_0, R0_1, a93, a94, e1, e6, rfl, e22, e23, rfl, b_0, fB⟩
  refine cw_condF rfl c41 ?_
  refine cw_exit ?_
  repeat (first | with_reducible refine thn_e ?_ | with_reducible refine blk_e rfl ?_)
  obtain rfl := Option.some.inj h
  refine lp_exit ?_
  rintro rfl
  refine thn_x ?_
  exact ⟨_, rfl, v33, o7, o34, R0_0, R0_1, a36, a37, e1, e6, e7, b_0, fB⟩
 rintro ρ105 w106 ⟨x27, rfl, v28, o7, o29, R0_0, R0_1, a31, a32, e1, e6, e7, b_0, fB⟩
 have h := h26
 refine cw_seq ?_
 refine cw_seq ?_
 refine cw_region ?_
 refine ol_val (v := u6) (xr_move rfl e6) rfl rfl rfl ?_
 refine ol_val (v := V1_0) (xr_move rfl e1) rfl rfl rfl ?_
 obtain ⟨t107, k108, h⟩ := bs h
 refine ol_op (opv_call rfl cal110 (ac rfl (ac rfl an)) (slices_Equal.ok fu _ x27.2 u6 (o7.rd) a1 V1_0 (R1_0.gr fB) _ k108)) rfl rfl rfl ?_
 rintro _ w110 ⟨rfl, q109⟩
 have b_0 := b_0.gr q109
 have o29 := o29.gr q109
 have R0_0 := R0_0.gr q109
 have R0_1 := R0_1.gr q109
 have fB := fB.gr q109
 refine ol_val (v := .bool (!t107)) (xr_not rfl rfl) rfl rfl rfl ?_
 refine ol_nil ?_
 rcases is h with ⟨c111, h⟩ | ⟨c111, h⟩
 ·refine cw_condT rfl c111 ?_
  refine cw_seq ?_
  refine cw_region ?_
  refine ol_val (v := .slice none 0 0) (xr_assign rfl rfl) rfl rfl rfl ?_
  refine ol_val (v := .bool false) (xr_assign rfl rfl) rfl rfl rfl ?_
  refine ol_nil ?_
  refine cw_ret ?_
  repeat (first | with_reducible refine thn_r ?_ | with_reducible refine blk_r ?_)
  obtain rfl := Option.some.inj h
  refine fin_ret2 Try.results63 rfl rfl ?_
  exact ⟨_, rfl, (.slice none 0 0), Own.nil _ _ _ _, rfl, fB⟩
 refine cw_condF rfl c111 ?_
 refine cw_skip ?_
 refine cw_seq ?_
 refine cw_region ?_
 refine ol_val (v := v28) (xr_move rfl e7) rfl rfl rfl ?_
 refine ol_val (v := v28) (xr_assign rfl rfl) rfl rfl rfl ?_
 refine ol_val (v := .bool true) (xr_assign rfl rfl) rfl rfl rfl ?_
 refine ol_nil ?_
 refine cw_ret ?_
 repeat (first | with_reducible refine thn_r ?_ | with_reducible refine blk_r ?_)
 obtain rfl := Option.some.inj h
 refine fin_ret2 Try.results63 rfl rfl ?_
 exact ⟨_, rfl, v28, o29, rfl, fB⟩
def rickyardlaw06_awake.f (fu : Nat) : Option Bool := ((pmem_New.f fu 1).bind fun t1 => (Option.elim t1.1 (some (false)) (fun m8 => ((pmem_Device_Store.f fu m8 0 5).bind fun t19 => ((pmem_Device_Flush.f fu t19.2 0).bind fun t32 => ((pmem_Device_Store.f fu t32.2 0 6).bind fun t45 => (if List.length [6] + 63 ≤ LIM then ((fate_Choose.f fu t45.2 ([6] ++ List.replicate 63 (0 : Int))).bind fun t75 => ((((fate_Count.f fu t45.2).bind fun t85 => (if (decide (t85 = 3)) = true then (if t75.2 = true then (if (decide ((List.length t75.1 : Int) = 8)) = true then (if (0 : Int) < (List.length t75.1 : Int) then (if (decide ((ix t75.1 0) = 2)) = true then (if (1 : Int) < (List.length t75.1 : Int) then some ((decide ((ix t75.1 1) = 0))) else none) else some (false)) else none) else some (false)) else some (false)) else some (false))) : Option Bool).bind fun x83 => some (x83))) else none)))))))
theorem rickyardlaw06_awake.ok (fu : Nat) (w : World)  (r : Bool) (h : rickyardlaw06_awake.f fu = some r) :
  Calls Try.prog 49 (([] : List Value).toArray) w (fun e w' => ∃ v, e = .returned v ∧ v = .bool r ∧ Gr w w') := by
 unfold rickyardlaw06_awake.f at h
 have fB : Gr w w := Fr.refl _ _
 refine calls_cw Try.func49 rfl Try.ntmps49 rfl ?_
 refine cw_seq ?_
 refine cw_region ?_
 refine ol_val (v := .bool false) (xr_assign rfl rfl) rfl rfl rfl ?_
 refine ol_nil ?_
 refine cw_seq ?_
 refine cw_region ?_
 obtain ⟨t1, k2, h⟩ := bs h
 refine ol_op (opv_call rfl cal26 (ac rfl an) (pmem_New.ok fu _ 1 _ k2)) rfl rfl rfl ?_
 rintro _ w6 ⟨u3, p4, rfl, q5⟩
 rcases en h with ⟨e7, h⟩ | ⟨m8, e7, h⟩
 ·obtain rfl := p4.1 e7
  have fB := fB.gr q5
  refine ol_val (v := .tuple #[.pointer none, .int .i64 t1.2]) (xr_move rfl rfl) rfl rfl rfl ?_
  refine ol_val (v := .pointer none) (xr_extract rfl rfl rfl) rfl rfl rfl ?_
  refine ol_val (v := .int .i64 t1.2) (xr_extract rfl rfl rfl) rfl rfl rfl ?_
  refine ol_val (v := .pointer none) (xr_assign rfl rfl) rfl rfl rfl ?_
  refine ol_val (v := .int .i64 t1.2) (xr_assign rfl rfl) rfl rfl rfl ?_
  refine ol_nil ?_
  refine cw_seq ?_
  refine cw_seq ?_
  refine cw_region ?_
  refine ol_val (v := .pointer none) (xr_move rfl rfl) rfl rfl rfl ?_
  refine ol_val (v := .bool true) (xr_eqP (b := true) rfl Try.underlying30 rfl rfl (by simp) (by simp)) rfl rfl rfl ?_
  refine ol_nil ?_
  refine cw_condT rfl rfl ?_
  refine cw_seq ?_
  refine cw_region ?_
  refine ol_val (v := .bool false) (xr_assign rfl rfl) rfl rfl rfl ?_
  refine ol_nil ?_
  refine cw_ret ?_
  repeat (first | with_reducible refine thn_r ?_ | with_reducible refine blk_r ?_)
  obtain rfl := Option.some.inj h
  refine fin_ret1 Try.results49 rfl ?_
  exact ⟨_, rfl, rfl, fB⟩
 obtain ⟨G9, u13, u16, o14, o17, rfl, z10, b11⟩ := p4.2 _ e7
 have o14 := Own.base o14 fB.size
 have o17 := Own.base o17 fB.size
 have z10 := Nat.le_trans fB.size z10
 have fB := fB.gr q5
 refine ol_val (v := .tuple #[(pt G9 0), .int .i64 t1.2]) (xr_move rfl rfl) rfl rfl rfl ?_
 refine ol_val (v := (pt G9 0)) (xr_extract rfl rfl rfl) rfl rfl rfl ?_
 refine ol_val (v := .int .i64 t1.2) (xr_extract rfl rfl rfl) rfl rfl rfl ?_
 refine ol_val (v := (pt G9 0)) (xr_assign rfl rfl) rfl rfl rfl ?_
 refine ol_val (v := .int .i64 t1.2) (xr_assign rfl rfl) rfl rfl rfl ?_
 refine ol_nil ?_
 refine cw_seq ?_
 refine cw_seq ?_
 refine cw_region ?_
 refine ol_val (v := (pt G9 0)) (xr_move rfl rfl) rfl rfl rfl ?_
 refine ol_val (v := .bool false) (xr_eqP (b := false) rfl Try.underlying30 rfl rfl (by simp) (by simp)) rfl rfl rfl ?_
 refine ol_nil ?_
 refine cw_condF rfl rfl ?_
 refine cw_skip ?_
 refine cw_seq ?_
 refine cw_region ?_
 refine ol_val (v := (pt G9 0)) (xr_move rfl rfl) rfl rfl rfl ?_
 obtain ⟨t19, k20, h⟩ := bs h
 have c30 : ∀ k, (k = G9 ∨ some k = Value.ownBlock u13 ∨ some k = Value.ownBlock u16) → w.heap.size ≤ k := (cv_or (cv_eq z10) (cv_or (cv_own o14.geO) (cv_own o17.geO)))
 refine ol_op (opv_call rfl cal28 (ac rfl (ac rfl (ac rfl an))) (pmem_Device_Store.ok fu _ m8 G9 u13 (Own.base o14 (Nat.zero_le _)) u16 (Own.base o17 (Nat.zero_le _)) b11 0 5 _ k20)) rfl rfl rfl ?_
 rintro _ w31 ⟨u22, u26, o23, m24, o27, m28, rfl, b11, q21⟩
 have o23 := Own.rebase o23 (fun g hg => (m24 g hg).elim (fun x => Nat.le_trans fB.size x) (c30 g))
 have o27 := Own.rebase o27 (fun g hg => (m28 g hg).elim (fun x => Nat.le_trans fB.size x) (c30 g))
 have fB := fB.call q21 (fun k h => .inl (c30 k h))
 refine ol_nil ?_
 refine cw_seq ?_
 refine cw_region ?_
 refine ol_val (v := (pt G9 0)) (xr_move rfl rfl) rfl rfl rfl ?_
 obtain ⟨t32, k33, h⟩ := bs h
 have c43 : ∀ k, (k = G9 ∨ some k = Value.ownBlock u22 ∨ some k = Value.ownBlock u26) → w.heap.size ≤ k := (cv_or (cv_eq z10) (cv_or (cv_own o23.geO) (cv_own o27.geO)))
 refine ol_op (opv_call rfl cal29 (ac rfl (ac rfl an)) (pmem_Device_Flush.ok fu _ t19.2 G9 u22 (Own.base o23 (Nat.zero_le _)) u26 (Own.base o27 (Nat.zero_le _)) b11 0 _ k33)) rfl rfl rfl ?_
 rintro _ w44 ⟨u35, u39, o36, m37, o40, m41, rfl, b11, q34⟩
 have o36 := Own.rebase o36 (fun g hg => (m37 g hg).elim (fun x => Nat.le_trans fB.size x) (c43 g))
 have o40 := Own.rebase o40 (fun g hg => (m41 g hg).elim (fun x => Nat.le_trans fB.size x) (c43 g))
 have fB := fB.call q34 (fun k h => .inl (c43 k h))
 refine ol_nil ?_
 refine cw_seq ?_
 refine cw_region ?_
 refine ol_val (v := (pt G9 0)) (xr_move rfl rfl) rfl rfl rfl ?_
 obtain ⟨t45, k46, h⟩ := bs h
 have c56 : ∀ k, (k = G9 ∨ some k = Value.ownBlock u35 ∨ some k = Value.ownBlock u39) → w.heap.size ≤ k := (cv_or (cv_eq z10) (cv_or (cv_own o36.geO) (cv_own o40.geO)))
 refine ol_op (opv_call rfl cal28 (ac rfl (ac rfl (ac rfl an))) (pmem_Device_Store.ok fu _ t32.2 G9 u35 (Own.base o36 (Nat.zero_le _)) u39 (Own.base o40 (Nat.zero_le _)) b11 0 6 _ k46)) rfl rfl rfl ?_
 rintro _ w57 ⟨u48, u52, o49, m50, o53, m54, rfl, b11, q47⟩
 have o49 := Own.rebase o49 (fun g hg => (m50 g hg).elim (fun x => Nat.le_trans fB.size x) (c56 g))
 have o53 := Own.rebase o53 (fun g hg => (m54 g hg).elim (fun x => Nat.le_trans fB.size x) (c56 g))
 have fB := fB.call q47 (fun k h => .inl (c56 k h))
 refine ol_nil ?_
 refine cw_seq ?_
 refine cw_region ?_
 refine ol_val (v := (pt G9 0)) (xr_move rfl rfl) rfl rfl rfl ?_
 refine ol_op (opv_buildSlice (K := (kI .u8)) (xs := [6]) (vals := [.int .u8 6]) rfl Try.underlying43 el5 rfl rfl ⟨rfl, rfl, trivial⟩ rfl rfl rfl fB.size) rfl rfl rfl ?_
 rintro v58 w63 ⟨o60, q59, z61⟩
 have b11 := b11.gr q59
 have o49 := o49.gr q59
 have o53 := o53.gr q59
 have fB := fB.gr q59
 obtain ⟨g68, h⟩ := gs h
 have f70 := off_ty b11 o60 (by decide)
 have f71 := OffV.ty o49 o60 (by decide)
 have f72 := OffV.ty o53 o60 (by decide)
 have f73 := o60.geO
 refine ol_op (opv_appendZ (n := 63) rfl Try.underlying43 Try.underlying3 el5 rfl rfl rfl o60 rfl g68 fB.size) rfl rfl rfl ?_
 rintro v64 w74 ⟨o65, q66, n67⟩
 have b11 := b11.wrO q66 f70
 have o49 := o49.wrV q66 f71
 have o53 := o53.wrV q66 f72
 have fB := fB.wrO q66 f73
 obtain ⟨t75, k76, h⟩ := bs h
 refine ol_op (opv_call rfl cal63 (ac rfl (ac rfl an)) (fate_Choose.ok fu _ t45.2 G9 u48 (o49.rd) u52 (o53.rd) b11 ([6] ++ List.replicate 63 (0 : Int)) v64 (o65.rd) _ k76)) rfl rfl rfl ?_
 rintro _ w81 ⟨u77, o78, rfl, q80⟩
 have a82 := OffV.call o53 o78
 have o78 := Own.base o78 fB.size
 have b11 := b11.gr q80
 have o49 := o49.gr q80
 have o53 := o53.gr q80
 have fB := fB.gr q80
 refine ol_val (v := .tuple #[u77, .bool t75.2]) (xr_move rfl rfl) rfl rfl rfl ?_
 refine ol_val (v := u77) (xr_extract rfl rfl rfl) rfl rfl rfl ?_
 refine ol_val (v := .bool t75.2) (xr_extract rfl rfl rfl) rfl rfl rfl ?_
 refine ol_val (v := u77) (xr_assign rfl rfl) rfl rfl rfl ?_
 refine ol_val (v := .bool t75.2) (xr_assign rfl rfl) rfl rfl rfl ?_
 refine ol_nil ?_
 refine cw_seq ?_
 obtain ⟨x83, j84, h⟩ := bs h
 refine cw_mid (fun ρ' w' => ρ' 0 = .bool x83 ∧ Gr w81 w') ?_ ?_
 ·skip
  refine cw_region ?_
  refine ol_val (v := (pt G9 0)) (xr_move rfl rfl) rfl rfl rfl ?_
  obtain ⟨t85, k86, j84⟩ := bs j84
  refine ol_op (opv_call rfl cal61 (ac rfl an) (fate_Count.ok fu _ t45.2 G9 u48 (o49.rd) u52 (o53.rd) b11 _ k86)) rfl rfl rfl ?_
  rintro _ w88 ⟨rfl, q87⟩
  have o78 := o78.gr q87
  have fB := fB.gr q87
  refine ol_val (v := .bool (decide (t85 = 3))) (xr_eqI rfl Try.underlying3 rfl rfl rfl) rfl rfl rfl ?_
  refine ol_val (v := .bool (decide (t85 = 3))) (xr_move rfl rfl) rfl rfl rfl ?_
  rcases is j84 with ⟨c89, j84⟩ | ⟨c89, j84⟩
  ·skip
   refine ol_gval (v := .bool t75.2) (xr_move rfl rfl) rfl rfl rfl rfl rfl c89 ?_
   refine ol_val (v := .bool t75.2) (xr_pickT rfl rfl c89 rfl) rfl rfl rfl ?_
   refine ol_val (v := .bool t75.2) (xr_move rfl rfl) rfl rfl rfl ?_
   rcases is j84 with ⟨c90, j84⟩ | ⟨c90, j84⟩
   ·skip
    refine ol_gval (v := u77) (xr_move rfl rfl) rfl rfl rfl rfl rfl c90 ?_
    refine ol_gval (v := .int .i64 (List.length t75.1 : Int)) (xr_lenR rfl Try.underlying25 rfl o78.rd) rfl rfl rfl rfl rfl c90 ?_
    refine ol_gval (v := .bool (decide ((List.length t75.1 : Int) = 8))) (xr_eqI rfl Try.underlying3 rfl rfl rfl) rfl rfl rfl rfl rfl c90 ?_
    refine ol_val (v := .bool (decide ((List.length t75.1 : Int) = 8))) (xr_pickT rfl rfl c90 rfl) rfl rfl rfl ?_
    refine ol_val (v := .bool (decide ((List.length t75.1 : Int) = 8))) (xr_move rfl rfl) rfl rfl rfl ?_
    rcases is j84 with ⟨c91, j84⟩ | ⟨c91, j84⟩
    ·skip
     refine ol_gval (v := u77) (xr_move rfl rfl) rfl rfl rfl rfl rfl c91 ?_
     obtain ⟨g92, j84⟩ := gs j84
     refine ol_gval (v := (pt ((sb u77)) (so u77 + Int.toNat 0 * 1))) (xr_indexR (K := (kI .i64)) (v := u77) rfl Try.underlying25 sz3 rfl o78.rd rfl (by decide) g92) rfl rfl rfl rfl rfl c91 ?_
     refine ol_gval (v := .int .i64 (ix t75.1 0)) (xr_load1 (v := .int .i64 (ix t75.1 0)) rfl ag3 rfl (o78.rd.elem (by decide) g92)) rfl rfl rfl rfl rfl c91 ?_
     refine ol_gval (v := .bool (decide ((ix t75.1 0) = 2))) (xr_eqI rfl Try.underlying3 rfl rfl rfl) rfl rfl rfl rfl rfl c91 ?_
     refine ol_val (v := .bool (decide ((ix t75.1 0) = 2))) (xr_pickT rfl rfl c91 rfl) rfl rfl rfl ?_
     refine ol_val (v := .bool (decide ((ix t75.1 0) = 2))) (xr_move rfl rfl) rfl rfl rfl ?_
     rcases is j84 with ⟨c93, j84⟩ | ⟨c93, j84⟩
     ·skip
      refine ol_gval (v := u77) (xr_move rfl rfl) rfl rfl rfl rfl rfl c93 ?_
      obtain ⟨g94, j84⟩ := gs j84
      refine ol_gval (v := (pt ((sb u77)) (so u77 + Int.toNat 1 * 1))) (xr_indexR (K := (kI .i64)) (v := u77) rfl Try.underlying25 sz3 rfl o78.rd rfl (by decide) g94) rfl rfl rfl rfl rfl c93 ?_
      refine ol_gval (v := .int .i64 (ix t75.1 1)) (xr_load1 (v := .int .i64 (ix t75.1 1)) rfl ag3 rfl (o78.rd.elem (by decide) g94)) rfl rfl rfl rfl rfl c93 ?_
      refine ol_gval (v := .bool (decide ((ix t75.1 1) = 0))) (xr_eqI rfl Try.underlying3 rfl rfl rfl) rfl rfl rfl rfl rfl c93 ?_
      refine ol_val (v := .bool (decide ((ix t75.1 1) = 0))) (xr_pickT rfl rfl c93 rfl) rfl rfl rfl ?_
      refine ol_val (v := .bool (decide ((ix t75.1 1) = 0))) (xr_assign rfl rfl) rfl rfl rfl ?_
      refine ol_nil ?_
      obtain rfl := Option.some.inj j84
      refine thn_i ?_
      exact ⟨rfl, q87⟩
     refine ol_gskip rfl rfl rfl rfl rfl c93 ?_
     refine ol_gskip rfl rfl rfl rfl rfl c93 ?_
     refine ol_gskip rfl rfl rfl rfl rfl c93 ?_
     refine ol_gskip rfl rfl rfl rfl rfl c93 ?_
     refine ol_val (v := .bool false) (xr_pickF rfl rfl c93 rfl) rfl rfl rfl ?_
     refine ol_val (v := .bool false) (xr_assign rfl rfl) rfl rfl rfl ?_
     refine ol_nil ?_
     obtain rfl := Option.some.inj j84
     refine thn_i ?_
     exact ⟨rfl, q87⟩
    refine ol_gskip rfl rfl rfl rfl rfl c91 ?_
    refine ol_gskip rfl rfl rfl rfl rfl c91 ?_
    refine ol_gskip rfl rfl rfl rfl rfl c91 ?_
    refine ol_gskip rfl rfl rfl rfl rfl c91 ?_
    refine ol_val (v := .bool false) (xr_pickF rfl rfl c91 rfl) rfl rfl rfl ?_
    refine ol_val (v := .bool false) (xr_move rfl rfl) rfl rfl rfl ?_
    refine ol_gskip rfl rfl rfl rfl rfl rfl ?_
    refine ol_gskip rfl rfl rfl rfl rfl rfl ?_
    refine ol_gskip rfl rfl rfl rfl rfl rfl ?_
    refine ol_gskip rfl rfl rfl rfl rfl rfl ?_
    refine ol_val (v := .bool false) (xr_pickF rfl rfl rfl rfl) rfl rfl rfl ?_
    refine ol_val (v := .bool false) (xr_assign rfl rfl) rfl rfl rfl ?_
    refine ol_nil ?_
    obtain rfl := Option.some.inj j84
    refine thn_i ?_
    exact ⟨rfl, q87⟩
   refine ol_gskip rfl rfl rfl rfl rfl c90 ?_
   refine ol_gskip rfl rfl rfl rfl rfl c90 ?_
   refine ol_gskip rfl rfl rfl rfl rfl c90 ?_
   refine ol_val (v := .bool false) (xr_pickF rfl rfl c90 rfl) rfl rfl rfl ?_
   refine ol_val (v := .bool false) (xr_move rfl rfl) rfl rfl rfl ?_
   refine ol_gskip rfl rfl rfl rfl rfl rfl ?_
   refine ol_gskip rfl rfl rfl rfl rfl rfl ?_
   refine ol_gskip rfl rfl rfl rfl rfl rfl ?_
   refine ol_gskip rfl rfl rfl rfl rfl rfl ?_
   refine ol_val (v := .bool false) (xr_pickF rfl rfl rfl rfl) rfl rfl rfl ?_
   refine ol_val (v := .bool false) (xr_move rfl rfl) rfl rfl rfl ?_
   refine ol_gskip rfl rfl rfl rfl rfl rfl ?_
   refine ol_gskip rfl rfl rfl rfl rfl rfl ?_
   refine ol_gskip rfl rfl rfl rfl rfl rfl ?_
   refine ol_gskip rfl rfl rfl rfl rfl rfl ?_
   refine ol_val (v := .bool false) (xr_pickF rfl rfl rfl rfl) rfl rfl rfl ?_
   refine ol_val (v := .bool false) (xr_assign rfl rfl) rfl rfl rfl ?_
   refine ol_nil ?_
   obtain rfl := Option.some.inj j84
   refine thn_i ?_
   exact ⟨rfl, q87⟩
  refine ol_gskip rfl rfl rfl rfl rfl c89 ?_
  refine ol_val (v := .bool false) (xr_pickF rfl rfl c89 rfl) rfl rfl rfl ?_
  refine ol_val (v := .bool false) (xr_move rfl rfl) rfl rfl rfl ?_
  refine ol_gskip rfl rfl rfl rfl rfl rfl ?_
  refine ol_gskip rfl rfl rfl rfl rfl rfl ?_
  refine ol_gskip rfl rfl rfl rfl rfl rfl ?_
  refine ol_val (v := .bool false) (xr_pickF rfl rfl rfl rfl) rfl rfl rfl ?_
  refine ol_val (v := .bool false) (xr_move rfl rfl) rfl rfl rfl ?_
  refine ol_gskip rfl rfl rfl rfl rfl rfl ?_
  refine ol_gskip rfl rfl rfl rfl rfl rfl ?_
  refine ol_gskip rfl rfl rfl rfl rfl rfl ?_
  refine ol_gskip rfl rfl rfl rfl rfl rfl ?_
  refine ol_val (v := .bool false) (xr_pickF rfl rfl rfl rfl) rfl rfl rfl ?_
  refine ol_val (v := .bool false) (xr_move rfl rfl) rfl rfl rfl ?_
  refine ol_gskip rfl rfl rfl rfl rfl rfl ?_
  refine ol_gskip rfl rfl rfl rfl rfl rfl ?_
  refine ol_gskip rfl rfl rfl rfl rfl rfl ?_
  refine ol_gskip rfl rfl rfl rfl rfl rfl ?_
  refine ol_val (v := .bool false) (xr_pickF rfl rfl rfl rfl) rfl rfl rfl ?_
  refine ol_val (v := .bool false) (xr_assign rfl rfl) rfl rfl rfl ?_
  refine ol_nil ?_
  obtain rfl := Option.some.inj j84
  refine thn_i ?_
  exact ⟨rfl, q87⟩
 rintro ρ95 w96 ⟨e0, q97⟩
 have fB := fB.gr q97
 refine cw_ret ?_
 repeat (first | with_reducible refine thn_r ?_ | with_reducible refine blk_r ?_)
 obtain rfl := Option.some.inj h
 refine fin_ret1 Try.results49 e0 ?_
 exact ⟨_, rfl, rfl, fB⟩
def rickyardlaw05_Small.s0 (fu : Nat) (a0 : List S_rickyardlaw05_Act) : Int → Option (Sum (Sum Bool Unit) Int) := fun s2 => (if (decide (s2 < (List.length a0 : Int))) = true then (if 0 ≤ s2 ∧ s2 < (List.length a0 : Int) then (if (decide ((List.length ((ix a0 s2).L) : Int) > 40)) = true then some (Sum.inl (Sum.inl (false))) else some (Sum.inr ((IntKind.i64.wrap (s2 + 1))))) else none) else some (Sum.inl (Sum.inr ())))
def rickyardlaw05_Small.f (fu : Nat) (a0 : List S_rickyardlaw05_Act) (a1 : Int) : Option Bool := (if (decide ((List.length a0 : Int) > a1)) = true then some (false) else ((loopM (rickyardlaw05_Small.s0 fu a0) fu (0)).bind fun e3 => match e3 with | Sum.inl p => some p | Sum.inr x6 => some (true)))
theorem rickyardlaw05_Small.ok (fu : Nat) (w : World) (a0 : List S_rickyardlaw05_Act) (V0_0 : Value) (R0_0 : RdN 4 D_rickyardlaw05_Act w V0_0 a0) (a1 : Int) (r : Bool) (h : rickyardlaw05_Small.f fu a0 a1 = some r) :
  Calls Try.prog 25 (([V0_0, .int .i64 a1] : List Value).toArray) w (fun e w' => ∃ v, e = .returned v ∧ v = .bool r ∧ Gr w w') := by
 unfold rickyardlaw05_Small.f at h
 have fB : Gr w w := Fr.refl _ _
 refine calls_cw Try.func25 rfl Try.ntmps25 rfl ?_
 refine cw_seq ?_
 refine cw_region ?_
 refine ol_val (v := .bool false) (xr_assign rfl rfl) rfl rfl rfl ?_
 refine ol_nil ?_
 refine cw_seq ?_
 refine cw_seq ?_
 refine cw_region ?_
 refine ol_val (v := V0_0) (xr_move rfl rfl) rfl rfl rfl ?_
 refine ol_val (v := .int .i64 (List.length a0 : Int)) (xr_lenN rfl Try.underlying24 rfl (RdN.gr R0_0 D_rickyardlaw05_Act.gr fB)) rfl rfl rfl ?_
 refine ol_val (v := .int .i64 a1) (xr_move rfl rfl) rfl rfl rfl ?_
 refine ol_val (v := .bool (decide ((List.length a0 : Int) > a1))) (xr_gtr rfl rfl rfl) rfl rfl rfl ?_
 refine ol_nil ?_
 rcases is h with ⟨c1, h⟩ | ⟨c1, h⟩
 ·refine cw_condT rfl c1 ?_
  refine cw_seq ?_
  refine cw_region ?_
  refine ol_val (v := .bool false) (xr_assign rfl rfl) rfl rfl rfl ?_
  refine ol_nil ?_
  refine cw_ret ?_
  repeat (first | with_reducible refine thn_r ?_ | with_reducible refine blk_r ?_)
  obtain rfl := Option.some.inj h
  refine fin_ret1 Try.results25 rfl ?_
  exact ⟨_, rfl, rfl, fB⟩
 refine cw_condF rfl c1 ?_
 refine cw_skip ?_
 refine cw_seq ?_
 refine cw_seq ?_
 refine cw_region ?_
 refine ol_val (v := .int .i64 0) (xr_assign rfl rfl) rfl rfl rfl ?_
 refine ol_nil ?_
 obtain ⟨e3, l4, h5⟩ := bs h
 refine cw_mid (fun ρ' w' => ∃ x6, e3 = Sum.inr x6 ∧ Gr w w') ?_ ?_
 ·refine cw_block ?_
  refine cw_round (fun (s2 : Int) ρ' w' => ρ' 0 = V0_0 ∧ ρ' 5 = .int .i64 s2 ∧ Gr w w') l4 ?_ ?_
  ·skip
   exact ⟨rfl, rfl, fB⟩
  rintro s2 x9 ρ7 w8 ⟨e0, e5, fB⟩ h
  unfold rickyardlaw05_Small.s0 at h
  refine cw_seq ?_
  refine cw_seq ?_
  refine cw_region ?_
  refine ol_val (v := .int .i64 s2) (xr_move rfl e5) rfl rfl rfl ?_
  refine ol_val (v := V0_0) (xr_move rfl e0) rfl rfl rfl ?_
  refine ol_val (v := .int .i64 (List.length a0 : Int)) (xr_lenN rfl Try.underlying24 rfl (RdN.gr R0_0 D_rickyardlaw05_Act.gr fB)) rfl rfl rfl ?_
  refine ol_val (v := .bool (decide (s2 < (List.length a0 : Int)))) (xr_lss rfl rfl rfl) rfl rfl rfl ?_
  refine ol_nil ?_
  rcases is h with ⟨c10, h⟩ | ⟨c10, h⟩
  ·refine cw_condT rfl c10 ?_
   refine cw_skip ?_
   refine cw_seq ?_
   refine cw_block ?_
   refine cw_seq ?_
   refine cw_region ?_
   refine ol_val (v := V0_0) (xr_move rfl e0) rfl rfl rfl ?_
   refine ol_val (v := .int .i64 s2) (xr_move rfl e5) rfl rfl rfl ?_
   obtain ⟨g11, h⟩ := gs h
   refine ol_val (v := (pt ((sb V0_0)) (so V0_0 + Int.toNat s2 * 4))) (xr_indexN (v := V0_0) rfl Try.underlying24 sz39 rfl (RdN.gr R0_0 D_rickyardlaw05_Act.gr fB) rfl g11.1 g11.2) rfl rfl rfl ?_
   refine ol_val (v := (pt ((sb V0_0)) (so V0_0 + Int.toNat s2 * 4 + 3))) (xr_fieldAddr (p := so V0_0 + Int.toNat s2 * 4) (q := 3) rfl fl39_3 rfl) rfl rfl rfl ?_
   refine ol_val (v := cellAt w (sb V0_0) (so V0_0 + Int.toNat s2 * 4 + 3)) (xr_load1 (v := cellAt w (sb V0_0) (so V0_0 + Int.toNat s2 * 4 + 3)) rfl ag25 rfl (At.segs (ss := [(sI ((ix a0 s2).Kind)), (sI ((ix a0 s2).At)), Seg.cell (.int .u64 ((ix a0 s2).W)), Seg.cell (cellAt w (sb V0_0) (so V0_0 + Int.toNat s2 * 4 + 3)) (N_rickyardlaw05_Act R0_0 g11.1 g11.2).2.one]) (At.gr (N_rickyardlaw05_Act R0_0 g11.1 g11.2).1 fB) 3 1 rfl)) rfl rfl rfl ?_
   refine ol_val (v := .int .i64 (List.length ((ix a0 s2).L) : Int)) (xr_lenR rfl Try.underlying25 rfl ((N_rickyardlaw05_Act R0_0 g11.1 g11.2).2.gr fB)) rfl rfl rfl ?_
   refine ol_val (v := .bool (decide ((List.length ((ix a0 s2).L) : Int) > 40))) (xr_gtr rfl rfl rfl) rfl rfl rfl ?_
   refine ol_nil ?_
   rcases is h with ⟨c12, h⟩ | ⟨c12, h⟩
   ·refine cw_condT rfl c12 ?_
    refine cw_seq ?_
    refine cw_region ?_
    refine ol_val (v := .bool false) (xr_assign rfl rfl) rfl rfl rfl ?_
    refine ol_nil ?_
    refine cw_ret ?_
    repeat (first | with_reducible refine thn_r ?_ | with_reducible refine blk_r ?_)
    obtain rfl := Option.some.inj h
    refine lp_ret ?_
    rintro rfl
    repeat (first | with_reducible refine thn_r ?_ | with_reducible refine blk_r ?_)
    have h := h5
    obtain rfl := Option.some.inj h
    refine fin_ret1 Try.results25 rfl ?_
    exact ⟨_, rfl, rfl, fB⟩
   refine cw_condF rfl c12 ?_
   refine cw_skip ?_
   refine blk_i ?_
   refine cw_region ?_
   refine ol_val (v := .int .i64 s2) (xr_move rfl e5) rfl rfl rfl ?_
   refine ol_val (v := .int .i64 (IntKind.i64.wrap (s2 + 1))) (xr_add rfl rfl rfl) rfl rfl rfl ?_
   refine ol_val (v := .int .i64 (IntKind.i64.wrap (s2 + 1))) (xr_assign rfl rfl) rfl rfl rfl ?_
   refine ol_nil ?_
   obtain rfl := Option.some.inj h
   refine lp_in ?_
   exact ⟨e0, rfl, fB⟩
  refine cw_condF rfl c10 ?_
  refine cw_exit ?_
  repeat (first | with_reducible refine thn_e ?_ | with_reducible refine blk_e rfl ?_)
  obtain rfl := Option.some.inj h
  refine lp_exit ?_
  rintro rfl
  refine thn_x ?_
  exact ⟨_, rfl, fB⟩
 rintro ρ13 w14 ⟨x6, rfl, fB⟩
 have h := h5
 refine cw_seq ?_
 refine cw_region ?_
 refine ol_val (v := .bool true) (xr_assign rfl rfl) rfl rfl rfl ?_
 refine ol_nil ?_
 refine cw_ret ?_
 repeat (first | with_reducible refine thn_r ?_ | with_reducible refine blk_r ?_)
 obtain rfl := Option.some.inj h
 refine fin_ret1 Try.results25 rfl ?_
 exact ⟨_, rfl, rfl, fB⟩
def rickyardref01_Rest.f (fu : Nat) (a0 : Int) (a1 : Int) : Option Int := (if a1 ≠ 0 then (if a1 ≠ 0 then some ((Int.tmod (IntKind.i64.wrap ((Int.tmod a0 a1) + a1)) a1)) else none) else none)
theorem rickyardref01_Rest.ok (fu : Nat) (w : World) (a0 : Int) (a1 : Int) (r : Int) (h : rickyardref01_Rest.f fu a0 a1 = some r) :
  Calls Try.prog 27 (([.int .i64 a0, .int .i64 a1] : List Value).toArray) w (fun e w' => ∃ v, e = .returned v ∧ v = .int .i64 r ∧ Gr w w') := by
 unfold rickyardref01_Rest.f at h
 have fB : Gr w w := Fr.refl _ _
 refine calls_cw Try.func27 rfl Try.ntmps27 rfl ?_
 refine cw_seq ?_
 refine cw_region ?_
 refine ol_val (v := .int .i64 0) (xr_assign rfl rfl) rfl rfl rfl ?_
 refine ol_nil ?_
 refine cw_seq ?_
 refine cw_region ?_
 refine ol_val (v := .int .i64 a0) (xr_move rfl rfl) rfl rfl rfl ?_
 refine ol_val (v := .int .i64 a1) (xr_move rfl rfl) rfl rfl rfl ?_
 obtain ⟨g1, h⟩ := gs h
 refine ol_val (v := .int .i64 (Int.tmod a0 a1)) (xr_rem rfl rfl rfl g1) rfl rfl rfl ?_
 refine ol_val (v := .int .i64 a1) (xr_move rfl rfl) rfl rfl rfl ?_
 refine ol_val (v := .int .i64 (IntKind.i64.wrap ((Int.tmod a0 a1) + a1))) (xr_add rfl rfl rfl) rfl rfl rfl ?_
 refine ol_val (v := .int .i64 a1) (xr_move rfl rfl) rfl rfl rfl ?_
 obtain ⟨g2, h⟩ := gs h
 refine ol_val (v := .int .i64 (Int.tmod (IntKind.i64.wrap ((Int.tmod a0 a1) + a1)) a1)) (xr_rem rfl rfl rfl g2) rfl rfl rfl ?_
 refine ol_val (v := .int .i64 (Int.tmod (IntKind.i64.wrap ((Int.tmod a0 a1) + a1)) a1)) (xr_assign rfl rfl) rfl rfl rfl ?_
 refine ol_nil ?_
 refine cw_ret ?_
 repeat (first | with_reducible refine thn_r ?_ | with_reducible refine blk_r ?_)
 obtain rfl := Option.some.inj h
 refine fin_ret1 Try.results27 rfl ?_
 exact ⟨_, rfl, rfl, fB⟩
def pmem_Device_Fence.s0 (fu : Nat) (a0 : S_pmem_Device) : (Int × (List S_pmem_cell)) → Option (Sum (List S_pmem_cell) (Int × (List S_pmem_cell))) := fun s12 => (if (decide (s12.1 < (List.length a0.cells : Int))) = true then (if 0 ≤ s12.1 ∧ s12.1 < (List.length s12.2 : Int) then (((if (ix s12.2 s12.1).flushed = true then ((pmem_cell_keep__i0.f fu (ix s12.2 s12.1) ((ix s12.2 s12.1).sent)).bind fun t31 => some ((List.set s12.2 (Int.toNat s12.1) t31))) else some (s12.2)) : Option (List S_pmem_cell)).bind fun x21 => some (Sum.inr ((IntKind.i64.wrap (s12.1 + 1)), x21))) else none) else some (Sum.inl (s12.2)))
def pmem_Device_Fence.f (fu : Nat) (a0 : S_pmem_Device) : Option (Int × S_pmem_Device) := ((pmem_Device_may.f fu a0 0 1).bind fun t7 => (if (!decide (t7 = 0)) = true then some (t7, a0) else ((loopM (pmem_Device_Fence.s0 fu a0) fu (0, a0.cells)).bind fun e13 => ((pmem_Device_step.f fu (⟨e13, a0.plan, a0.off, a0.armed, a0.left, a0.steps⟩ : S_pmem_Device)).bind fun t43 => some (0, t43)))))
theorem pmem_Device_Fence.ok (fu : Nat) (w : World) (a0 : S_pmem_Device) (G_0 : Nat) (V0_0 : Value) (O0_0 : Own k_pmem_cell 142 w 0 V0_0 a0.cells) (V0_1 : Value) (O0_1 : Own (kI .i64) 3 w 0 V0_1 a0.plan.list) (b_0 : Blk w G_0 139 [Seg.cell V0_0 O0_0.one, Seg.cell V0_1 O0_1.one, (sI a0.plan.at_), Seg.cell (.bool a0.off), Seg.cell (.bool a0.armed), (sI a0.left), (sI a0.steps)]) (r : Int × S_pmem_Device) (h : pmem_Device_Fence.f fu a0 = some r) :
  Calls Try.prog 30 (([(pt G_0 0)] : List Value).toArray) w (fun e w' => ∃ v, e = .returned v ∧ ∃ u1 : Value, ∃ u4 : Value, ∃ o2 : Own k_pmem_cell 142 w' 0 u1 r.2.cells, ∃ m3 : ∀ g, Value.ownBlock u1 = some g → w.heap.size ≤ g ∨ (g = G_0 ∨ some g = Value.ownBlock V0_0 ∨ some g = Value.ownBlock V0_1), ∃ o5 : Own (kI .i64) 3 w' 0 u4 r.2.plan.list, ∃ m6 : ∀ g, Value.ownBlock u4 = some g → w.heap.size ≤ g ∨ (g = G_0 ∨ some g = Value.ownBlock V0_0 ∨ some g = Value.ownBlock V0_1), v = .int .i64 r.1 ∧ Blk w' G_0 139 [Seg.cell u1 o2.one, Seg.cell u4 o5.one, (sI r.2.plan.at_), Seg.cell (.bool r.2.off), Seg.cell (.bool r.2.armed), (sI r.2.left), (sI r.2.steps)] ∧ Fr (fun j => j = G_0 ∨ some j = Value.ownBlock V0_0 ∨ some j = Value.ownBlock V0_1) w w') := by
 unfold pmem_Device_Fence.f at h
 have fB : Fr (fun j => j = G_0 ∨ some j = Value.ownBlock V0_0 ∨ some j = Value.ownBlock V0_1) w w := Fr.refl _ _
 have M0_0 : ∀ g, Value.ownBlock V0_0 = some g → w.heap.size ≤ g ∨ (g = G_0 ∨ some g = Value.ownBlock V0_0 ∨ some g = Value.ownBlock V0_1) := fun g hg => .inr (.inr (.inl hg.symm))
 have M0_1 : ∀ g, Value.ownBlock V0_1 = some g → w.heap.size ≤ g ∨ (g = G_0 ∨ some g = Value.ownBlock V0_0 ∨ some g = Value.ownBlock V0_1) := fun g hg => .inr (.inr (.inr hg.symm))
 refine calls_cw Try.func30 rfl Try.ntmps30 rfl ?_
 refine cw_seq ?_
 refine cw_region ?_
 refine ol_val (v := .int .i64 0) (xr_assign rfl rfl) rfl rfl rfl ?_
 refine ol_nil ?_
 refine cw_seq ?_
 refine cw_seq ?_
 refine cw_region ?_
 refine ol_val (v := (pt G_0 0)) (xr_move rfl rfl) rfl rfl rfl ?_
 obtain ⟨t7, k8, h⟩ := bs h
 refine ol_op (opv_call rfl cal83 (ac rfl (ac rfl (ac rfl an))) (pmem_Device_may.ok fu _ a0 G_0 V0_0 (O0_0.rd) V0_1 (O0_1.rd) b_0 0 1 _ k8)) rfl rfl rfl ?_
 rintro _ w10 ⟨rfl, q9⟩
 have b_0 := b_0.gr q9
 have O0_0 := O0_0.gr q9
 have O0_1 := O0_1.gr q9
 have fB := fB.gr q9
 refine ol_val (v := .int .i64 t7) (xr_assign rfl rfl) rfl rfl rfl ?_
 refine ol_nil ?_
 refine cw_seq ?_
 refine cw_region ?_
 refine ol_val (v := .int .i64 t7) (xr_move rfl rfl) rfl rfl rfl ?_
 refine ol_val (v := .bool (!decide (t7 = 0))) (xr_neI rfl Try.underlying31 rfl rfl rfl) rfl rfl rfl ?_
 refine ol_nil ?_
 rcases is h with ⟨c11, h⟩ | ⟨c11, h⟩
 ·refine cw_condT rfl c11 ?_
  refine cw_seq ?_
  refine cw_region ?_
  refine ol_val (v := .int .i64 t7) (xr_move rfl rfl) rfl rfl rfl ?_
  refine ol_val (v := .int .i64 t7) (xr_assign rfl rfl) rfl rfl rfl ?_
  refine ol_nil ?_
  refine cw_ret ?_
  repeat (first | with_reducible refine thn_r ?_ | with_reducible refine blk_r ?_)
  obtain rfl := Option.some.inj h
  refine fin_ret1 Try.results30 rfl ?_
  exact ⟨_, rfl, V0_0, V0_1, O0_0, M0_0, O0_1, M0_1, rfl, b_0, fB⟩
 refine cw_condF rfl c11 ?_
 refine cw_skip ?_
 refine cw_seq ?_
 refine cw_seq ?_
 refine cw_region ?_
 refine ol_val (v := (pt G_0 0)) (xr_move rfl rfl) rfl rfl rfl ?_
 refine ol_val (v := (pt G_0 0)) (xr_nilCheck rfl rfl) rfl rfl rfl ?_
 refine ol_val (v := (pt G_0 0)) (xr_fieldAddr (p := 0) (q := 0) rfl fl139_0 rfl) rfl rfl rfl ?_
 refine ol_val (v := V0_0) (xr_load1 (v := V0_0) rfl ag135 rfl (b_0.seg 0 rfl rfl)) rfl rfl rfl ?_
 refine ol_val (v := .int .i64 (List.length a0.cells : Int)) (xr_lenR rfl Try.underlying135 rfl O0_0.rd) rfl rfl rfl ?_
 refine ol_val (v := .int .i64 0) (xr_move rfl rfl) rfl rfl rfl ?_
 refine ol_nil ?_
 obtain ⟨e13, l14, h15⟩ := bs h
 refine cw_mid (fun ρ' w' => ∃ O0_0 : Own k_pmem_cell 142 w' 0 V0_0 e13, ∃ O0_1 : Own (kI .i64) 3 w' 0 V0_1 a0.plan.list, ρ' 0 = (pt G_0 0) ∧ Blk w' G_0 139 [Seg.cell V0_0 O0_0.one, Seg.cell V0_1 O0_1.one, (sI a0.plan.at_), Seg.cell (.bool a0.off), Seg.cell (.bool a0.armed), (sI a0.left), (sI a0.steps)] ∧ Fr (fun j => j = G_0 ∨ some j = Value.ownBlock V0_0 ∨ some j = Value.ownBlock V0_1) w w') ?_ ?_
 ·refine cw_block ?_
  refine cw_round (fun (s12 : Int × (List S_pmem_cell)) ρ' w' => ∃ O0_0 : Own k_pmem_cell 142 w' 0 V0_0 s12.2, ∃ O0_1 : Own (kI .i64) 3 w' 0 V0_1 a0.plan.list, ρ' 0 = (pt G_0 0) ∧ ρ' 15 = .int .i64 (List.length a0.cells : Int) ∧ ρ' 16 = .int .i64 s12.1 ∧ Blk w' G_0 139 [Seg.cell V0_0 O0_0.one, Seg.cell V0_1 O0_1.one, (sI a0.plan.at_), Seg.cell (.bool a0.off), Seg.cell (.bool a0.armed), (sI a0.left), (sI a0.steps)] ∧ Fr (fun j => j = G_0 ∨ some j = Value.ownBlock V0_0 ∨ some j = Value.ownBlock V0_1) w w') l14 ?_ ?_
  ·skip
   exact ⟨O0_0, O0_1, rfl, rfl, rfl, b_0, fB⟩
  rintro s12 x18 ρ16 w17 ⟨O0_0, O0_1, e0, e15, e16, b_0, fB⟩ h
  unfold pmem_Device_Fence.s0 at h
  refine cw_seq ?_
  refine cw_region ?_
  refine ol_val (v := .bool (decide (s12.1 < (List.length a0.cells : Int)))) (xr_lss rfl e16 e15) rfl rfl rfl ?_
  refine ol_nil ?_
  refine cw_seq ?_
  rcases is h with ⟨c19, h⟩ | ⟨c19, h⟩
  ·refine cw_condT rfl c19 ?_
   refine cw_skip ?_
   refine cw_seq ?_
   refine cw_block ?_
   refine cw_seq ?_
   refine cw_region ?_
   refine ol_val (v := .int .i64 s12.1) (xr_move rfl e16) rfl rfl rfl ?_
   refine ol_val (v := .int .i64 s12.1) (xr_assign rfl rfl) rfl rfl rfl ?_
   refine ol_nil ?_
   refine cw_seq ?_
   refine cw_region ?_
   refine ol_val (v := (pt G_0 0)) (xr_move rfl e0) rfl rfl rfl ?_
   refine ol_val (v := (pt G_0 0)) (xr_nilCheck rfl rfl) rfl rfl rfl ?_
   refine ol_val (v := (pt G_0 0)) (xr_fieldAddr (p := 0) (q := 0) rfl fl139_0 rfl) rfl rfl rfl ?_
   refine ol_val (v := V0_0) (xr_load1 (v := V0_0) rfl ag135 rfl (b_0.seg 0 rfl rfl)) rfl rfl rfl ?_
   refine ol_val (v := .int .i64 s12.1) (xr_move rfl rfl) rfl rfl rfl ?_
   obtain ⟨g20, h⟩ := gs h
   refine ol_val (v := (pt ((sb V0_0)) (so V0_0 + Int.toNat s12.1 * 4))) (xr_indexR (K := k_pmem_cell) (v := V0_0) rfl Try.underlying135 sz142 rfl O0_0.rd rfl g20.1 g20.2) rfl rfl rfl ?_
   refine ol_val (v := (pt ((sb V0_0)) (so V0_0 + Int.toNat s12.1 * 4))) (xr_assign rfl rfl) rfl rfl rfl ?_
   refine ol_nil ?_
   refine cw_seq ?_
   refine cw_region ?_
   refine ol_val (v := (pt ((sb V0_0)) (so V0_0 + Int.toNat s12.1 * 4))) (xr_move rfl rfl) rfl rfl rfl ?_
   refine ol_val (v := (pt ((sb V0_0)) (so V0_0 + Int.toNat s12.1 * 4))) (xr_nilCheck rfl rfl) rfl rfl rfl ?_
   refine ol_val (v := (pt ((sb V0_0)) (so V0_0 + Int.toNat s12.1 * 4 + 3))) (xr_fieldAddr (p := so V0_0 + Int.toNat s12.1 * 4) (q := 3) rfl fl142_3 rfl) rfl rfl rfl ?_
   refine ol_val (v := .bool ((ix s12.2 s12.1).flushed)) (xr_load1 (v := .bool ((ix s12.2 s12.1).flushed)) rfl ag4 rfl (At.segs (ss := segs_pmem_cell (ix s12.2 s12.1)) (O0_0.rd.elem g20.1 g20.2) 3 1 rfl)) rfl rfl rfl ?_
   refine ol_nil ?_
   obtain ⟨x21, j22, h23⟩ := bs h
   refine cw_mid (fun ρ' w' => ∃ O0_0 : Own k_pmem_cell 142 w' 0 V0_0 x21, ∃ O0_1 : Own (kI .i64) 3 w' 0 V0_1 a0.plan.list, ρ' 0 = (pt G_0 0) ∧ ρ' 15 = .int .i64 (List.length a0.cells : Int) ∧ ρ' 16 = .int .i64 s12.1 ∧ Blk w' G_0 139 [Seg.cell V0_0 O0_0.one, Seg.cell V0_1 O0_1.one, (sI a0.plan.at_), Seg.cell (.bool a0.off), Seg.cell (.bool a0.armed), (sI a0.left), (sI a0.steps)] ∧ Fr (fun j => j = G_0 ∨ some j = Value.ownBlock V0_0 ∨ some j = Value.ownBlock V0_1) w w') ?_ ?_
   ·have h := j22
    rcases is h with ⟨c24, h⟩ | ⟨c24, h⟩
    ·refine cw_condT rfl c24 ?_
     refine cw_region ?_
     refine ol_val (v := (pt ((sb V0_0)) (so V0_0 + Int.toNat s12.1 * 4))) (xr_move rfl rfl) rfl rfl rfl ?_
     refine ol_val (v := (pt ((sb V0_0)) (so V0_0 + Int.toNat s12.1 * 4))) (xr_move rfl rfl) rfl rfl rfl ?_
     refine ol_val (v := (pt ((sb V0_0)) (so V0_0 + Int.toNat s12.1 * 4))) (xr_nilCheck rfl rfl) rfl rfl rfl ?_
     refine ol_val (v := (pt ((sb V0_0)) (so V0_0 + Int.toNat s12.1 * 4 + 2))) (xr_fieldAddr (p := so V0_0 + Int.toNat s12.1 * 4) (q := 2) rfl fl142_2 rfl) rfl rfl rfl ?_
     refine ol_val (v := .int .u64 ((ix s12.2 s12.1).sent)) (xr_load1 (v := .int .u64 ((ix s12.2 s12.1).sent)) rfl ag22 rfl (At.segs (ss := segs_pmem_cell (ix s12.2 s12.1)) (O0_0.rd.elem g20.1 g20.2) 2 1 rfl)) rfl rfl rfl ?_
     obtain ⟨t31, k32, h⟩ := bs h
     have f35 := off_ty b_0 O0_0 (by decide)
     have f36 := OffV.ty O0_1 O0_0 (by decide)
     obtain ⟨X25, Y26, h27, h28, b29, k30⟩ := Own.sub (K := k_pmem_cell) (i := s12.1) (ss := [Seg.cell (.int .u64 ((ix s12.2 s12.1).lasts)), Seg.cell (.int .u64 ((ix s12.2 s12.1).stored)), Seg.cell (.int .u64 ((ix s12.2 s12.1).sent)), Seg.cell (.bool ((ix s12.2 s12.1).flushed))]) O0_0 g20.1 g20.2 rfl
     refine ol_op (opv_call rfl cal85 (ac (ptrE (q := List.length X25) rfl h27) (ac rfl an)) (pmem_cell_keep__i0.ok fu _ (ix s12.2 s12.1) (sb V0_0) 142 X25 Y26 b29 ((ix s12.2 s12.1).sent) _ k32)) rfl rfl rfl ?_
     rintro _ w38 ⟨rfl, b34, q33⟩
     have O0_0 := k30 _ t31 [Seg.cell (.int .u64 t31.lasts), Seg.cell (.int .u64 t31.stored), Seg.cell (.int .u64 t31.sent), Seg.cell (.bool t31.flushed)] rfl b34
     have q33 := fr_own q33 h28
     have b_0 := b_0.wrO q33 f35
     have O0_1 := O0_1.wrV q33 f36
     have fB := fB.wrM q33 M0_0
     refine ol_nil ?_
     obtain rfl := Option.some.inj h
     refine thn_i ?_
     exact ⟨O0_0, O0_1, e0, e15, e16, b_0, fB⟩
    refine cw_condF rfl c24 ?_
    refine cw_skip ?_
    obtain rfl := Option.some.inj h
    refine thn_i ?_
    exact ⟨O0_0, O0_1, e0, e15, e16, b_0, fB⟩
   rintro ρ39 w40 ⟨O0_0, O0_1, e0, e15, e16, b_0, fB⟩
   have h := h23
   refine blk_i ?_
   refine cw_region ?_
   refine ol_val (v := .int .i64 (IntKind.i64.wrap (s12.1 + 1))) (xr_add rfl e16 rfl) rfl rfl rfl ?_
   refine ol_val (v := .int .i64 (IntKind.i64.wrap (s12.1 + 1))) (xr_move rfl rfl) rfl rfl rfl ?_
   refine ol_nil ?_
   obtain rfl := Option.some.inj h
   refine lp_in ?_
   exact ⟨O0_0, O0_1, e0, e15, rfl, b_0, fB⟩
  refine cw_condF rfl c19 ?_
  refine cw_exit ?_
  repeat (first | with_reducible refine thn_e ?_ | with_reducible refine blk_e rfl ?_)
  obtain rfl := Option.some.inj h
  refine lp_exit ?_
  rintro rfl
  refine thn_x ?_
  exact ⟨O0_0, O0_1, e0, b_0, fB⟩
 rintro ρ41 w42 ⟨O0_0, O0_1, e0, b_0, fB⟩
 have h := h15
 refine cw_seq ?_
 refine cw_region ?_
 refine ol_val (v := (pt G_0 0)) (xr_move rfl e0) rfl rfl rfl ?_
 obtain ⟨t43, k44, h⟩ := bs h
 have c54 : ∀ k, (k = G_0 ∨ some k = Value.ownBlock V0_0 ∨ some k = Value.ownBlock V0_1) → (w.heap.size ≤ k ∨ (k = G_0 ∨ some k = Value.ownBlock V0_0 ∨ some k = Value.ownBlock V0_1)) := (cv_or (cv_eq (.inr (.inl rfl))) (cv_or (cv_own M0_0) (cv_own M0_1)))
 refine ol_op (opv_call rfl cal84 (ac rfl an) (pmem_Device_step.ok fu _ (⟨e13, a0.plan, a0.off, a0.armed, a0.left, a0.steps⟩ : S_pmem_Device) G_0 V0_0 (Own.base O0_0 (Nat.zero_le _)) V0_1 (Own.base O0_1 (Nat.zero_le _)) b_0 _ k44)) rfl rfl rfl ?_
 rintro _ w55 ⟨u46, u50, o47, m48, o51, m52, rfl, b_0, q45⟩
 have m48 : ∀ g, Value.ownBlock u46 = some g → w.heap.size ≤ g ∨ (g = G_0 ∨ some g = Value.ownBlock V0_0 ∨ some g = Value.ownBlock V0_1) := fun g hg => (m48 g hg).elim (fun x => .inl (Nat.le_trans fB.size x)) (c54 g)
 have m52 : ∀ g, Value.ownBlock u50 = some g → w.heap.size ≤ g ∨ (g = G_0 ∨ some g = Value.ownBlock V0_0 ∨ some g = Value.ownBlock V0_1) := fun g hg => (m52 g hg).elim (fun x => .inl (Nat.le_trans fB.size x)) (c54 g)
 have fB := fB.call q45 c54
 refine ol_nil ?_
 refine cw_seq ?_
 refine cw_region ?_
 refine ol_val (v := .int .i64 0) (xr_assign rfl rfl) rfl rfl rfl ?_
 refine ol_nil ?_
 refine cw_ret ?_
 repeat (first | with_reducible refine thn_r ?_ | with_reducible refine blk_r ?_)
 obtain rfl := Option.some.inj h
 refine fin_ret1 Try.results30 rfl ?_
 exact ⟨_, rfl, u46, u50, o47, m48, o51, m52, rfl, b_0, fB⟩
def slices_Clone_1.f (fu : Nat) (a0 : List Int) : Option (List Int) := (if List.length a0 ≤ LIM then some a0 else none)
theorem slices_Clone_1.ok (fu : Nat) (w : World) (a0 : List Int) (V0_0 : Value) (R0_0 : Rd (kI .i64) w V0_0 a0) (r : List Int) (h : slices_Clone_1.f fu a0 = some r) :
  Calls Try.prog 90 (([V0_0] : List Value).toArray) w (fun e w' => ∃ v, e = .returned v ∧ ∃ u1 : Value, ∃ o2 : Own (kI .i64) 3 w' w.heap.size u1 r, v = u1 ∧ Gr w w') := by
 unfold slices_Clone_1.f at h
 obtain ⟨g, h⟩ := gs h
 obtain rfl := Option.some.inj h
 have fB : Gr w w := Fr.refl _ _
 refine calls_cw Try.func90 rfl Try.ntmps90 rfl ?_
 refine cw_seq ?_
 refine cw_region ?_
 refine ol_val (v := .slice none 0 0) (xr_assign rfl rfl) rfl rfl rfl ?_
 refine ol_nil ?_
 refine cw_seq ?_
 refine cw_seq ?_
 refine cw_region ?_
 refine ol_val (v := V0_0) (xr_move rfl rfl) rfl rfl rfl ?_
 refine ol_val (v := .bool (isNilV V0_0)) (xr_eqNil rfl Try.underlying25 rfl rfl R0_0) rfl rfl rfl ?_
 refine ol_nil ?_
 rcases bt (isNilV V0_0) with c | c
 ·refine cw_condT rfl c ?_
  obtain rfl := R0_0.isNil c
  refine cw_seq ?_
  refine cw_region ?_
  refine ol_val (v := .slice none 0 0) (xr_assign rfl rfl) rfl rfl rfl ?_
  refine ol_nil ?_
  refine cw_ret ?_
  repeat (first | with_reducible refine thn_r ?_ | with_reducible refine blk_r ?_)
  refine fin_ret1 Try.results90 rfl ?_
  exact ⟨_, rfl, _, Own.nil _ _ _ _, rfl, fB⟩
 refine cw_condF rfl c ?_
 refine cw_skip ?_
 refine cw_seq ?_
 refine cw_region ?_
 refine ol_op (opv_buildSlice (K := (kI .i64)) (xs := ([] : List Int)) (vals := []) rfl Try.underlying25 el3 rfl rfl trivial rfl rfl rfl fB.size) rfl rfl rfl ?_
 rintro v1 w1 ⟨o1, q1, z1⟩
 refine ol_val (v := V0_0) (xr_move rfl rfl) rfl rfl rfl ?_
 refine ol_op (opv_append (K := (kI .i64)) rfl Try.underlying25 el3 rfl rfl rfl rfl rfl o1 (R0_0.gr q1) (by simpa using g) (fB.gr q1).size) rfl rfl rfl ?_
 rintro v2 w2 ⟨o2, q2, n2⟩
 refine ol_val (v := v2) (xr_assign rfl rfl) rfl rfl rfl ?_
 refine ol_nil ?_
 refine cw_ret ?_
 repeat (first | with_reducible refine thn_r ?_ | with_reducible refine blk_r ?_)
 refine fin_ret1 Try.results90 rfl ?_
 exact ⟨_, rfl, v2, o2, rfl, (fB.gr q1).wrO q2 o1.geO⟩
def pmem_Device_Plan.f (fu : Nat) (a0 : S_pmem_Device) (a1 : List Int) : Option S_pmem_Device := ((slices_Clone_1.f fu a1).bind fun t7 => some ((⟨a0.cells, (⟨t7, (0 : Int)⟩ : S_pmem_plan), a0.off, a0.armed, a0.left, a0.steps⟩ : S_pmem_Device)))
theorem pmem_Device_Plan.ok (fu : Nat) (w : World) (a0 : S_pmem_Device) (G_0 : Nat) (V0_0 : Value) (O0_0 : Own k_pmem_cell 142 w 0 V0_0 a0.cells) (V0_1 : Value) (O0_1 : Own (kI .i64) 3 w 0 V0_1 a0.plan.list) (b_0 : Blk w G_0 139 [Seg.cell V0_0 O0_0.one, Seg.cell V0_1 O0_1.one, (sI a0.plan.at_), Seg.cell (.bool a0.off), Seg.cell (.bool a0.armed), (sI a0.left), (sI a0.steps)]) (a1 : List Int) (V1_0 : Value) (R1_0 : Rd (kI .i64) w V1_0 a1) (NR1_0_P0 : OffR V1_0 a1 G_0) (NR1_0_R0_0 : OffRV V1_0 a1 V0_0) (NR1_0_R0_1 : OffRV V1_0 a1 V0_1) (r : S_pmem_Device) (h : pmem_Device_Plan.f fu a0 a1 = some r) :
  Calls Try.prog 35 (([(pt G_0 0), V1_0] : List Value).toArray) w (fun e w' => ∃ v, e = .returned v ∧ ∃ u1 : Value, ∃ u4 : Value, ∃ o2 : Own k_pmem_cell 142 w' 0 u1 r.cells, ∃ m3 : ∀ g, Value.ownBlock u1 = some g → w.heap.size ≤ g ∨ (g = G_0 ∨ some g = Value.ownBlock V0_0 ∨ some g = Value.ownBlock V0_1), ∃ o5 : Own (kI .i64) 3 w' 0 u4 r.plan.list, ∃ m6 : ∀ g, Value.ownBlock u4 = some g → w.heap.size ≤ g ∨ (g = G_0 ∨ some g = Value.ownBlock V0_0 ∨ some g = Value.ownBlock V0_1), v = .tuple #[] ∧ Blk w' G_0 139 [Seg.cell u1 o2.one, Seg.cell u4 o5.one, (sI r.plan.at_), Seg.cell (.bool r.off), Seg.cell (.bool r.armed), (sI r.left), (sI r.steps)] ∧ Fr (fun j => j = G_0 ∨ some j = Value.ownBlock V0_0 ∨ some j = Value.ownBlock V0_1) w w') := by
 unfold pmem_Device_Plan.f at h
 have fB : Fr (fun j => j = G_0 ∨ some j = Value.ownBlock V0_0 ∨ some j = Value.ownBlock V0_1) w w := Fr.refl _ _
 have M0_0 : ∀ g, Value.ownBlock V0_0 = some g → w.heap.size ≤ g ∨ (g = G_0 ∨ some g = Value.ownBlock V0_0 ∨ some g = Value.ownBlock V0_1) := fun g hg => .inr (.inr (.inl hg.symm))
 have M0_1 : ∀ g, Value.ownBlock V0_1 = some g → w.heap.size ≤ g ∨ (g = G_0 ∨ some g = Value.ownBlock V0_0 ∨ some g = Value.ownBlock V0_1) := fun g hg => .inr (.inr (.inr hg.symm))
 refine calls_cw Try.func35 rfl Try.ntmps35 rfl ?_
 refine cw_region ?_
 refine ol_val (v := (pt G_0 0)) (xr_move rfl rfl) rfl rfl rfl ?_
 refine ol_val (v := V1_0) (xr_move rfl rfl) rfl rfl rfl ?_
 obtain ⟨t7, k8, h⟩ := bs h
 refine ol_op (opv_call rfl cal90 (ac rfl an) (slices_Clone_1.ok fu _ a1 V1_0 (R1_0) _ k8)) rfl rfl rfl ?_
 rintro u9 w13 ⟨_, o10, rfl, q12⟩
 have a14 := OffV.call O0_1 o10
 have o10 := Own.base o10 fB.size
 have b_0 := b_0.gr q12
 have O0_0 := O0_0.gr q12
 have O0_1 := O0_1.gr q12
 have fB := fB.gr q12
 refine ol_val (v := aggV [Seg.cell u9 o10.one, (sI (0 : Int))]) (xr_buildS (vals := [(0, u9)]) (res := [Seg.cell u9 o10.one, (sI (0 : Int))]) rfl ⟨rfl, rfl, trivial⟩ Try.underlying137 ze137 pl137 (fl_cons (xs := cellsOf [Seg.cell u9 o10.one]) (cs' := cellsOf [Seg.cell u9 o10.one, (sI (0 : Int))]) rfl (cells_one o10.one) (len_cellsOf _) (Spl.segs [Seg.cell (.slice none 0 0) (by rfl), (sI (0 : Int))] 0 1 [Seg.cell u9 o10.one] rfl rfl) fl_nil)) rfl rfl rfl ?_
 refine ol_val (v := (pt G_0 0)) (xr_nilCheck rfl rfl) rfl rfl rfl ?_
 refine ol_val (v := (pt G_0 1)) (xr_fieldAddr (p := 0) (q := 1) rfl fl139_1 rfl) rfl rfl rfl ?_
 have f16 := off_ty b_0 O0_0 (by decide)
 have f17 := off_ty b_0 o10 (by decide)
 refine ol_op0 (opv_store (ss' := [Seg.cell V0_0 O0_0.one, Seg.cell u9 o10.one, (sI (0 : Int)), Seg.cell (.bool a0.off), Seg.cell (.bool a0.armed), (sI a0.left), (sI a0.steps)]) (xs := cellsOf [Seg.cell u9 o10.one, (sI (0 : Int))]) rfl sz137 rfl rfl rfl (len_cellsOf _) (one_cellsOf _) b_0 (Spl.segs _ 1 2 [Seg.cell u9 o10.one, (sI (0 : Int))] rfl rfl)) rfl rfl ?_
 rintro _ w18 ⟨b_0, q15⟩
 have O0_0 := O0_0.wr q15 f16
 have o10 := o10.wr q15 f17
 have fB := fB.wrS q15 (.inl rfl)
 refine ol_nil ?_
 obtain rfl := Option.some.inj h
 refine fin_end0 Try.results35 ?_
 exact ⟨_, rfl, V0_0, u9, O0_0, M0_0, (Own.base o10 (Nat.zero_le _)), (ms_geO o10), rfl, b_0, fB⟩
def pmem_Device_Arm.f (fu : Nat) (a0 : S_pmem_Device) (a1 : Int) : Option S_pmem_Device := (if a0.off = true then some (a0) else some ((⟨a0.cells, a0.plan, (decide (a1 = 0)), (decide (a1 ≥ 0)), a1, a0.steps⟩ : S_pmem_Device)))
theorem pmem_Device_Arm.ok (fu : Nat) (w : World) (a0 : S_pmem_Device) (G_0 : Nat) (V0_0 : Value) (R0_0 : Rd k_pmem_cell w V0_0 a0.cells) (N0_0 : OffR V0_0 a0.cells G_0) (V0_1 : Value) (R0_1 : Rd (kI .i64) w V0_1 a0.plan.list) (N0_1 : OffR V0_1 a0.plan.list G_0) (b_0 : Blk w G_0 139 [Seg.cell V0_0 R0_0.one, Seg.cell V0_1 R0_1.one, (sI a0.plan.at_), Seg.cell (.bool a0.off), Seg.cell (.bool a0.armed), (sI a0.left), (sI a0.steps)]) (a1 : Int) (r : S_pmem_Device) (h : pmem_Device_Arm.f fu a0 a1 = some r) :
  Calls Try.prog 38 (([(pt G_0 0), .int .i64 a1] : List Value).toArray) w (fun e w' => ∃ v, e = .returned v ∧ v = .tuple #[] ∧ Blk w' G_0 139 [Seg.cell V0_0 R0_0.one, Seg.cell V0_1 R0_1.one, (sI r.plan.at_), Seg.cell (.bool r.off), Seg.cell (.bool r.armed), (sI r.left), (sI r.steps)] ∧ Fr (fun j => j = G_0) w w') := by
 unfold pmem_Device_Arm.f at h
 have fB : Fr (fun j => j = G_0) w w := Fr.refl _ _
 refine calls_cw Try.func38 rfl Try.ntmps38 rfl ?_
 refine cw_seq ?_
 refine cw_seq ?_
 refine cw_region ?_
 refine ol_val (v := (pt G_0 0)) (xr_move rfl rfl) rfl rfl rfl ?_
 refine ol_val (v := (pt G_0 0)) (xr_nilCheck rfl rfl) rfl rfl rfl ?_
 refine ol_val (v := (pt G_0 3)) (xr_fieldAddr (p := 0) (q := 3) rfl fl139_2 rfl) rfl rfl rfl ?_
 refine ol_val (v := .bool a0.off) (xr_load1 (v := .bool a0.off) rfl ag4 rfl (b_0.seg 3 rfl rfl)) rfl rfl rfl ?_
 refine ol_nil ?_
 rcases is h with ⟨c1, h⟩ | ⟨c1, h⟩
 ·refine cw_condT rfl c1 ?_
  refine cw_ret ?_
  repeat (first | with_reducible refine thn_r ?_ | with_reducible refine blk_r ?_)
  obtain rfl := Option.some.inj h
  refine fin_ret0 Try.results38 ?_
  exact ⟨_, rfl, rfl, b_0, fB⟩
 refine cw_condF rfl c1 ?_
 refine cw_skip ?_
 refine cw_seq ?_
 refine cw_region ?_
 refine ol_val (v := (pt G_0 0)) (xr_move rfl rfl) rfl rfl rfl ?_
 refine ol_val (v := (pt G_0 0)) (xr_move rfl rfl) rfl rfl rfl ?_
 refine ol_val (v := .int .i64 a1) (xr_move rfl rfl) rfl rfl rfl ?_
 refine ol_val (v := .bool (decide (a1 ≥ 0))) (xr_geq rfl rfl rfl) rfl rfl rfl ?_
 refine ol_val (v := .int .i64 a1) (xr_move rfl rfl) rfl rfl rfl ?_
 refine ol_val (v := (pt G_0 0)) (xr_nilCheck rfl rfl) rfl rfl rfl ?_
 refine ol_val (v := (pt G_0 4)) (xr_fieldAddr (p := 0) (q := 4) rfl fl139_3 rfl) rfl rfl rfl ?_
 refine ol_op0 (opv_store (ss' := [Seg.cell V0_0 R0_0.one, Seg.cell V0_1 R0_1.one, (sI a0.plan.at_), Seg.cell (.bool a0.off), Seg.cell (.bool (decide (a1 ≥ 0))), (sI a0.left), (sI a0.steps)]) (xs := cellsOf [Seg.cell (.bool (decide (a1 ≥ 0)))]) rfl sz4 rfl rfl rfl (len_cellsOf _) (one_cellsOf _) b_0 (Spl.segs _ 4 1 [Seg.cell (.bool (decide (a1 ≥ 0)))] rfl rfl)) rfl rfl ?_
 rintro _ w3 ⟨b_0, q2⟩
 have R0_0 := R0_0.wr q2 N0_0
 have R0_1 := R0_1.wr q2 N0_1
 have fB := fB.wrS q2 rfl
 refine ol_val (v := (pt G_0 0)) (xr_nilCheck rfl rfl) rfl rfl rfl ?_
 refine ol_val (v := (pt G_0 5)) (xr_fieldAddr (p := 0) (q := 5) rfl fl139_4 rfl) rfl rfl rfl ?_
 refine ol_op0 (opv_store (ss' := [Seg.cell V0_0 R0_0.one, Seg.cell V0_1 R0_1.one, (sI a0.plan.at_), Seg.cell (.bool a0.off), Seg.cell (.bool (decide (a1 ≥ 0))), (sI a1), (sI a0.steps)]) (xs := cellsOf [(sI a1)]) rfl sz3 rfl rfl rfl (len_cellsOf _) (one_cellsOf _) b_0 (Spl.segs _ 5 1 [(sI a1)] rfl rfl)) rfl rfl ?_
 rintro _ w5 ⟨b_0, q4⟩
 have R0_0 := R0_0.wr q4 N0_0
 have R0_1 := R0_1.wr q4 N0_1
 have fB := fB.wrS q4 rfl
 refine ol_nil ?_
 refine cw_region ?_
 refine ol_val (v := (pt G_0 0)) (xr_move rfl rfl) rfl rfl rfl ?_
 refine ol_val (v := .int .i64 a1) (xr_move rfl rfl) rfl rfl rfl ?_
 refine ol_val (v := .bool (decide (a1 = 0))) (xr_eqI rfl Try.underlying3 rfl rfl rfl) rfl rfl rfl ?_
 refine ol_val (v := (pt G_0 0)) (xr_nilCheck rfl rfl) rfl rfl rfl ?_
 refine ol_val (v := (pt G_0 3)) (xr_fieldAddr (p := 0) (q := 3) rfl fl139_2 rfl) rfl rfl rfl ?_
 refine ol_op0 (opv_store (ss' := [Seg.cell V0_0 R0_0.one, Seg.cell V0_1 R0_1.one, (sI a0.plan.at_), Seg.cell (.bool (decide (a1 = 0))), Seg.cell (.bool (decide (a1 ≥ 0))), (sI a1), (sI a0.steps)]) (xs := cellsOf [Seg.cell (.bool (decide (a1 = 0)))]) rfl sz4 rfl rfl rfl (len_cellsOf _) (one_cellsOf _) b_0 (Spl.segs _ 3 1 [Seg.cell (.bool (decide (a1 = 0)))] rfl rfl)) rfl rfl ?_
 rintro _ w7 ⟨b_0, q6⟩
 have R0_0 := R0_0.wr q6 N0_0
 have R0_1 := R0_1.wr q6 N0_1
 have fB := fB.wrS q6 rfl
 refine ol_nil ?_
 obtain rfl := Option.some.inj h
 refine fin_end0 Try.results38 ?_
 exact ⟨_, rfl, rfl, b_0, fB⟩
def pmem_Device_Load.f (fu : Nat) (a0 : S_pmem_Device) (a1 : Int) : Option (Int × Int) := ((pmem_Device_may.f fu a0 a1 (List.length a0.cells : Int)).bind fun t1 => (if (!decide (t1 = 0)) = true then some (0, t1) else (if 0 ≤ a1 ∧ a1 < (List.length a0.cells : Int) then some ((ix a0.cells a1).stored, 0) else none)))
theorem pmem_Device_Load.ok (fu : Nat) (w : World) (a0 : S_pmem_Device) (G_0 : Nat) (V0_0 : Value) (R0_0 : Rd k_pmem_cell w V0_0 a0.cells) (V0_1 : Value) (R0_1 : Rd (kI .i64) w V0_1 a0.plan.list) (b_0 : Blk w G_0 139 [Seg.cell V0_0 R0_0.one, Seg.cell V0_1 R0_1.one, (sI a0.plan.at_), Seg.cell (.bool a0.off), Seg.cell (.bool a0.armed), (sI a0.left), (sI a0.steps)]) (a1 : Int) (r : Int × Int) (h : pmem_Device_Load.f fu a0 a1 = some r) :
  Calls Try.prog 82 (([(pt G_0 0), .int .i64 a1] : List Value).toArray) w (fun e w' => ∃ v, e = .returned v ∧ v = .tuple #[.int .u64 r.1, .int .i64 r.2] ∧ Gr w w') := by
 unfold pmem_Device_Load.f at h
 have fB : Gr w w := Fr.refl _ _
 refine calls_cw Try.func82 rfl Try.ntmps82 rfl ?_
 refine cw_seq ?_
 refine cw_region ?_
 refine ol_val (v := .int .u64 0) (xr_assign rfl rfl) rfl rfl rfl ?_
 refine ol_val (v := .int .i64 0) (xr_assign rfl rfl) rfl rfl rfl ?_
 refine ol_nil ?_
 refine cw_seq ?_
 refine cw_seq ?_
 refine cw_region ?_
 refine ol_val (v := (pt G_0 0)) (xr_move rfl rfl) rfl rfl rfl ?_
 refine ol_val (v := .int .i64 a1) (xr_move rfl rfl) rfl rfl rfl ?_
 refine ol_val (v := (pt G_0 0)) (xr_move rfl rfl) rfl rfl rfl ?_
 refine ol_val (v := (pt G_0 0)) (xr_nilCheck rfl rfl) rfl rfl rfl ?_
 refine ol_val (v := (pt G_0 0)) (xr_fieldAddr (p := 0) (q := 0) rfl fl139_0 rfl) rfl rfl rfl ?_
 refine ol_val (v := V0_0) (xr_load1 (v := V0_0) rfl ag135 rfl (b_0.seg 0 rfl rfl)) rfl rfl rfl ?_
 refine ol_val (v := .int .i64 (List.length a0.cells : Int)) (xr_lenR rfl Try.underlying135 rfl (R0_0.gr fB)) rfl rfl rfl ?_
 obtain ⟨t1, k2, h⟩ := bs h
 refine ol_op (opv_call rfl cal83 (ac rfl (ac rfl (ac rfl an))) (pmem_Device_may.ok fu _ a0 G_0 V0_0 (R0_0.gr fB) V0_1 (R0_1.gr fB) b_0 a1 (List.length a0.cells : Int) _ k2)) rfl rfl rfl ?_
 rintro _ w4 ⟨rfl, q3⟩
 have b_0 := b_0.gr q3
 have fB := fB.gr q3
 refine ol_val (v := .int .i64 t1) (xr_assign rfl rfl) rfl rfl rfl ?_
 refine ol_nil ?_
 refine cw_seq ?_
 refine cw_region ?_
 refine ol_val (v := .int .i64 t1) (xr_move rfl rfl) rfl rfl rfl ?_
 refine ol_val (v := .bool (!decide (t1 = 0))) (xr_neI rfl Try.underlying31 rfl rfl rfl) rfl rfl rfl ?_
 refine ol_nil ?_
 rcases is h with ⟨c5, h⟩ | ⟨c5, h⟩
 ·refine cw_condT rfl c5 ?_
  refine cw_seq ?_
  refine cw_region ?_
  refine ol_val (v := .int .i64 t1) (xr_move rfl rfl) rfl rfl rfl ?_
  refine ol_val (v := .int .u64 0) (xr_assign rfl rfl) rfl rfl rfl ?_
  refine ol_val (v := .int .i64 t1) (xr_assign rfl rfl) rfl rfl rfl ?_
  refine ol_nil ?_
  refine cw_ret ?_
  repeat (first | with_reducible refine thn_r ?_ | with_reducible refine blk_r ?_)
  obtain rfl := Option.some.inj h
  refine fin_ret2 Try.results82 rfl rfl ?_
  exact ⟨_, rfl, rfl, fB⟩
 refine cw_condF rfl c5 ?_
 refine cw_skip ?_
 refine cw_seq ?_
 refine cw_region ?_
 refine ol_val (v := (pt G_0 0)) (xr_move rfl rfl) rfl rfl rfl ?_
 refine ol_val (v := (pt G_0 0)) (xr_nilCheck rfl rfl) rfl rfl rfl ?_
 refine ol_val (v := (pt G_0 0)) (xr_fieldAddr (p := 0) (q := 0) rfl fl139_0 rfl) rfl rfl rfl ?_
 refine ol_val (v := V0_0) (xr_load1 (v := V0_0) rfl ag135 rfl (b_0.seg 0 rfl rfl)) rfl rfl rfl ?_
 refine ol_val (v := .int .i64 a1) (xr_move rfl rfl) rfl rfl rfl ?_
 obtain ⟨g6, h⟩ := gs h
 refine ol_val (v := (pt ((sb V0_0)) (so V0_0 + Int.toNat a1 * 4))) (xr_indexR (K := k_pmem_cell) (v := V0_0) rfl Try.underlying135 sz142 rfl (R0_0.gr fB) rfl g6.1 g6.2) rfl rfl rfl ?_
 refine ol_val (v := (pt ((sb V0_0)) (so V0_0 + Int.toNat a1 * 4 + 1))) (xr_fieldAddr (p := so V0_0 + Int.toNat a1 * 4) (q := 1) rfl fl142_1 rfl) rfl rfl rfl ?_
 refine ol_val (v := .int .u64 ((ix a0.cells a1).stored)) (xr_load1 (v := .int .u64 ((ix a0.cells a1).stored)) rfl ag22 rfl (At.segs (ss := segs_pmem_cell (ix a0.cells a1)) ((R0_0.gr fB).elem g6.1 g6.2) 1 1 rfl)) rfl rfl rfl ?_
 refine ol_val (v := .int .u64 ((ix a0.cells a1).stored)) (xr_assign rfl rfl) rfl rfl rfl ?_
 refine ol_val (v := .int .i64 0) (xr_assign rfl rfl) rfl rfl rfl ?_
 refine ol_nil ?_
 refine cw_ret ?_
 repeat (first | with_reducible refine thn_r ?_ | with_reducible refine blk_r ?_)
 obtain rfl := Option.some.inj h
 refine fin_ret2 Try.results82 rfl rfl ?_
 exact ⟨_, rfl, rfl, fB⟩
def rickyardlaw05_Do.f (fu : Nat) (a0 : S_pmem_Device) (a1 : S_rickyardlaw05_Act) : Option (Int × Int × S_pmem_Device) := ((rickyardref01_Rest.f fu a1.Kind 7).bind fun t15 => (if (decide (t15 = 0)) = true then ((pmem_Device_Store.f fu a0 a1.At a1.W).bind fun t20 => some (0, t20.1, t20.2)) else (if (decide (t15 = 1)) = true then ((pmem_Device_Load.f fu a0 a1.At).bind fun t34 => some (t34.1, t34.2, a0)) else (if (decide (t15 = 2)) = true then ((pmem_Device_Flush.f fu a0 a1.At).bind fun t39 => some (0, t39.1, t39.2)) else (if (decide (t15 = 3)) = true then ((pmem_Device_Fence.f fu a0).bind fun t53 => some (0, t53.1, t53.2)) else (((if (decide (t15 = 4)) = true then ((pmem_Device_Arm.f fu a0 a1.At).bind fun t78 => some (a0.cells, a0.plan.list, t78.plan.at_, t78.off, t78.armed, t78.left, t78.steps)) else (((if (decide (t15 = 5)) = true then ((pmem_Device_Plan.f fu a0 a1.L).bind fun t96 => some (t96.cells, t96.plan.list, t96.plan.at_, t96.off, t96.armed, t96.left, t96.steps)) else (((if (decide (t15 = 6)) = true then ((pmem_Device_Crash.f fu a0 a1.L).bind fun t122 => some (t122.cells, t122.plan.list, t122.plan.at_, t122.off, t122.armed, t122.left, t122.steps)) else some (a0.cells, a0.plan.list, a0.plan.at_, a0.off, a0.armed, a0.left, a0.steps)) : Option ((List S_pmem_cell) × (List Int) × Int × Bool × Bool × Int × Int)).bind fun x110 => some (x110.1, x110.2.1, x110.2.2.1, x110.2.2.2.1, x110.2.2.2.2.1, x110.2.2.2.2.2.1, x110.2.2.2.2.2.2))) : Option ((List S_pmem_cell) × (List Int) × Int × Bool × Bool × Int × Int)).bind fun x84 => some (x84.1, x84.2.1, x84.2.2.1, x84.2.2.2.1, x84.2.2.2.2.1, x84.2.2.2.2.2.1, x84.2.2.2.2.2.2))) : Option ((List S_pmem_cell) × (List Int) × Int × Bool × Bool × Int × Int)).bind fun x66 => some (0, 0, (⟨x66.1, (⟨x66.2.1, x66.2.2.1⟩ : S_pmem_plan), x66.2.2.2.1, x66.2.2.2.2.1, x66.2.2.2.2.2.1, x66.2.2.2.2.2.2⟩ : S_pmem_Device))))))))
theorem rickyardlaw05_Do.ok (fu : Nat) (w : World) (a0 : S_pmem_Device) (G_0 : Nat) (V0_0 : Value) (O0_0 : Own k_pmem_cell 142 w 0 V0_0 a0.cells) (V0_1 : Value) (O0_1 : Own (kI .i64) 3 w 0 V0_1 a0.plan.list) (b_0 : Blk w G_0 139 [Seg.cell V0_0 O0_0.one, Seg.cell V0_1 O0_1.one, (sI a0.plan.at_), Seg.cell (.bool a0.off), Seg.cell (.bool a0.armed), (sI a0.left), (sI a0.steps)]) (a1 : S_rickyardlaw05_Act) (V1_0 : Value) (R1_0 : Rd (kI .i64) w V1_0 a1.L) (NR1_0_P0 : OffR V1_0 a1.L G_0) (NR1_0_R0_0 : OffRV V1_0 a1.L V0_0) (NR1_0_R0_1 : OffRV V1_0 a1.L V0_1) (r : Int × Int × S_pmem_Device) (h : rickyardlaw05_Do.f fu a0 a1 = some r) :
  Calls Try.prog 31 (([(pt G_0 0), aggV [(sI a1.Kind), (sI a1.At), Seg.cell (.int .u64 a1.W), Seg.cell V1_0 R1_0.one]] : List Value).toArray) w (fun e w' => ∃ v, e = .returned v ∧ ∃ u1 : Value, ∃ u4 : Value, ∃ o2 : Own k_pmem_cell 142 w' 0 u1 r.2.2.cells, ∃ m3 : ∀ g, Value.ownBlock u1 = some g → w.heap.size ≤ g ∨ (g = G_0 ∨ some g = Value.ownBlock V0_0 ∨ some g = Value.ownBlock V0_1), ∃ o5 : Own (kI .i64) 3 w' 0 u4 r.2.2.plan.list, ∃ m6 : ∀ g, Value.ownBlock u4 = some g → w.heap.size ≤ g ∨ (g = G_0 ∨ some g = Value.ownBlock V0_0 ∨ some g = Value.ownBlock V0_1), v = .tuple #[.int .u64 r.1, .int .i64 r.2.1] ∧ Blk w' G_0 139 [Seg.cell u1 o2.one, Seg.cell u4 o5.one, (sI r.2.2.plan.at_), Seg.cell (.bool r.2.2.off), Seg.cell (.bool r.2.2.armed), (sI r.2.2.left), (sI r.2.2.steps)] ∧ Fr (fun j => j = G_0 ∨ some j = Value.ownBlock V0_0 ∨ some j = Value.ownBlock V0_1) w w') := by
 unfold rickyardlaw05_Do.f at h
 have fB : Fr (fun j => j = G_0 ∨ some j = Value.ownBlock V0_0 ∨ some j = Value.ownBlock V0_1) w w := Fr.refl _ _
 have M0_0 : ∀ g, Value.ownBlock V0_0 = some g → w.heap.size ≤ g ∨ (g = G_0 ∨ some g = Value.ownBlock V0_0 ∨ some g = Value.ownBlock V0_1) := fun g hg => .inr (.inr (.inl hg.symm))
 have M0_1 : ∀ g, Value.ownBlock V0_1 = some g → w.heap.size ≤ g ∨ (g = G_0 ∨ some g = Value.ownBlock V0_0 ∨ some g = Value.ownBlock V0_1) := fun g hg => .inr (.inr (.inr hg.symm))
 refine calls_cw Try.func31 rfl Try.ntmps31 rfl ?_
 refine cw_seq ?_
 refine cw_region ?_
 refine ol_op (opv_box (ss := [(sI a1.Kind), (sI a1.At), Seg.cell (.int .u64 a1.W), Seg.cell V1_0 R1_0.one]) rfl rfl rfl) rfl rfl rfl ?_
 rintro _ w12 ⟨G7, rfl, b8, q9, z10⟩
 have n13 := b_0.ne z10
 have a14 := OffR.new R1_0 z10 rfl
 have z10 := Nat.le_trans fB.size z10
 have b_0 := b_0.gr q9
 have O0_0 := O0_0.gr q9
 have O0_1 := O0_1.gr q9
 have R1_0 := R1_0.gr q9
 have fB := fB.gr q9
 refine ol_val (v := .int .u64 0) (xr_assign rfl rfl) rfl rfl rfl ?_
 refine ol_val (v := .int .i64 0) (xr_assign rfl rfl) rfl rfl rfl ?_
 refine ol_nil ?_
 refine cw_seq ?_
 refine cw_seq ?_
 refine cw_region ?_
 refine ol_val (v := (pt G7 0)) (xr_fieldAddr (p := 0) (q := 0) rfl fl39_0 rfl) rfl rfl rfl ?_
 refine ol_val (v := .int .i64 a1.Kind) (xr_load1 (v := .int .i64 a1.Kind) rfl ag3 rfl (b8.seg 0 rfl rfl)) rfl rfl rfl ?_
 obtain ⟨t15, k16, h⟩ := bs h
 refine ol_op (opv_call rfl cal27 (ac rfl (ac rfl an)) (rickyardref01_Rest.ok fu _ a1.Kind 7 _ k16)) rfl rfl rfl ?_
 rintro _ w18 ⟨rfl, q17⟩
 have b_0 := b_0.gr q17
 have b8 := b8.gr q17
 have O0_0 := O0_0.gr q17
 have O0_1 := O0_1.gr q17
 have R1_0 := R1_0.gr q17
 have fB := fB.gr q17
 refine ol_nil ?_
 refine cw_block ?_
 refine cw_seq ?_
 refine cw_region ?_
 refine ol_val (v := .bool (decide (t15 = 0))) (xr_eqI rfl Try.underlying3 rfl rfl rfl) rfl rfl rfl ?_
 refine ol_val (v := .bool (decide (t15 = 0))) (xr_assign rfl rfl) rfl rfl rfl ?_
 refine ol_nil ?_
 rcases is h with ⟨c19, h⟩ | ⟨c19, h⟩
 ·refine cw_condT rfl c19 ?_
  refine cw_seq ?_
  refine cw_region ?_
  refine ol_val (v := (pt G_0 0)) (xr_move rfl rfl) rfl rfl rfl ?_
  refine ol_val (v := (pt G7 1)) (xr_fieldAddr (p := 0) (q := 1) rfl fl39_1 rfl) rfl rfl rfl ?_
  refine ol_val (v := .int .i64 a1.At) (xr_load1 (v := .int .i64 a1.At) rfl ag3 rfl (b8.seg 1 rfl rfl)) rfl rfl rfl ?_
  refine ol_val (v := (pt G7 2)) (xr_fieldAddr (p := 0) (q := 2) rfl fl39_2 rfl) rfl rfl rfl ?_
  refine ol_val (v := .int .u64 a1.W) (xr_load1 (v := .int .u64 a1.W) rfl ag22 rfl (b8.seg 2 rfl rfl)) rfl rfl rfl ?_
  obtain ⟨t20, k21, h⟩ := bs h
  have c31 : ∀ k, (k = G_0 ∨ some k = Value.ownBlock V0_0 ∨ some k = Value.ownBlock V0_1) → (w.heap.size ≤ k ∨ (k = G_0 ∨ some k = Value.ownBlock V0_0 ∨ some k = Value.ownBlock V0_1)) := (cv_or (cv_eq (.inr (.inl rfl))) (cv_or (cv_own M0_0) (cv_own M0_1)))
  refine ol_op (opv_call rfl cal28 (ac rfl (ac rfl (ac rfl an))) (pmem_Device_Store.ok fu _ a0 G_0 V0_0 (Own.base O0_0 (Nat.zero_le _)) V0_1 (Own.base O0_1 (Nat.zero_le _)) b_0 a1.At a1.W _ k21)) rfl rfl rfl ?_
  rintro _ w32 ⟨u23, u27, o24, m25, o28, m29, rfl, b_0, q22⟩
  have m25 : ∀ g, Value.ownBlock u23 = some g → w.heap.size ≤ g ∨ (g = G_0 ∨ some g = Value.ownBlock V0_0 ∨ some g = Value.ownBlock V0_1) := fun g hg => (m25 g hg).elim (fun x => .inl (Nat.le_trans fB.size x)) (c31 g)
  have m29 : ∀ g, Value.ownBlock u27 = some g → w.heap.size ≤ g ∨ (g = G_0 ∨ some g = Value.ownBlock V0_0 ∨ some g = Value.ownBlock V0_1) := fun g hg => (m29 g hg).elim (fun x => .inl (Nat.le_trans fB.size x)) (c31 g)
  have fB := fB.call q22 c31
  refine ol_val (v := .int .u64 0) (xr_assign rfl rfl) rfl rfl rfl ?_
  refine ol_val (v := .int .i64 t20.1) (xr_assign rfl rfl) rfl rfl rfl ?_
  refine ol_nil ?_
  refine cw_ret ?_
  repeat (first | with_reducible refine thn_r ?_ | with_reducible refine blk_r ?_)
  obtain rfl := Option.some.inj h
  refine fin_ret2 Try.results31 rfl rfl ?_
  exact ⟨_, rfl, u23, u27, o24, m25, o28, m29, rfl, b_0, fB⟩
 refine cw_condF rfl c19 ?_
 refine cw_seq ?_
 refine cw_region ?_
 refine ol_val (v := .bool (decide (t15 = 1))) (xr_eqI rfl Try.underlying3 rfl rfl rfl) rfl rfl rfl ?_
 refine ol_val (v := .bool (decide (t15 = 1))) (xr_assign rfl rfl) rfl rfl rfl ?_
 refine ol_nil ?_
 rcases is h with ⟨c33, h⟩ | ⟨c33, h⟩
 ·refine cw_condT rfl c33 ?_
  refine cw_seq ?_
  refine cw_region ?_
  refine ol_val (v := (pt G_0 0)) (xr_move rfl rfl) rfl rfl rfl ?_
  refine ol_val (v := (pt G7 1)) (xr_fieldAddr (p := 0) (q := 1) rfl fl39_1 rfl) rfl rfl rfl ?_
  refine ol_val (v := .int .i64 a1.At) (xr_load1 (v := .int .i64 a1.At) rfl ag3 rfl (b8.seg 1 rfl rfl)) rfl rfl rfl ?_
  obtain ⟨t34, k35, h⟩ := bs h
  refine ol_op (opv_call rfl cal82 (ac rfl (ac rfl an)) (pmem_Device_Load.ok fu _ a0 G_0 V0_0 (O0_0.rd) V0_1 (O0_1.rd) b_0 a1.At _ k35)) rfl rfl rfl ?_
  rintro _ w37 ⟨rfl, q36⟩
  have b_0 := b_0.gr q36
  have O0_0 := O0_0.gr q36
  have O0_1 := O0_1.gr q36
  have fB := fB.gr q36
  refine ol_val (v := .int .u64 t34.1) (xr_extract rfl rfl rfl) rfl rfl rfl ?_
  refine ol_val (v := .int .i64 t34.2) (xr_extract rfl rfl rfl) rfl rfl rfl ?_
  refine ol_val (v := .int .u64 t34.1) (xr_assign rfl rfl) rfl rfl rfl ?_
  refine ol_val (v := .int .i64 t34.2) (xr_assign rfl rfl) rfl rfl rfl ?_
  refine ol_nil ?_
  refine cw_ret ?_
  repeat (first | with_reducible refine thn_r ?_ | with_reducible refine blk_r ?_)
  obtain rfl := Option.some.inj h
  refine fin_ret2 Try.results31 rfl rfl ?_
  exact ⟨_, rfl, V0_0, V0_1, O0_0, M0_0, O0_1, M0_1, rfl, b_0, fB⟩
 refine cw_condF rfl c33 ?_
 refine cw_seq ?_
 refine cw_region ?_
 refine ol_val (v := .bool (decide (t15 = 2))) (xr_eqI rfl Try.underlying3 rfl rfl rfl) rfl rfl rfl ?_
 refine ol_val (v := .bool (decide (t15 = 2))) (xr_assign rfl rfl) rfl rfl rfl ?_
 refine ol_nil ?_
 rcases is h with ⟨c38, h⟩ | ⟨c38, h⟩
 ·refine cw_condT rfl c38 ?_
  refine cw_seq ?_
  refine cw_region ?_
  refine ol_val (v := (pt G_0 0)) (xr_move rfl rfl) rfl rfl rfl ?_
  refine ol_val (v := (pt G7 1)) (xr_fieldAddr (p := 0) (q := 1) rfl fl39_1 rfl) rfl rfl rfl ?_
  refine ol_val (v := .int .i64 a1.At) (xr_load1 (v := .int .i64 a1.At) rfl ag3 rfl (b8.seg 1 rfl rfl)) rfl rfl rfl ?_
  obtain ⟨t39, k40, h⟩ := bs h
  have c50 : ∀ k, (k = G_0 ∨ some k = Value.ownBlock V0_0 ∨ some k = Value.ownBlock V0_1) → (w.heap.size ≤ k ∨ (k = G_0 ∨ some k = Value.ownBlock V0_0 ∨ some k = Value.ownBlock V0_1)) := (cv_or (cv_eq (.inr (.inl rfl))) (cv_or (cv_own M0_0) (cv_own M0_1)))
  refine ol_op (opv_call rfl cal29 (ac rfl (ac rfl an)) (pmem_Device_Flush.ok fu _ a0 G_0 V0_0 (Own.base O0_0 (Nat.zero_le _)) V0_1 (Own.base O0_1 (Nat.zero_le _)) b_0 a1.At _ k40)) rfl rfl rfl ?_
  rintro _ w51 ⟨u42, u46, o43, m44, o47, m48, rfl, b_0, q41⟩
  have m44 : ∀ g, Value.ownBlock u42 = some g → w.heap.size ≤ g ∨ (g = G_0 ∨ some g = Value.ownBlock V0_0 ∨ some g = Value.ownBlock V0_1) := fun g hg => (m44 g hg).elim (fun x => .inl (Nat.le_trans fB.size x)) (c50 g)
  have m48 : ∀ g, Value.ownBlock u46 = some g → w.heap.size ≤ g ∨ (g = G_0 ∨ some g = Value.ownBlock V0_0 ∨ some g = Value.ownBlock V0_1) := fun g hg => (m48 g hg).elim (fun x => .inl (Nat.le_trans fB.size x)) (c50 g)
  have fB := fB.call q41 c50
  refine ol_val (v := .int .u64 0) (xr_assign rfl rfl) rfl rfl rfl ?_
  refine ol_val (v := .int .i64 t39.1) (xr_assign rfl rfl) rfl rfl rfl ?_
  refine ol_nil ?_
  refine cw_ret ?_
  repeat (first | with_reducible refine thn_r ?_ | with_reducible refine blk_r ?_)
  obtain rfl := Option.some.inj h
  refine fin_ret2 Try.results31 rfl rfl ?_
  exact ⟨_, rfl, u42, u46, o43, m44, o47, m48, rfl, b_0, fB⟩
 refine cw_condF rfl c38 ?_
 refine cw_seq ?_
 refine cw_region ?_
 refine ol_val (v := .bool (decide (t15 = 3))) (xr_eqI rfl Try.underlying3 rfl rfl rfl) rfl rfl rfl ?_
 refine ol_val (v := .bool (decide (t15 = 3))) (xr_assign rfl rfl) rfl rfl rfl ?_
 refine ol_nil ?_
 rcases is h with ⟨c52, h⟩ | ⟨c52, h⟩
 ·refine cw_condT rfl c52 ?_
  refine cw_seq ?_
  refine cw_region ?_
  refine ol_val (v := (pt G_0 0)) (xr_move rfl rfl) rfl rfl rfl ?_
  obtain ⟨t53, k54, h⟩ := bs h
  have c64 : ∀ k, (k = G_0 ∨ some k = Value.ownBlock V0_0 ∨ some k = Value.ownBlock V0_1) → (w.heap.size ≤ k ∨ (k = G_0 ∨ some k = Value.ownBlock V0_0 ∨ some k = Value.ownBlock V0_1)) := (cv_or (cv_eq (.inr (.inl rfl))) (cv_or (cv_own M0_0) (cv_own M0_1)))
  refine ol_op (opv_call rfl cal30 (ac rfl an) (pmem_Device_Fence.ok fu _ a0 G_0 V0_0 (Own.base O0_0 (Nat.zero_le _)) V0_1 (Own.base O0_1 (Nat.zero_le _)) b_0 _ k54)) rfl rfl rfl ?_
  rintro _ w65 ⟨u56, u60, o57, m58, o61, m62, rfl, b_0, q55⟩
  have m58 : ∀ g, Value.ownBlock u56 = some g → w.heap.size ≤ g ∨ (g = G_0 ∨ some g = Value.ownBlock V0_0 ∨ some g = Value.ownBlock V0_1) := fun g hg => (m58 g hg).elim (fun x => .inl (Nat.le_trans fB.size x)) (c64 g)
  have m62 : ∀ g, Value.ownBlock u60 = some g → w.heap.size ≤ g ∨ (g = G_0 ∨ some g = Value.ownBlock V0_0 ∨ some g = Value.ownBlock V0_1) := fun g hg => (m62 g hg).elim (fun x => .inl (Nat.le_trans fB.size x)) (c64 g)
  have fB := fB.call q55 c64
  refine ol_val (v := .int .u64 0) (xr_assign rfl rfl) rfl rfl rfl ?_
  refine ol_val (v := .int .i64 t53.1) (xr_assign rfl rfl) rfl rfl rfl ?_
  refine ol_nil ?_
  refine cw_ret ?_
  repeat (first | with_reducible refine thn_r ?_ | with_reducible refine blk_r ?_)
  obtain rfl := Option.some.inj h
  refine fin_ret2 Try.results31 rfl rfl ?_
  exact ⟨_, rfl, u56, u60, o57, m58, o61, m62, rfl, b_0, fB⟩
 refine cw_condF rfl c52 ?_
 refine cw_seq ?_
 refine cw_region ?_
 refine ol_val (v := .bool (decide (t15 = 4))) (xr_eqI rfl Try.underlying3 rfl rfl rfl) rfl rfl rfl ?_
 refine ol_val (v := .bool (decide (t15 = 4))) (xr_assign rfl rfl) rfl rfl rfl ?_
 refine ol_nil ?_
 obtain ⟨x66, j67, h68⟩ := bs h
 refine cw_mid (fun ρ' w' => ∃ v69 : Value, ∃ v73 : Value, ∃ o70 : Own k_pmem_cell 142 w' 0 v69 x66.1, ∃ o74 : Own (kI .i64) 3 w' 0 v73 x66.2.1, ∃ m72 : ∀ g, Value.ownBlock v69 = some g → w.heap.size ≤ g ∨ (g = G_0 ∨ some g = Value.ownBlock V0_0 ∨ some g = Value.ownBlock V0_1), ∃ m76 : ∀ g, Value.ownBlock v73 = some g → w.heap.size ≤ g ∨ (g = G_0 ∨ some g = Value.ownBlock V0_0 ∨ some g = Value.ownBlock V0_1), Blk w' G_0 139 [Seg.cell v69 o70.one, Seg.cell v73 o74.one, (sI x66.2.2.1), Seg.cell (.bool x66.2.2.2.1), Seg.cell (.bool x66.2.2.2.2.1), (sI x66.2.2.2.2.2.1), (sI x66.2.2.2.2.2.2)] ∧ Fr (fun j => j = G_0 ∨ some j = Value.ownBlock V0_0 ∨ some j = Value.ownBlock V0_1) w w') ?_ ?_
 ·have h := j67
  rcases is h with ⟨c77, h⟩ | ⟨c77, h⟩
  ·refine cw_condT rfl c77 ?_
   refine cw_region ?_
   refine ol_val (v := (pt G_0 0)) (xr_move rfl rfl) rfl rfl rfl ?_
   refine ol_val (v := (pt G7 1)) (xr_fieldAddr (p := 0) (q := 1) rfl fl39_1 rfl) rfl rfl rfl ?_
   refine ol_val (v := .int .i64 a1.At) (xr_load1 (v := .int .i64 a1.At) rfl ag3 rfl (b8.seg 1 rfl rfl)) rfl rfl rfl ?_
   obtain ⟨t78, k79, h⟩ := bs h
   have f81 := off_ty b_0 O0_0 (by decide)
   have f82 := off_ty b_0 O0_1 (by decide)
   refine ol_op (opv_call rfl cal38 (ac rfl (ac rfl an)) (pmem_Device_Arm.ok fu _ a0 G_0 V0_0 O0_0.rd (OffR.own O0_0 (off_ty b_0 O0_0 (by decide))) V0_1 O0_1.rd (OffR.own O0_1 (off_ty b_0 O0_1 (by decide))) b_0 a1.At _ k79)) rfl rfl rfl ?_
   rintro _ w83 ⟨rfl, b_0, q80⟩
   have O0_0 := O0_0.wr q80 f81
   have O0_1 := O0_1.wr q80 f82
   have fB := fB.wrS q80 (.inl rfl)
   refine ol_nil ?_
   obtain rfl := Option.some.inj h
   refine thn_i ?_
   exact ⟨V0_0, V0_1, O0_0, O0_1, M0_0, M0_1, b_0, fB⟩
  refine cw_condF rfl c77 ?_
  refine cw_seq ?_
  refine cw_region ?_
  refine ol_val (v := .bool (decide (t15 = 5))) (xr_eqI rfl Try.underlying3 rfl rfl rfl) rfl rfl rfl ?_
  refine ol_val (v := .bool (decide (t15 = 5))) (xr_assign rfl rfl) rfl rfl rfl ?_
  refine ol_nil ?_
  obtain ⟨x84, j85, h86⟩ := bs h
  refine cw_mid (fun ρ' w' => ∃ v87 : Value, ∃ v91 : Value, ∃ o88 : Own k_pmem_cell 142 w' 0 v87 x84.1, ∃ o92 : Own (kI .i64) 3 w' 0 v91 x84.2.1, ∃ m90 : ∀ g, Value.ownBlock v87 = some g → w.heap.size ≤ g ∨ (g = G_0 ∨ some g = Value.ownBlock V0_0 ∨ some g = Value.ownBlock V0_1), ∃ m94 : ∀ g, Value.ownBlock v91 = some g → w.heap.size ≤ g ∨ (g = G_0 ∨ some g = Value.ownBlock V0_0 ∨ some g = Value.ownBlock V0_1), Blk w' G_0 139 [Seg.cell v87 o88.one, Seg.cell v91 o92.one, (sI x84.2.2.1), Seg.cell (.bool x84.2.2.2.1), Seg.cell (.bool x84.2.2.2.2.1), (sI x84.2.2.2.2.2.1), (sI x84.2.2.2.2.2.2)] ∧ Fr (fun j => j = G_0 ∨ some j = Value.ownBlock V0_0 ∨ some j = Value.ownBlock V0_1) w w') ?_ ?_
  ·have h := j85
   rcases is h with ⟨c95, h⟩ | ⟨c95, h⟩
   ·refine cw_condT rfl c95 ?_
    refine cw_region ?_
    refine ol_val (v := (pt G_0 0)) (xr_move rfl rfl) rfl rfl rfl ?_
    refine ol_val (v := (pt G7 3)) (xr_fieldAddr (p := 0) (q := 3) rfl fl39_3 rfl) rfl rfl rfl ?_
    refine ol_val (v := V1_0) (xr_load1 (v := V1_0) rfl ag25 rfl (b8.seg 3 rfl rfl)) rfl rfl rfl ?_
    obtain ⟨t96, k97, h⟩ := bs h
    have f107 := (ro_or (ro_eq NR1_0_P0) (ro_or (ro_own NR1_0_R0_0) (ro_own NR1_0_R0_1)))
    have c108 : ∀ k, (k = G_0 ∨ some k = Value.ownBlock V0_0 ∨ some k = Value.ownBlock V0_1) → (w.heap.size ≤ k ∨ (k = G_0 ∨ some k = Value.ownBlock V0_0 ∨ some k = Value.ownBlock V0_1)) := (cv_or (cv_eq (.inr (.inl rfl))) (cv_or (cv_own M0_0) (cv_own M0_1)))
    refine ol_op (opv_call rfl cal35 (ac rfl (ac rfl an)) (pmem_Device_Plan.ok fu _ a0 G_0 V0_0 (Own.base O0_0 (Nat.zero_le _)) V0_1 (Own.base O0_1 (Nat.zero_le _)) b_0 a1.L V1_0 (R1_0) NR1_0_P0 NR1_0_R0_0 NR1_0_R0_1 _ k97)) rfl rfl rfl ?_
    rintro _ w109 ⟨u99, u103, o100, m101, o104, m105, rfl, b_0, q98⟩
    have m101 : ∀ g, Value.ownBlock u99 = some g → w.heap.size ≤ g ∨ (g = G_0 ∨ some g = Value.ownBlock V0_0 ∨ some g = Value.ownBlock V0_1) := fun g hg => (m101 g hg).elim (fun x => .inl (Nat.le_trans fB.size x)) (c108 g)
    have m105 : ∀ g, Value.ownBlock u103 = some g → w.heap.size ≤ g ∨ (g = G_0 ∨ some g = Value.ownBlock V0_0 ∨ some g = Value.ownBlock V0_1) := fun g hg => (m105 g hg).elim (fun x => .inl (Nat.le_trans fB.size x)) (c108 g)
    have fB := fB.call q98 c108
    refine ol_nil ?_
    obtain rfl := Option.some.inj h
    refine thn_i ?_
    exact ⟨u99, u103, o100, o104, m101, m105, b_0, fB⟩
   refine cw_condF rfl c95 ?_
   refine cw_seq ?_
   refine cw_region ?_
   refine ol_val (v := .bool (decide (t15 = 6))) (xr_eqI rfl Try.underlying3 rfl rfl rfl) rfl rfl rfl ?_
   refine ol_val (v := .bool (decide (t15 = 6))) (xr_assign rfl rfl) rfl rfl rfl ?_
   refine ol_nil ?_
   obtain ⟨x110, j111, h112⟩ := bs h
   refine cw_mid (fun ρ' w' => ∃ v113 : Value, ∃ v117 : Value, ∃ o114 : Own k_pmem_cell 142 w' 0 v113 x110.1, ∃ o118 : Own (kI .i64) 3 w' 0 v117 x110.2.1, ∃ m116 : ∀ g, Value.ownBlock v113 = some g → w.heap.size ≤ g ∨ (g = G_0 ∨ some g = Value.ownBlock V0_0 ∨ some g = Value.ownBlock V0_1), ∃ m120 : ∀ g, Value.ownBlock v117 = some g → w.heap.size ≤ g ∨ (g = G_0 ∨ some g = Value.ownBlock V0_0 ∨ some g = Value.ownBlock V0_1), Blk w' G_0 139 [Seg.cell v113 o114.one, Seg.cell v117 o118.one, (sI x110.2.2.1), Seg.cell (.bool x110.2.2.2.1), Seg.cell (.bool x110.2.2.2.2.1), (sI x110.2.2.2.2.2.1), (sI x110.2.2.2.2.2.2)] ∧ Fr (fun j => j = G_0 ∨ some j = Value.ownBlock V0_0 ∨ some j = Value.ownBlock V0_1) w w') ?_ ?_
   ·have h := j111
    rcases is h with ⟨c121, h⟩ | ⟨c121, h⟩
    ·refine cw_condT rfl c121 ?_
     refine cw_region ?_
     refine ol_val (v := (pt G_0 0)) (xr_move rfl rfl) rfl rfl rfl ?_
     refine ol_val (v := (pt G7 3)) (xr_fieldAddr (p := 0) (q := 3) rfl fl39_3 rfl) rfl rfl rfl ?_
     refine ol_val (v := V1_0) (xr_load1 (v := V1_0) rfl ag25 rfl (b8.seg 3 rfl rfl)) rfl rfl rfl ?_
     obtain ⟨t122, k123, h⟩ := bs h
     have f133 := (ro_or (ro_eq NR1_0_P0) (ro_or (ro_own NR1_0_R0_0) (ro_own NR1_0_R0_1)))
     have c134 : ∀ k, (k = G_0 ∨ some k = Value.ownBlock V0_0 ∨ some k = Value.ownBlock V0_1) → (w.heap.size ≤ k ∨ (k = G_0 ∨ some k = Value.ownBlock V0_0 ∨ some k = Value.ownBlock V0_1)) := (cv_or (cv_eq (.inr (.inl rfl))) (cv_or (cv_own M0_0) (cv_own M0_1)))
     refine ol_op (opv_call rfl cal32 (ac rfl (ac rfl an)) (pmem_Device_Crash.ok fu _ a0 G_0 V0_0 (Own.base O0_0 (Nat.zero_le _)) V0_1 (Own.base O0_1 (Nat.zero_le _)) b_0 a1.L V1_0 (R1_0) NR1_0_P0 NR1_0_R0_0 NR1_0_R0_1 _ k123)) rfl rfl rfl ?_
     rintro _ w135 ⟨u125, u129, o126, m127, o130, m131, rfl, b_0, q124⟩
     have m127 : ∀ g, Value.ownBlock u125 = some g → w.heap.size ≤ g ∨ (g = G_0 ∨ some g = Value.ownBlock V0_0 ∨ some g = Value.ownBlock V0_1) := fun g hg => (m127 g hg).elim (fun x => .inl (Nat.le_trans fB.size x)) (c134 g)
     have m131 : ∀ g, Value.ownBlock u129 = some g → w.heap.size ≤ g ∨ (g = G_0 ∨ some g = Value.ownBlock V0_0 ∨ some g = Value.ownBlock V0_1) := fun g hg => (m131 g hg).elim (fun x => .inl (Nat.le_trans fB.size x)) (c134 g)
     have fB := fB.call q124 c134
     refine ol_nil ?_
     obtain rfl := Option.some.inj h
     refine thn_i ?_
     exact ⟨u125, u129, o126, o130, m127, m131, b_0, fB⟩
    refine cw_condF rfl c121 ?_
    refine cw_skip ?_
    obtain rfl := Option.some.inj h
    refine thn_i ?_
    exact ⟨V0_0, V0_1, O0_0, O0_1, M0_0, M0_1, b_0, fB⟩
   rintro ρ136 w137 ⟨v113, v117, o114, o118, m116, m120, b_0, fB⟩
   have h := h112
   obtain rfl := Option.some.inj h
   refine thn_i ?_
   exact ⟨v113, v117, o114, o118, m116, m120, b_0, fB⟩
  rintro ρ138 w139 ⟨v87, v91, o88, o92, m90, m94, b_0, fB⟩
  have h := h86
  obtain rfl := Option.some.inj h
  refine thn_i ?_
  exact ⟨v87, v91, o88, o92, m90, m94, b_0, fB⟩
 rintro ρ140 w141 ⟨v69, v73, o70, o74, m72, m76, b_0, fB⟩
 have h := h68
 refine blk_i ?_
 refine cw_seq ?_
 refine cw_region ?_
 refine ol_val (v := .int .u64 0) (xr_assign rfl rfl) rfl rfl rfl ?_
 refine ol_val (v := .int .i64 0) (xr_assign rfl rfl) rfl rfl rfl ?_
 refine ol_nil ?_
 refine cw_ret ?_
 repeat (first | with_reducible refine thn_r ?_ | with_reducible refine blk_r ?_)
 obtain rfl := Option.some.inj h
 refine fin_ret2 Try.results31 rfl rfl ?_
 exact ⟨_, rfl, v69, v73, o70, m72, o74, m76, rfl, b_0, fB⟩
def rickyardref05_New.f (fu : Nat) (a0 : Int) : Option S_rickyardref05_Device := (if 0 ≤ (IntKind.i64.wrap (8 * a0)) ∧ Int.toNat (IntKind.i64.wrap (8 * a0)) ≤ LIM then (if 0 ≤ (IntKind.i64.wrap (8 * a0)) ∧ Int.toNat (IntKind.i64.wrap (8 * a0)) ≤ LIM then (if 0 ≤ (IntKind.i64.wrap (8 * a0)) ∧ Int.toNat (IntKind.i64.wrap (8 * a0)) ≤ LIM then (if 0 ≤ (IntKind.i64.wrap (8 * a0)) ∧ Int.toNat (IntKind.i64.wrap (8 * a0)) ≤ LIM then some ((⟨(List.replicate (Int.toNat (IntKind.i64.wrap (8 * a0))) (0 : Int)), (List.replicate (Int.toNat (IntKind.i64.wrap (8 * a0))) (0 : Int)), (List.replicate (Int.toNat (IntKind.i64.wrap (8 * a0))) (0 : Int)), (List.replicate (Int.toNat (IntKind.i64.wrap (8 * a0))) false), [], (0 : Int), (-1), (0 : Int)⟩ : S_rickyardref05_Device)) else none) else none) else none) else none)
theorem rickyardref05_New.ok (fu : Nat) (w : World) (a0 : Int) (r : S_rickyardref05_Device) (h : rickyardref05_New.f fu a0 = some r) :
  Calls Try.prog 44 (([.int .i64 a0] : List Value).toArray) w (fun e w' => ∃ v, e = .returned v ∧ ∃ u1 : Value, ∃ p2 : ∃ G9 : Nat, ∃ U0 : Value, ∃ U1 : Value, ∃ U2 : Value, ∃ U3 : Value, ∃ U4 : Value, ∃ O0 : Own (kI .u64) 22 w' w.heap.size U0 r.Lasts, ∃ O1 : Own (kI .u64) 22 w' w.heap.size U1 r.Stored, ∃ O2 : Own (kI .u64) 22 w' w.heap.size U2 r.Sent, ∃ O3 : Own kB 4 w' w.heap.size U3 r.Flushed, ∃ O4 : Own (kI .i64) 3 w' w.heap.size U4 r.Plan, ∃ A0_1 : OffV U0 U1, ∃ A0_2 : OffV U0 U2, ∃ A1_2 : OffV U1 U2, u1 = (pt G9 0) ∧ w.heap.size ≤ G9 ∧ Blk w' G9 65 [Seg.cell U0 O0.one, Seg.cell U1 O1.one, Seg.cell U2 O2.one, Seg.cell U3 O3.one, Seg.cell U4 O4.one, (sI r.Since), (sI r.Left), (sI r.Steps)], v = u1 ∧ Gr w w') := by
 unfold rickyardref05_New.f at h
 have fB : Gr w w := Fr.refl _ _
 refine calls_cw Try.func44 rfl Try.ntmps44 rfl ?_
 refine cw_seq ?_
 refine cw_region ?_
 refine ol_val (v := .pointer none) (xr_assign rfl rfl) rfl rfl rfl ?_
 refine ol_nil ?_
 refine cw_seq ?_
 refine cw_region ?_
 refine ol_val (v := .int .i64 a0) (xr_move rfl rfl) rfl rfl rfl ?_
 refine ol_val (v := .int .i64 (IntKind.i64.wrap (8 * a0))) (xr_mul rfl rfl rfl) rfl rfl rfl ?_
 refine ol_val (v := .int .i64 (IntKind.i64.wrap (8 * a0))) (xr_assign rfl rfl) rfl rfl rfl ?_
 refine ol_nil ?_
 refine cw_seq ?_
 obtain ⟨g3, h⟩ := gs h
 obtain ⟨g9, h⟩ := gs h
 obtain ⟨g15, h⟩ := gs h
 obtain ⟨g21, h⟩ := gs h
 refine cw_drawP 8 [fun vz wz => vz = (.int .i64 (IntKind.i64.wrap (8 * a0)) : Value), fun vz wz => ∃ v4 : Value, ∃ o6 : Own (kI .u64) 22 wz w.heap.size v4 (List.replicate (Int.toNat (IntKind.i64.wrap (8 * a0))) (0 : Int)), vz = (v4 : Value), fun vz wz => vz = (.int .i64 (IntKind.i64.wrap (8 * a0)) : Value), fun vz wz => ∃ v10 : Value, ∃ o12 : Own (kI .u64) 22 wz w.heap.size v10 (List.replicate (Int.toNat (IntKind.i64.wrap (8 * a0))) (0 : Int)), vz = (v10 : Value), fun vz wz => vz = (.int .i64 (IntKind.i64.wrap (8 * a0)) : Value), fun vz wz => ∃ v16 : Value, ∃ o18 : Own (kI .u64) 22 wz w.heap.size v16 (List.replicate (Int.toNat (IntKind.i64.wrap (8 * a0))) (0 : Int)), vz = (v16 : Value), fun vz wz => vz = (.int .i64 (IntKind.i64.wrap (8 * a0)) : Value), fun vz wz => ∃ v22 : Value, ∃ o24 : Own kB 4 wz w.heap.size v22 (List.replicate (Int.toNat (IntKind.i64.wrap (8 * a0))) false), vz = (v22 : Value)] [false, true, false, true, false, true, false, true] mo rfl rfl ⟨fun _ _ _ h _ => h, fun _ _ _ ⟨v4, o6, h⟩ q => ⟨v4, o6.gr q, h⟩, fun _ _ _ h _ => h, fun _ _ _ ⟨v10, o12, h⟩ q => ⟨v10, o12.gr q, h⟩, fun _ _ _ h _ => h, fun _ _ _ ⟨v16, o18, h⟩ q => ⟨v16, o18.gr q, h⟩, fun _ _ _ h _ => h, fun _ _ _ ⟨v22, o24, h⟩ q => ⟨v22, o24.gr q, h⟩, trivial⟩ ⟨(fun e => by cases e), (fun _ v w ⟨v4, o6, e⟩ k hk => Own.lt o6 (by rw [← e]; exact hk)), (fun e => by cases e), (fun _ v w ⟨v10, o12, e⟩ k hk => Own.lt o12 (by rw [← e]; exact hk)), (fun e => by cases e), (fun _ v w ⟨v16, o18, e⟩ k hk => Own.lt o18 (by rw [← e]; exact hk)), (fun e => by cases e), (fun _ v w ⟨v22, o24, e⟩ k hk => Own.lt o24 (by rw [← e]; exact hk)), trivial⟩ ?_ ?_
 ·refine ⟨?_, ?_, ?_, ?_, ?_, ?_, ?_, ?_, trivial⟩
  ·intro ρz wz hz hk hd
   refine sk_nal rfl ?_
   exact sk_val (v := .int .i64 (IntKind.i64.wrap (8 * a0))) (xr_move rfl ((hk 3 rfl).trans rfl)) rfl rfl
  ·intro ρz wz hz hk hd
   have d6 := hd 0 rfl 6 rfl
   refine sk_alloc (opv_make (K := (kI .u64)) (z := (0 : Int)) rfl Try.underlying46 el22 rfl d6 d6 g3.1 g3.2 rfl (Nat.le_trans fB.size hz.size)) rfl ?_
   rintro v4 wy ⟨o6, q5, z7⟩
   exact ⟨⟨⟨v4, o6, rfl⟩, q5⟩, z7⟩
  ·intro ρz wz hz hk hd
   refine sk_nal rfl ?_
   exact sk_val (v := .int .i64 (IntKind.i64.wrap (8 * a0))) (xr_move rfl ((hk 3 rfl).trans rfl)) rfl rfl
  ·intro ρz wz hz hk hd
   have d8 := hd 2 rfl 8 rfl
   refine sk_alloc (opv_make (K := (kI .u64)) (z := (0 : Int)) rfl Try.underlying46 el22 rfl d8 d8 g9.1 g9.2 rfl (Nat.le_trans fB.size hz.size)) rfl ?_
   rintro v10 wy ⟨o12, q11, z13⟩
   exact ⟨⟨⟨v10, o12, rfl⟩, q11⟩, z13⟩
  ·intro ρz wz hz hk hd
   refine sk_nal rfl ?_
   exact sk_val (v := .int .i64 (IntKind.i64.wrap (8 * a0))) (xr_move rfl ((hk 3 rfl).trans rfl)) rfl rfl
  ·intro ρz wz hz hk hd
   have d10 := hd 4 rfl 10 rfl
   refine sk_alloc (opv_make (K := (kI .u64)) (z := (0 : Int)) rfl Try.underlying46 el22 rfl d10 d10 g15.1 g15.2 rfl (Nat.le_trans fB.size hz.size)) rfl ?_
   rintro v16 wy ⟨o18, q17, z19⟩
   exact ⟨⟨⟨v16, o18, rfl⟩, q17⟩, z19⟩
  ·intro ρz wz hz hk hd
   refine sk_nal rfl ?_
   exact sk_val (v := .int .i64 (IntKind.i64.wrap (8 * a0))) (xr_move rfl ((hk 3 rfl).trans rfl)) rfl rfl
  intro ρz wz hz hk hd
  have d12 := hd 6 rfl 12 rfl
  refine sk_alloc (opv_make (K := kB) (z := false) rfl Try.underlying63 el4 rfl d12 d12 g21.1 g21.2 rfl (Nat.le_trans fB.size hz.size)) rfl ?_
  rintro v22 wy ⟨o24, q23, z25⟩
  exact ⟨⟨⟨v22, o24, rfl⟩, q23⟩, z25⟩
 intro ρ27 w28 q29 hk hd hp
 obtain ⟨v30, o31, e7⟩ := hd 1 rfl 7 rfl
 obtain ⟨v32, o33, e9⟩ := hd 3 rfl 9 rfl
 obtain ⟨v34, o35, e11⟩ := hd 5 rfl 11 rfl
 obtain ⟨v36, o37, e13⟩ := hd 7 rfl 13 rfl
 have fB := fB.gr q29
 have a42 : OffV v30 v32 := by have h9 := hp 1 3 rfl rfl rfl rfl rfl 7 9 rfl rfl; rwa [e7, e9] at h9
 have a43 : OffV v30 v34 := by have h9 := hp 1 5 rfl rfl rfl rfl rfl 7 11 rfl rfl; rwa [e7, e11] at h9
 have a44 : OffV v32 v34 := by have h9 := hp 3 5 rfl rfl rfl rfl rfl 9 11 rfl rfl; rwa [e9, e11] at h9
 refine ol_val (v := aggV [Seg.cell v30 o31.one, Seg.cell v32 o33.one, Seg.cell v34 o35.one, Seg.cell v36 o37.one, Seg.cell (.slice none 0 0) (by rfl), (sI (0 : Int)), (sI (-1)), (sI (0 : Int))]) (xr_buildS (vals := [(0, v30), (1, v32), (2, v34), (3, v36), (6, .int .i64 (-1))]) (res := [Seg.cell v30 o31.one, Seg.cell v32 o33.one, Seg.cell v34 o35.one, Seg.cell v36 o37.one, Seg.cell (.slice none 0 0) (by rfl), (sI (0 : Int)), (sI (-1)), (sI (0 : Int))]) rfl ⟨rfl, e7, ⟨rfl, e9, ⟨rfl, e11, ⟨rfl, e13, ⟨rfl, rfl, trivial⟩⟩⟩⟩⟩ Try.underlying65 ze65 pl65 (fl_cons (xs := cellsOf [Seg.cell v30 o31.one]) (cs' := cellsOf [Seg.cell v30 o31.one, Seg.cell (.slice none 0 0) (by rfl), Seg.cell (.slice none 0 0) (by rfl), Seg.cell (.slice none 0 0) (by rfl), Seg.cell (.slice none 0 0) (by rfl), (sI (0 : Int)), (sI (0 : Int)), (sI (0 : Int))]) rfl (cells_one o31.one) (len_cellsOf _) (Spl.segs [Seg.cell (.slice none 0 0) (by rfl), Seg.cell (.slice none 0 0) (by rfl), Seg.cell (.slice none 0 0) (by rfl), Seg.cell (.slice none 0 0) (by rfl), Seg.cell (.slice none 0 0) (by rfl), (sI (0 : Int)), (sI (0 : Int)), (sI (0 : Int))] 0 1 [Seg.cell v30 o31.one] rfl rfl) (fl_cons (xs := cellsOf [Seg.cell v32 o33.one]) (cs' := cellsOf [Seg.cell v30 o31.one, Seg.cell v32 o33.one, Seg.cell (.slice none 0 0) (by rfl), Seg.cell (.slice none 0 0) (by rfl), Seg.cell (.slice none 0 0) (by rfl), (sI (0 : Int)), (sI (0 : Int)), (sI (0 : Int))]) rfl (cells_one o33.one) (len_cellsOf _) (Spl.segs [Seg.cell v30 o31.one, Seg.cell (.slice none 0 0) (by rfl), Seg.cell (.slice none 0 0) (by rfl), Seg.cell (.slice none 0 0) (by rfl), Seg.cell (.slice none 0 0) (by rfl), (sI (0 : Int)), (sI (0 : Int)), (sI (0 : Int))] 1 1 [Seg.cell v32 o33.one] rfl rfl) (fl_cons (xs := cellsOf [Seg.cell v34 o35.one]) (cs' := cellsOf [Seg.cell v30 o31.one, Seg.cell v32 o33.one, Seg.cell v34 o35.one, Seg.cell (.slice none 0 0) (by rfl), Seg.cell (.slice none 0 0) (by rfl), (sI (0 : Int)), (sI (0 : Int)), (sI (0 : Int))]) rfl (cells_one o35.one) (len_cellsOf _) (Spl.segs [Seg.cell v30 o31.one, Seg.cell v32 o33.one, Seg.cell (.slice none 0 0) (by rfl), Seg.cell (.slice none 0 0) (by rfl), Seg.cell (.slice none 0 0) (by rfl), (sI (0 : Int)), (sI (0 : Int)), (sI (0 : Int))] 2 1 [Seg.cell v34 o35.one] rfl rfl) (fl_cons (xs := cellsOf [Seg.cell v36 o37.one]) (cs' := cellsOf [Seg.cell v30 o31.one, Seg.cell v32 o33.one, Seg.cell v34 o35.one, Seg.cell v36 o37.one, Seg.cell (.slice none 0 0) (by rfl), (sI (0 : Int)), (sI (0 : Int)), (sI (0 : Int))]) rfl (cells_one o37.one) (len_cellsOf _) (Spl.segs [Seg.cell v30 o31.one, Seg.cell v32 o33.one, Seg.cell v34 o35.one, Seg.cell (.slice none 0 0) (by rfl), Seg.cell (.slice none 0 0) (by rfl), (sI (0 : Int)), (sI (0 : Int)), (sI (0 : Int))] 3 1 [Seg.cell v36 o37.one] rfl rfl) (fl_cons (xs := cellsOf [(sI (-1))]) (cs' := cellsOf [Seg.cell v30 o31.one, Seg.cell v32 o33.one, Seg.cell v34 o35.one, Seg.cell v36 o37.one, Seg.cell (.slice none 0 0) (by rfl), (sI (0 : Int)), (sI (-1)), (sI (0 : Int))]) rfl rfl (len_cellsOf _) (Spl.segs [Seg.cell v30 o31.one, Seg.cell v32 o33.one, Seg.cell v34 o35.one, Seg.cell v36 o37.one, Seg.cell (.slice none 0 0) (by rfl), (sI (0 : Int)), (sI (0 : Int)), (sI (0 : Int))] 6 1 [(sI (-1))] rfl rfl) fl_nil)))))) rfl rfl rfl ?_
 refine ol_op (opv_box (ss := [Seg.cell v30 o31.one, Seg.cell v32 o33.one, Seg.cell v34 o35.one, Seg.cell v36 o37.one, Seg.cell (.slice none 0 0) (by rfl), (sI (0 : Int)), (sI (-1)), (sI (0 : Int))]) rfl rfl rfl) rfl rfl rfl ?_
 rintro _ w50 ⟨G45, rfl, b46, q47, z48⟩
 have z48 := Nat.le_trans fB.size z48
 have o31 := o31.gr q47
 have o33 := o33.gr q47
 have o35 := o35.gr q47
 have o37 := o37.gr q47
 have fB := fB.gr q47
 refine ol_val (v := (pt G45 0)) (xr_assign rfl rfl) rfl rfl rfl ?_
 refine ol_nil ?_
 refine cw_ret ?_
 repeat (first | with_reducible refine thn_r ?_ | with_reducible refine blk_r ?_)
 obtain rfl := Option.some.inj h
 refine fin_ret1 Try.results44 rfl ?_
 exact ⟨_, rfl, ((pt G45 0)), ⟨G45, v30, v32, v34, v36, (.slice none 0 0), o31, o33, o35, o37, Own.nil _ _ _ _, a42, a43, a44, rfl, z48, b46⟩, rfl, fB⟩
def rickyardref05_Device_error.f (fu : Nat) (a0 : S_rickyardref05_Device) (a1 : Int) (a2 : Int) : Option Int := (if (decide (a0.Left = 0)) = true then some (3) else (if (if (decide (a1 < 0)) = true then true else (decide (a1 ≥ a2))) = true then some (2) else some (0)))
theorem rickyardref05_Device_error.ok (fu : Nat) (w : World) (a0 : S_rickyardref05_Device) (G_0 : Nat) (V0_0 : Value) (R0_0 : Rd (kI .u64) w V0_0 a0.Lasts) (V0_1 : Value) (R0_1 : Rd (kI .u64) w V0_1 a0.Stored) (V0_2 : Value) (R0_2 : Rd (kI .u64) w V0_2 a0.Sent) (V0_3 : Value) (R0_3 : Rd kB w V0_3 a0.Flushed) (V0_4 : Value) (R0_4 : Rd (kI .i64) w V0_4 a0.Plan) (b_0 : Blk w G_0 65 [Seg.cell V0_0 R0_0.one, Seg.cell V0_1 R0_1.one, Seg.cell V0_2 R0_2.one, Seg.cell V0_3 R0_3.one, Seg.cell V0_4 R0_4.one, (sI a0.Since), (sI a0.Left), (sI a0.Steps)]) (a1 : Int) (a2 : Int) (r : Int) (h : rickyardref05_Device_error.f fu a0 a1 a2 = some r) :
  Calls Try.prog 124 (([(pt G_0 0), .int .i64 a1, .int .i64 a2] : List Value).toArray) w (fun e w' => ∃ v, e = .returned v ∧ v = .int .i64 r ∧ Gr w w') := by
 unfold rickyardref05_Device_error.f at h
 have fB : Gr w w := Fr.refl _ _
 refine calls_cw Try.func124 rfl Try.ntmps124 rfl ?_
 refine cw_seq ?_
 refine cw_region ?_
 refine ol_val (v := .int .i64 0) (xr_assign rfl rfl) rfl rfl rfl ?_
 refine ol_nil ?_
 refine cw_seq ?_
 refine cw_seq ?_
 refine cw_region ?_
 refine ol_val (v := (pt G_0 0)) (xr_move rfl rfl) rfl rfl rfl ?_
 refine ol_val (v := (pt G_0 0)) (xr_nilCheck rfl rfl) rfl rfl rfl ?_
 refine ol_val (v := (pt G_0 6)) (xr_fieldAddr (p := 0) (q := 6) rfl fl65_6 rfl) rfl rfl rfl ?_
 refine ol_val (v := .int .i64 a0.Left) (xr_load1 (v := .int .i64 a0.Left) rfl ag3 rfl (b_0.seg 6 rfl rfl)) rfl rfl rfl ?_
 refine ol_val (v := .bool (decide (a0.Left = 0))) (xr_eqI rfl Try.underlying3 rfl rfl rfl) rfl rfl rfl ?_
 refine ol_nil ?_
 rcases is h with ⟨c1, h⟩ | ⟨c1, h⟩
 ·refine cw_condT rfl c1 ?_
  refine cw_seq ?_
  refine cw_region ?_
  refine ol_val (v := .int .i64 3) (xr_assign rfl rfl) rfl rfl rfl ?_
  refine ol_nil ?_
  refine cw_ret ?_
  repeat (first | with_reducible refine thn_r ?_ | with_reducible refine blk_r ?_)
  obtain rfl := Option.some.inj h
  refine fin_ret1 Try.results124 rfl ?_
  exact ⟨_, rfl, rfl, fB⟩
 refine cw_condF rfl c1 ?_
 refine cw_skip ?_
 refine cw_seq ?_
 refine cw_seq ?_
 refine cw_mid (fun ρ' w' => ρ' 18 = .bool (if (decide (a1 < 0)) = true then true else (decide (a1 ≥ a2))) ∧ w = w') ?_ ?_
 ·skip
  refine cw_region ?_
  refine ol_val (v := .int .i64 a1) (xr_move rfl rfl) rfl rfl rfl ?_
  refine ol_val (v := .bool (decide (a1 < 0))) (xr_lss rfl rfl rfl) rfl rfl rfl ?_
  refine ol_val (v := .bool (decide (a1 < 0))) (xr_move rfl rfl) rfl rfl rfl ?_
  rcases bt (decide (a1 < 0)) with c2 | c2
  ·skip
   refine ol_gskip rfl rfl rfl rfl rfl c2 ?_
   refine ol_gskip rfl rfl rfl rfl rfl c2 ?_
   refine ol_gskip rfl rfl rfl rfl rfl c2 ?_
   refine ol_val (v := .bool true) (xr_pickT rfl rfl c2 rfl) rfl rfl rfl ?_
   refine ol_nil ?_
   refine thn_i ?_
   exact ⟨(rfl).trans (congrArg (fun z => (.bool z : Value)) (show true = (if (decide (a1 < 0)) = true then true else (decide (a1 ≥ a2))) from by rw [ite_t c2])), rfl⟩
  refine ol_gval (v := .int .i64 a1) (xr_move rfl rfl) rfl rfl rfl rfl rfl c2 ?_
  refine ol_gval (v := .int .i64 a2) (xr_move rfl rfl) rfl rfl rfl rfl rfl c2 ?_
  refine ol_gval (v := .bool (decide (a1 ≥ a2))) (xr_geq rfl rfl rfl) rfl rfl rfl rfl rfl c2 ?_
  refine ol_val (v := .bool (decide (a1 ≥ a2))) (xr_pickF rfl rfl c2 rfl) rfl rfl rfl ?_
  refine ol_nil ?_
  refine thn_i ?_
  exact ⟨(rfl).trans (congrArg (fun z => (.bool z : Value)) (show (decide (a1 ≥ a2)) = (if (decide (a1 < 0)) = true then true else (decide (a1 ≥ a2))) from by rw [ite_f c2])), rfl⟩
 rintro ρ3 _ ⟨e18, rfl⟩
 rcases is h with ⟨c4, h⟩ | ⟨c4, h⟩
 ·refine cw_condT e18 c4 ?_
  refine cw_seq ?_
  refine cw_region ?_
  refine ol_val (v := .int .i64 2) (xr_assign rfl rfl) rfl rfl rfl ?_
  refine ol_nil ?_
  refine cw_ret ?_
  repeat (first | with_reducible refine thn_r ?_ | with_reducible refine blk_r ?_)
  obtain rfl := Option.some.inj h
  refine fin_ret1 Try.results124 rfl ?_
  exact ⟨_, rfl, rfl, fB⟩
 refine cw_condF e18 c4 ?_
 refine cw_skip ?_
 refine cw_seq ?_
 refine cw_region ?_
 refine ol_val (v := .int .i64 0) (xr_assign rfl rfl) rfl rfl rfl ?_
 refine ol_nil ?_
 refine cw_ret ?_
 repeat (first | with_reducible refine thn_r ?_ | with_reducible refine blk_r ?_)
 obtain rfl := Option.some.inj h
 refine fin_ret1 Try.results124 rfl ?_
 exact ⟨_, rfl, rfl, fB⟩
def rickyardref05_Device_last.f (fu : Nat) (a0 : S_rickyardref05_Device) (a1 : Int) (a2 : Int) : Option S_rickyardref05_Device := (if 0 ≤ a1 ∧ a1 < (List.length a0.Lasts : Int) then (if 0 ≤ a1 ∧ a1 < (List.length a0.Sent : Int) then (if 0 ≤ a1 ∧ a1 < (List.length a0.Flushed : Int) then some ((⟨(List.set a0.Lasts (Int.toNat a1) a2), a0.Stored, (List.set a0.Sent (Int.toNat a1) 0), (List.set a0.Flushed (Int.toNat a1) false), a0.Plan, a0.Since, a0.Left, a0.Steps⟩ : S_rickyardref05_Device)) else none) else none) else none)
theorem rickyardref05_Device_last.ok (fu : Nat) (w : World) (a0 : S_rickyardref05_Device) (G_0 : Nat) (V0_0 : Value) (O0_0 : Own (kI .u64) 22 w 0 V0_0 a0.Lasts) (V0_1 : Value) (O0_1 : Own (kI .u64) 22 w 0 V0_1 a0.Stored) (V0_2 : Value) (O0_2 : Own (kI .u64) 22 w 0 V0_2 a0.Sent) (V0_3 : Value) (O0_3 : Own kB 4 w 0 V0_3 a0.Flushed) (V0_4 : Value) (O0_4 : Own (kI .i64) 3 w 0 V0_4 a0.Plan) (b_0 : Blk w G_0 65 [Seg.cell V0_0 O0_0.one, Seg.cell V0_1 O0_1.one, Seg.cell V0_2 O0_2.one, Seg.cell V0_3 O0_3.one, Seg.cell V0_4 O0_4.one, (sI a0.Since), (sI a0.Left), (sI a0.Steps)]) (a1 : Int) (a2 : Int) (A_R0_0_R0_1 : OffV V0_0 V0_1) (A_R0_0_R0_2 : OffV V0_0 V0_2) (A_R0_1_R0_2 : OffV V0_1 V0_2) (r : S_rickyardref05_Device) (h : rickyardref05_Device_last.f fu a0 a1 a2 = some r) :
  Calls Try.prog 126 (([(pt G_0 0), .int .i64 a1, .int .u64 a2] : List Value).toArray) w (fun e w' => ∃ v, e = .returned v ∧ ∃ u1 : Value, ∃ u4 : Value, ∃ u7 : Value, ∃ u10 : Value, ∃ u13 : Value, ∃ o2 : Own (kI .u64) 22 w' 0 u1 r.Lasts, ∃ m3 : ∀ g, Value.ownBlock u1 = some g → w.heap.size ≤ g ∨ (g = G_0 ∨ some g = Value.ownBlock V0_0 ∨ some g = Value.ownBlock V0_1 ∨ some g = Value.ownBlock V0_2 ∨ some g = Value.ownBlock V0_3 ∨ some g = Value.ownBlock V0_4), ∃ o5 : Own (kI .u64) 22 w' 0 u4 r.Stored, ∃ m6 : ∀ g, Value.ownBlock u4 = some g → w.heap.size ≤ g ∨ (g = G_0 ∨ some g = Value.ownBlock V0_0 ∨ some g = Value.ownBlock V0_1 ∨ some g = Value.ownBlock V0_2 ∨ some g = Value.ownBlock V0_3 ∨ some g = Value.ownBlock V0_4), ∃ o8 : Own (kI .u64) 22 w' 0 u7 r.Sent, ∃ m9 : ∀ g, Value.ownBlock u7 = some g → w.heap.size ≤ g ∨ (g = G_0 ∨ some g = Value.ownBlock V0_0 ∨ some g = Value.ownBlock V0_1 ∨ some g = Value.ownBlock V0_2 ∨ some g = Value.ownBlock V0_3 ∨ some g = Value.ownBlock V0_4), ∃ o11 : Own kB 4 w' 0 u10 r.Flushed, ∃ m12 : ∀ g, Value.ownBlock u10 = some g → w.heap.size ≤ g ∨ (g = G_0 ∨ some g = Value.ownBlock V0_0 ∨ some g = Value.ownBlock V0_1 ∨ some g = Value.ownBlock V0_2 ∨ some g = Value.ownBlock V0_3 ∨ some g = Value.ownBlock V0_4), ∃ o14 : Own (kI .i64) 3 w' 0 u13 r.Plan, ∃ m15 : ∀ g, Value.ownBlock u13 = some g → w.heap.size ≤ g ∨ (g = G_0 ∨ some g = Value.ownBlock V0_0 ∨ some g = Value.ownBlock V0_1 ∨ some g = Value.ownBlock V0_2 ∨ some g = Value.ownBlock V0_3 ∨ some g = Value.ownBlock V0_4), ∃ a16 : OffV u1 u4, ∃ a17 : OffV u1 u7, ∃ a18 : OffV u4 u7, v = .tuple #[] ∧ Blk w' G_0 65 [Seg.cell u1 o2.one, Seg.cell u4 o5.one, Seg.cell u7 o8.one, Seg.cell u10 o11.one, Seg.cell u13 o14.one, (sI r.Since), (sI r.Left), (sI r.Steps)] ∧ Fr (fun j => j = G_0 ∨ some j = Value.ownBlock V0_0 ∨ some j = Value.ownBlock V0_1 ∨ some j = Value.ownBlock V0_2 ∨ some j = Value.ownBlock V0_3 ∨ some j = Value.ownBlock V0_4) w w') := by
 unfold rickyardref05_Device_last.f at h
 have fB : Fr (fun j => j = G_0 ∨ some j = Value.ownBlock V0_0 ∨ some j = Value.ownBlock V0_1 ∨ some j = Value.ownBlock V0_2 ∨ some j = Value.ownBlock V0_3 ∨ some j = Value.ownBlock V0_4) w w := Fr.refl _ _
 have M0_0 : ∀ g, Value.ownBlock V0_0 = some g → w.heap.size ≤ g ∨ (g = G_0 ∨ some g = Value.ownBlock V0_0 ∨ some g = Value.ownBlock V0_1 ∨ some g = Value.ownBlock V0_2 ∨ some g = Value.ownBlock V0_3 ∨ some g = Value.ownBlock V0_4) := fun g hg => .inr (.inr (.inl hg.symm))
 have M0_1 : ∀ g, Value.ownBlock V0_1 = some g → w.heap.size ≤ g ∨ (g = G_0 ∨ some g = Value.ownBlock V0_0 ∨ some g = Value.ownBlock V0_1 ∨ some g = Value.ownBlock V0_2 ∨ some g = Value.ownBlock V0_3 ∨ some g = Value.ownBlock V0_4) := fun g hg => .inr (.inr (.inr (.inl hg.symm)))
 have M0_2 : ∀ g, Value.ownBlock V0_2 = some g → w.heap.size ≤ g ∨ (g = G_0 ∨ some g = Value.ownBlock V0_0 ∨ some g = Value.ownBlock V0_1 ∨ some g = Value.ownBlock V0_2 ∨ some g = Value.ownBlock V0_3 ∨ some g = Value.ownBlock V0_4) := fun g hg => .inr (.inr (.inr (.inr (.inl hg.symm))))
 have M0_3 : ∀ g, Value.ownBlock V0_3 = some g → w.heap.size ≤ g ∨ (g = G_0 ∨ some g = Value.ownBlock V0_0 ∨ some g = Value.ownBlock V0_1 ∨ some g = Value.ownBlock V0_2 ∨ some g = Value.ownBlock V0_3 ∨ some g = Value.ownBlock V0_4) := fun g hg => .inr (.inr (.inr (.inr (.inr (.inl hg.symm)))))
 have M0_4 : ∀ g, Value.ownBlock V0_4 = some g → w.heap.size ≤ g ∨ (g = G_0 ∨ some g = Value.ownBlock V0_0 ∨ some g = Value.ownBlock V0_1 ∨ some g = Value.ownBlock V0_2 ∨ some g = Value.ownBlock V0_3 ∨ some g = Value.ownBlock V0_4) := fun g hg => .inr (.inr (.inr (.inr (.inr (.inr hg.symm)))))
 refine calls_cw Try.func126 rfl Try.ntmps126 rfl ?_
 refine cw_seq ?_
 refine cw_region ?_
 refine ol_val (v := (pt G_0 0)) (xr_move rfl rfl) rfl rfl rfl ?_
 refine ol_val (v := (pt G_0 0)) (xr_nilCheck rfl rfl) rfl rfl rfl ?_
 refine ol_val (v := (pt G_0 0)) (xr_fieldAddr (p := 0) (q := 0) rfl fl65_0 rfl) rfl rfl rfl ?_
 refine ol_val (v := V0_0) (xr_load1 (v := V0_0) rfl ag46 rfl (b_0.seg 0 rfl rfl)) rfl rfl rfl ?_
 refine ol_val (v := .int .i64 a1) (xr_move rfl rfl) rfl rfl rfl ?_
 refine ol_val (v := .int .u64 a2) (xr_move rfl rfl) rfl rfl rfl ?_
 obtain ⟨g19, h⟩ := gs h
 refine ol_val (v := (pt ((sb V0_0)) (so V0_0 + Int.toNat a1 * 1))) (xr_indexR (K := (kI .u64)) (v := V0_0) rfl Try.underlying46 sz22 rfl O0_0.rd rfl g19.1 g19.2) rfl rfl rfl ?_
 have f21 := off_ty b_0 O0_0 (by decide)
 have f22 := A_R0_0_R0_1.symm
 have f23 := A_R0_0_R0_2.symm
 have f24 := OffV.ty O0_3 O0_0 (by decide)
 have f25 := OffV.ty O0_4 O0_0 (by decide)
 refine ol_op0 (opv_storeRow (z := a2) (xs := cellsOf [Seg.cell (.int .u64 a2)]) rfl sz22 rfl rfl rfl (len_cellsOf _) (one_cellsOf _) O0_0 g19.1 g19.2 (Spl.whole ((Kd.len _ _).trans (Kd.len _ _).symm)) rfl) rfl rfl ?_
 rintro _ w27 ⟨O0_0, q20⟩
 have b_0 := b_0.wrO q20 f21
 have O0_1 := O0_1.wrV q20 f22
 have O0_2 := O0_2.wrV q20 f23
 have O0_3 := O0_3.wrV q20 f24
 have O0_4 := O0_4.wrV q20 f25
 have fB := fB.wrM q20 M0_0
 refine ol_nil ?_
 refine cw_seq ?_
 refine cw_region ?_
 refine ol_val (v := (pt G_0 0)) (xr_move rfl rfl) rfl rfl rfl ?_
 refine ol_val (v := (pt G_0 0)) (xr_nilCheck rfl rfl) rfl rfl rfl ?_
 refine ol_val (v := (pt G_0 2)) (xr_fieldAddr (p := 0) (q := 2) rfl fl65_2 rfl) rfl rfl rfl ?_
 refine ol_val (v := V0_2) (xr_load1 (v := V0_2) rfl ag46 rfl (b_0.seg 2 rfl rfl)) rfl rfl rfl ?_
 refine ol_val (v := .int .i64 a1) (xr_move rfl rfl) rfl rfl rfl ?_
 obtain ⟨g28, h⟩ := gs h
 refine ol_val (v := (pt ((sb V0_2)) (so V0_2 + Int.toNat a1 * 1))) (xr_indexR (K := (kI .u64)) (v := V0_2) rfl Try.underlying46 sz22 rfl O0_2.rd rfl g28.1 g28.2) rfl rfl rfl ?_
 have f30 := off_ty b_0 O0_2 (by decide)
 have f31 := A_R0_0_R0_2
 have f32 := A_R0_1_R0_2
 have f33 := OffV.ty O0_3 O0_2 (by decide)
 have f34 := OffV.ty O0_4 O0_2 (by decide)
 refine ol_op0 (opv_storeRow (z := 0) (xs := cellsOf [Seg.cell (.int .u64 0)]) rfl sz22 rfl rfl rfl (len_cellsOf _) (one_cellsOf _) O0_2 g28.1 g28.2 (Spl.whole ((Kd.len _ _).trans (Kd.len _ _).symm)) rfl) rfl rfl ?_
 rintro _ w36 ⟨O0_2, q29⟩
 have b_0 := b_0.wrO q29 f30
 have O0_0 := O0_0.wrV q29 f31
 have O0_1 := O0_1.wrV q29 f32
 have O0_3 := O0_3.wrV q29 f33
 have O0_4 := O0_4.wrV q29 f34
 have fB := fB.wrM q29 M0_2
 refine ol_nil ?_
 refine cw_region ?_
 refine ol_val (v := (pt G_0 0)) (xr_move rfl rfl) rfl rfl rfl ?_
 refine ol_val (v := (pt G_0 0)) (xr_nilCheck rfl rfl) rfl rfl rfl ?_
 refine ol_val (v := (pt G_0 3)) (xr_fieldAddr (p := 0) (q := 3) rfl fl65_3 rfl) rfl rfl rfl ?_
 refine ol_val (v := V0_3) (xr_load1 (v := V0_3) rfl ag63 rfl (b_0.seg 3 rfl rfl)) rfl rfl rfl ?_
 refine ol_val (v := .int .i64 a1) (xr_move rfl rfl) rfl rfl rfl ?_
 obtain ⟨g37, h⟩ := gs h
 refine ol_val (v := (pt ((sb V0_3)) (so V0_3 + Int.toNat a1 * 1))) (xr_indexR (K := kB) (v := V0_3) rfl Try.underlying63 sz4 rfl O0_3.rd rfl g37.1 g37.2) rfl rfl rfl ?_
 have f39 := off_ty b_0 O0_3 (by decide)
 have f40 := OffV.ty O0_0 O0_3 (by decide)
 have f41 := OffV.ty O0_1 O0_3 (by decide)
 have f42 := OffV.ty O0_2 O0_3 (by decide)
 have f43 := OffV.ty O0_4 O0_3 (by decide)
 refine ol_op0 (opv_storeRow (z := false) (xs := cellsOf [Seg.cell (.bool false)]) rfl sz4 rfl rfl rfl (len_cellsOf _) (one_cellsOf _) O0_3 g37.1 g37.2 (Spl.whole ((Kd.len _ _).trans (Kd.len _ _).symm)) rfl) rfl rfl ?_
 rintro _ w45 ⟨O0_3, q38⟩
 have b_0 := b_0.wrO q38 f39
 have O0_0 := O0_0.wrV q38 f40
 have O0_1 := O0_1.wrV q38 f41
 have O0_2 := O0_2.wrV q38 f42
 have O0_4 := O0_4.wrV q38 f43
 have fB := fB.wrM q38 M0_3
 refine ol_nil ?_
 obtain rfl := Option.some.inj h
 refine fin_end0 Try.results126 ?_
 exact ⟨_, rfl, V0_0, V0_1, V0_2, V0_3, V0_4, O0_0, M0_0, O0_1, M0_1, O0_2, M0_2, O0_3, M0_3, O0_4, M0_4, A_R0_0_R0_1, A_R0_0_R0_2, A_R0_1_R0_2, rfl, b_0, fB⟩
def rickyardref05_Device_step.f (fu : Nat) (a0 : S_rickyardref05_Device) : Option S_rickyardref05_Device := (((if (if (decide ((List.length a0.Plan : Int) > 0)) = true then (decide ((List.length a0.Lasts : Int) > 0)) else false) = true then (if (List.length a0.Plan : Int) ≠ 0 then (if 0 ≤ (Int.tmod a0.Since (List.length a0.Plan : Int)) ∧ (Int.tmod a0.Since (List.length a0.Plan : Int)) < (List.length a0.Plan : Int) then (((if (decide ((ix a0.Plan (Int.tmod a0.Since (List.length a0.Plan : Int))) ≥ 0)) = true then (if (List.length a0.Lasts : Int) ≠ 0 then (if (List.length a0.Lasts : Int) ≠ 0 then (if 0 ≤ (Int.tmod (ix a0.Plan (Int.tmod a0.Since (List.length a0.Plan : Int))) (List.length a0.Lasts : Int)) ∧ (Int.tmod (ix a0.Plan (Int.tmod a0.Since (List.length a0.Plan : Int))) (List.length a0.Lasts : Int)) < (List.length a0.Stored : Int) then ((rickyardref05_Device_last.f fu a0 (Int.tmod (ix a0.Plan (Int.tmod a0.Since (List.length a0.Plan : Int))) (List.length a0.Lasts : Int)) (ix a0.Stored (Int.tmod (ix a0.Plan (Int.tmod a0.Since (List.length a0.Plan : Int))) (List.length a0.Lasts : Int)))).bind fun t86 => some (t86.Lasts, t86.Stored, t86.Sent, t86.Flushed, t86.Plan, t86.Since, t86.Left, t86.Steps)) else none) else none) else none) else some (a0.Lasts, a0.Stored, a0.Sent, a0.Flushed, a0.Plan, a0.Since, a0.Left, a0.Steps)) : Option ((List Int) × (List Int) × (List Int) × (List Bool) × (List Int) × Int × Int × Int)).bind fun x53 => some (x53.1, x53.2.1, x53.2.2.1, x53.2.2.2.1, x53.2.2.2.2.1, x53.2.2.2.2.2.1, x53.2.2.2.2.2.2.1, x53.2.2.2.2.2.2.2)) else none) else none) else some (a0.Lasts, a0.Stored, a0.Sent, a0.Flushed, a0.Plan, a0.Since, a0.Left, a0.Steps)) : Option ((List Int) × (List Int) × (List Int) × (List Bool) × (List Int) × Int × Int × Int)).bind fun x21 => (((if (decide (x21.2.2.2.2.2.2.1 > 0)) = true then some ((IntKind.i64.wrap (x21.2.2.2.2.2.2.1 - 1))) else some (x21.2.2.2.2.2.2.1)) : Option Int).bind fun x132 => some ((⟨x21.1, x21.2.1, x21.2.2.1, x21.2.2.2.1, x21.2.2.2.2.1, (IntKind.i64.wrap (x21.2.2.2.2.2.1 + 1)), x132, (IntKind.i64.wrap (x21.2.2.2.2.2.2.2 + 1))⟩ : S_rickyardref05_Device))))
theorem rickyardref05_Device_step.ok (fu : Nat) (w : World) (a0 : S_rickyardref05_Device) (G_0 : Nat) (V0_0 : Value) (O0_0 : Own (kI .u64) 22 w 0 V0_0 a0.Lasts) (V0_1 : Value) (O0_1 : Own (kI .u64) 22 w 0 V0_1 a0.Stored) (V0_2 : Value) (O0_2 : Own (kI .u64) 22 w 0 V0_2 a0.Sent) (V0_3 : Value) (O0_3 : Own kB 4 w 0 V0_3 a0.Flushed) (V0_4 : Value) (O0_4 : Own (kI .i64) 3 w 0 V0_4 a0.Plan) (b_0 : Blk w G_0 65 [Seg.cell V0_0 O0_0.one, Seg.cell V0_1 O0_1.one, Seg.cell V0_2 O0_2.one, Seg.cell V0_3 O0_3.one, Seg.cell V0_4 O0_4.one, (sI a0.Since), (sI a0.Left), (sI a0.Steps)]) (A_R0_0_R0_1 : OffV V0_0 V0_1) (A_R0_0_R0_2 : OffV V0_0 V0_2) (A_R0_1_R0_2 : OffV V0_1 V0_2) (r : S_rickyardref05_Device) (h : rickyardref05_Device_step.f fu a0 = some r) :
  Calls Try.prog 125 (([(pt G_0 0)] : List Value).toArray) w (fun e w' => ∃ v, e = .returned v ∧ ∃ u1 : Value, ∃ u4 : Value, ∃ u7 : Value, ∃ u10 : Value, ∃ u13 : Value, ∃ o2 : Own (kI .u64) 22 w' 0 u1 r.Lasts, ∃ m3 : ∀ g, Value.ownBlock u1 = some g → w.heap.size ≤ g ∨ (g = G_0 ∨ some g = Value.ownBlock V0_0 ∨ some g = Value.ownBlock V0_1 ∨ some g = Value.ownBlock V0_2 ∨ some g = Value.ownBlock V0_3 ∨ some g = Value.ownBlock V0_4), ∃ o5 : Own (kI .u64) 22 w' 0 u4 r.Stored, ∃ m6 : ∀ g, Value.ownBlock u4 = some g → w.heap.size ≤ g ∨ (g = G_0 ∨ some g = Value.ownBlock V0_0 ∨ some g = Value.ownBlock V0_1 ∨ some g = Value.ownBlock V0_2 ∨ some g = Value.ownBlock V0_3 ∨ some g = Value.ownBlock V0_4), ∃ o8 : Own (kI .u64) 22 w' 0 u7 r.Sent, ∃ m9 : ∀ g, Value.ownBlock u7 = some g → w.heap.size ≤ g ∨ (g = G_0 ∨ some g = Value.ownBlock V0_0 ∨ some g = Value.ownBlock V0_1 ∨ some g = Value.ownBlock V0_2 ∨ some g = Value.ownBlock V0_3 ∨ some g = Value.ownBlock V0_4), ∃ o11 : Own kB 4 w' 0 u10 r.Flushed, ∃ m12 : ∀ g, Value.ownBlock u10 = some g → w.heap.size ≤ g ∨ (g = G_0 ∨ some g = Value.ownBlock V0_0 ∨ some g = Value.ownBlock V0_1 ∨ some g = Value.ownBlock V0_2 ∨ some g = Value.ownBlock V0_3 ∨ some g = Value.ownBlock V0_4), ∃ o14 : Own (kI .i64) 3 w' 0 u13 r.Plan, ∃ m15 : ∀ g, Value.ownBlock u13 = some g → w.heap.size ≤ g ∨ (g = G_0 ∨ some g = Value.ownBlock V0_0 ∨ some g = Value.ownBlock V0_1 ∨ some g = Value.ownBlock V0_2 ∨ some g = Value.ownBlock V0_3 ∨ some g = Value.ownBlock V0_4), ∃ a16 : OffV u1 u4, ∃ a17 : OffV u1 u7, ∃ a18 : OffV u4 u7, v = .tuple #[] ∧ Blk w' G_0 65 [Seg.cell u1 o2.one, Seg.cell u4 o5.one, Seg.cell u7 o8.one, Seg.cell u10 o11.one, Seg.cell u13 o14.one, (sI r.Since), (sI r.Left), (sI r.Steps)] ∧ Fr (fun j => j = G_0 ∨ some j = Value.ownBlock V0_0 ∨ some j = Value.ownBlock V0_1 ∨ some j = Value.ownBlock V0_2 ∨ some j = Value.ownBlock V0_3 ∨ some j = Value.ownBlock V0_4) w w') := by
 unfold rickyardref05_Device_step.f at h
 have fB : Fr (fun j => j = G_0 ∨ some j = Value.ownBlock V0_0 ∨ some j = Value.ownBlock V0_1 ∨ some j = Value.ownBlock V0_2 ∨ some j = Value.ownBlock V0_3 ∨ some j = Value.ownBlock V0_4) w w := Fr.refl _ _
 have M0_0 : ∀ g, Value.ownBlock V0_0 = some g → w.heap.size ≤ g ∨ (g = G_0 ∨ some g = Value.ownBlock V0_0 ∨ some g = Value.ownBlock V0_1 ∨ some g = Value.ownBlock V0_2 ∨ some g = Value.ownBlock V0_3 ∨ some g = Value.ownBlock V0_4) := fun g hg => .inr (.inr (.inl hg.symm))
 have M0_1 : ∀ g, Value.ownBlock V0_1 = some g → w.heap.size ≤ g ∨ (g = G_0 ∨ some g = Value.ownBlock V0_0 ∨ some g = Value.ownBlock V0_1 ∨ some g = Value.ownBlock V0_2 ∨ some g = Value.ownBlock V0_3 ∨ some g = Value.ownBlock V0_4) := fun g hg => .inr (.inr (.inr (.inl hg.symm)))
 have M0_2 : ∀ g, Value.ownBlock V0_2 = some g → w.heap.size ≤ g ∨ (g = G_0 ∨ some g = Value.ownBlock V0_0 ∨ some g = Value.ownBlock V0_1 ∨ some g = Value.ownBlock V0_2 ∨ some g = Value.ownBlock V0_3 ∨ some g = Value.ownBlock V0_4) := fun g hg => .inr (.inr (.inr (.inr (.inl hg.symm))))
 have M0_3 : ∀ g, Value.ownBlock V0_3 = some g → w.heap.size ≤ g ∨ (g = G_0 ∨ some g = Value.ownBlock V0_0 ∨ some g = Value.ownBlock V0_1 ∨ some g = Value.ownBlock V0_2 ∨ some g = Value.ownBlock V0_3 ∨ some g = Value.ownBlock V0_4) := fun g hg => .inr (.inr (.inr (.inr (.inr (.inl hg.symm)))))
 have M0_4 : ∀ g, Value.ownBlock V0_4 = some g → w.heap.size ≤ g ∨ (g = G_0 ∨ some g = Value.ownBlock V0_0 ∨ some g = Value.ownBlock V0_1 ∨ some g = Value.ownBlock V0_2 ∨ some g = Value.ownBlock V0_3 ∨ some g = Value.ownBlock V0_4) := fun g hg => .inr (.inr (.inr (.inr (.inr (.inr hg.symm)))))
 refine calls_cw Try.func125 rfl Try.ntmps125 rfl ?_
 refine cw_seq ?_
 refine cw_region ?_
 refine ol_val (v := (pt G_0 0)) (xr_move rfl rfl) rfl rfl rfl ?_
 refine ol_val (v := (pt G_0 0)) (xr_nilCheck rfl rfl) rfl rfl rfl ?_
 refine ol_val (v := (pt G_0 0)) (xr_fieldAddr (p := 0) (q := 0) rfl fl65_0 rfl) rfl rfl rfl ?_
 refine ol_val (v := V0_0) (xr_load1 (v := V0_0) rfl ag46 rfl (b_0.seg 0 rfl rfl)) rfl rfl rfl ?_
 refine ol_val (v := .int .i64 (List.length a0.Lasts : Int)) (xr_lenR rfl Try.underlying46 rfl O0_0.rd) rfl rfl rfl ?_
 refine ol_val (v := .int .i64 (List.length a0.Lasts : Int)) (xr_assign rfl rfl) rfl rfl rfl ?_
 refine ol_nil ?_
 refine cw_seq ?_
 refine cw_seq ?_
 refine cw_mid (fun ρ' w' => ρ' 0 = (pt G_0 0) ∧ ρ' 2 = .int .i64 (List.length a0.Lasts : Int) ∧ ρ' 18 = .bool (if (decide ((List.length a0.Plan : Int) > 0)) = true then (decide ((List.length a0.Lasts : Int) > 0)) else false) ∧ w = w') ?_ ?_
 ·skip
  refine cw_region ?_
  refine ol_val (v := (pt G_0 0)) (xr_move rfl rfl) rfl rfl rfl ?_
  refine ol_val (v := (pt G_0 0)) (xr_nilCheck rfl rfl) rfl rfl rfl ?_
  refine ol_val (v := (pt G_0 4)) (xr_fieldAddr (p := 0) (q := 4) rfl fl65_4 rfl) rfl rfl rfl ?_
  refine ol_val (v := V0_4) (xr_load1 (v := V0_4) rfl ag25 rfl (b_0.seg 4 rfl rfl)) rfl rfl rfl ?_
  refine ol_val (v := .int .i64 (List.length a0.Plan : Int)) (xr_lenR rfl Try.underlying25 rfl O0_4.rd) rfl rfl rfl ?_
  refine ol_val (v := .bool (decide ((List.length a0.Plan : Int) > 0))) (xr_gtr rfl rfl rfl) rfl rfl rfl ?_
  refine ol_val (v := .bool (decide ((List.length a0.Plan : Int) > 0))) (xr_move rfl rfl) rfl rfl rfl ?_
  rcases bt (decide ((List.length a0.Plan : Int) > 0)) with c19 | c19
  ·skip
   refine ol_gval (v := .int .i64 (List.length a0.Lasts : Int)) (xr_move rfl rfl) rfl rfl rfl rfl rfl c19 ?_
   refine ol_gval (v := .bool (decide ((List.length a0.Lasts : Int) > 0))) (xr_gtr rfl rfl rfl) rfl rfl rfl rfl rfl c19 ?_
   refine ol_val (v := .bool (decide ((List.length a0.Lasts : Int) > 0))) (xr_pickT rfl rfl c19 rfl) rfl rfl rfl ?_
   refine ol_nil ?_
   refine thn_i ?_
   exact ⟨rfl, rfl, (rfl).trans (congrArg (fun z => (.bool z : Value)) (show (decide ((List.length a0.Lasts : Int) > 0)) = (if (decide ((List.length a0.Plan : Int) > 0)) = true then (decide ((List.length a0.Lasts : Int) > 0)) else false) from by rw [ite_t c19])), rfl⟩
  refine ol_gskip rfl rfl rfl rfl rfl c19 ?_
  refine ol_gskip rfl rfl rfl rfl rfl c19 ?_
  refine ol_val (v := .bool false) (xr_pickF rfl rfl c19 rfl) rfl rfl rfl ?_
  refine ol_nil ?_
  refine thn_i ?_
  exact ⟨rfl, rfl, (rfl).trans (congrArg (fun z => (.bool z : Value)) (show false = (if (decide ((List.length a0.Plan : Int) > 0)) = true then (decide ((List.length a0.Lasts : Int) > 0)) else false) from by rw [ite_f c19])), rfl⟩
 rintro ρ20 _ ⟨e0, e2, e18, rfl⟩
 obtain ⟨x21, j22, h23⟩ := bs h
 refine cw_mid (fun ρ' w' => ∃ v24 : Value, ∃ v28 : Value, ∃ v32 : Value, ∃ v36 : Value, ∃ v40 : Value, ∃ o25 : Own (kI .u64) 22 w' 0 v24 x21.1, ∃ o29 : Own (kI .u64) 22 w' 0 v28 x21.2.1, ∃ o33 : Own (kI .u64) 22 w' 0 v32 x21.2.2.1, ∃ o37 : Own kB 4 w' 0 v36 x21.2.2.2.1, ∃ o41 : Own (kI .i64) 3 w' 0 v40 x21.2.2.2.2.1, ∃ m27 : ∀ g, Value.ownBlock v24 = some g → w.heap.size ≤ g ∨ (g = G_0 ∨ some g = Value.ownBlock V0_0 ∨ some g = Value.ownBlock V0_1 ∨ some g = Value.ownBlock V0_2 ∨ some g = Value.ownBlock V0_3 ∨ some g = Value.ownBlock V0_4), ∃ m31 : ∀ g, Value.ownBlock v28 = some g → w.heap.size ≤ g ∨ (g = G_0 ∨ some g = Value.ownBlock V0_0 ∨ some g = Value.ownBlock V0_1 ∨ some g = Value.ownBlock V0_2 ∨ some g = Value.ownBlock V0_3 ∨ some g = Value.ownBlock V0_4), ∃ m35 : ∀ g, Value.ownBlock v32 = some g → w.heap.size ≤ g ∨ (g = G_0 ∨ some g = Value.ownBlock V0_0 ∨ some g = Value.ownBlock V0_1 ∨ some g = Value.ownBlock V0_2 ∨ some g = Value.ownBlock V0_3 ∨ some g = Value.ownBlock V0_4), ∃ m39 : ∀ g, Value.ownBlock v36 = some g → w.heap.size ≤ g ∨ (g = G_0 ∨ some g = Value.ownBlock V0_0 ∨ some g = Value.ownBlock V0_1 ∨ some g = Value.ownBlock V0_2 ∨ some g = Value.ownBlock V0_3 ∨ some g = Value.ownBlock V0_4), ∃ m43 : ∀ g, Value.ownBlock v40 = some g → w.heap.size ≤ g ∨ (g = G_0 ∨ some g = Value.ownBlock V0_0 ∨ some g = Value.ownBlock V0_1 ∨ some g = Value.ownBlock V0_2 ∨ some g = Value.ownBlock V0_3 ∨ some g = Value.ownBlock V0_4), OffV v24 v28 ∧ OffV v24 v32 ∧ OffV v28 v32 ∧ ρ' 0 = (pt G_0 0) ∧ Blk w' G_0 65 [Seg.cell v24 o25.one, Seg.cell v28 o29.one, Seg.cell v32 o33.one, Seg.cell v36 o37.one, Seg.cell v40 o41.one, (sI x21.2.2.2.2.2.1), (sI x21.2.2.2.2.2.2.1), (sI x21.2.2.2.2.2.2.2)] ∧ Fr (fun j => j = G_0 ∨ some j = Value.ownBlock V0_0 ∨ some j = Value.ownBlock V0_1 ∨ some j = Value.ownBlock V0_2 ∨ some j = Value.ownBlock V0_3 ∨ some j = Value.ownBlock V0_4) w w') ?_ ?_
 ·have h := j22
  rcases is h with ⟨c47, h⟩ | ⟨c47, h⟩
  ·refine cw_condT e18 c47 ?_
   refine cw_seq ?_
   obtain ⟨g48, h⟩ := gs h
   refine cw_drawL 14 [fun vz wz => vz = ((pt G_0 0) : Value), fun vz wz => vz = ((pt G_0 0) : Value), fun vz wz => vz = ((pt G_0 4) : Value), fun vz wz => vz = (V0_4 : Value), fun vz wz => vz = ((pt G_0 0) : Value), fun vz wz => vz = ((pt G_0 0) : Value), fun vz wz => vz = ((pt G_0 5) : Value), fun vz wz => vz = (.int .i64 a0.Since : Value), fun vz wz => vz = ((pt G_0 0) : Value), fun vz wz => vz = ((pt G_0 0) : Value), fun vz wz => vz = ((pt G_0 4) : Value), fun vz wz => vz = (V0_4 : Value), fun vz wz => vz = (.int .i64 (List.length a0.Plan : Int) : Value), fun vz wz => vz = (.int .i64 (Int.tmod a0.Since (List.length a0.Plan : Int)) : Value)] mo rfl ⟨fun _ _ _ h _ => h, fun _ _ _ h _ => h, fun _ _ _ h _ => h, fun _ _ _ h _ => h, fun _ _ _ h _ => h, fun _ _ _ h _ => h, fun _ _ _ h _ => h, fun _ _ _ h _ => h, fun _ _ _ h _ => h, fun _ _ _ h _ => h, fun _ _ _ h _ => h, fun _ _ _ h _ => h, fun _ _ _ h _ => h, fun _ _ _ h _ => h, trivial⟩ ?_ ?_
   ·refine ⟨?_, ?_, ?_, ?_, ?_, ?_, ?_, ?_, ?_, ?_, ?_, ?_, ?_, ?_, trivial⟩
    ·intro ρz wz hz hk hd
     exact sk_val (v := (pt G_0 0)) (xr_move rfl ((hk 0 rfl).trans e0)) rfl rfl
    ·intro ρz wz hz hk hd
     exact sk_val (v := (pt G_0 0)) (xr_nilCheck rfl (hd 0 rfl 19 rfl)) rfl rfl
    ·intro ρz wz hz hk hd
     exact sk_val (v := (pt G_0 4)) (xr_fieldAddr (p := 0) (q := 4) rfl fl65_4 (hd 1 rfl 20 rfl)) rfl rfl
    ·intro ρz wz hz hk hd
     exact sk_val (v := V0_4) (xr_load1 (v := V0_4) rfl ag25 (hd 2 rfl 21 rfl) ((b_0.gr hz).seg 4 rfl rfl)) rfl rfl
    ·intro ρz wz hz hk hd
     exact sk_val (v := (pt G_0 0)) (xr_move rfl ((hk 0 rfl).trans e0)) rfl rfl
    ·intro ρz wz hz hk hd
     exact sk_val (v := (pt G_0 0)) (xr_nilCheck rfl (hd 4 rfl 23 rfl)) rfl rfl
    ·intro ρz wz hz hk hd
     exact sk_val (v := (pt G_0 5)) (xr_fieldAddr (p := 0) (q := 5) rfl fl65_5 (hd 5 rfl 24 rfl)) rfl rfl
    ·intro ρz wz hz hk hd
     exact sk_val (v := .int .i64 a0.Since) (xr_load1 (v := .int .i64 a0.Since) rfl ag3 (hd 6 rfl 25 rfl) ((b_0.gr hz).seg 5 rfl rfl)) rfl rfl
    ·intro ρz wz hz hk hd
     exact sk_val (v := (pt G_0 0)) (xr_move rfl ((hk 0 rfl).trans e0)) rfl rfl
    ·intro ρz wz hz hk hd
     exact sk_val (v := (pt G_0 0)) (xr_nilCheck rfl (hd 8 rfl 27 rfl)) rfl rfl
    ·intro ρz wz hz hk hd
     exact sk_val (v := (pt G_0 4)) (xr_fieldAddr (p := 0) (q := 4) rfl fl65_4 (hd 9 rfl 28 rfl)) rfl rfl
    ·intro ρz wz hz hk hd
     exact sk_val (v := V0_4) (xr_load1 (v := V0_4) rfl ag25 (hd 10 rfl 29 rfl) ((b_0.gr hz).seg 4 rfl rfl)) rfl rfl
    ·intro ρz wz hz hk hd
     exact sk_val (v := .int .i64 (List.length a0.Plan : Int)) (xr_lenR rfl Try.underlying25 (hd 11 rfl 30 rfl) (O0_4.gr hz).rd) rfl rfl
    intro ρz wz hz hk hd
    exact sk_val (v := .int .i64 (Int.tmod a0.Since (List.length a0.Plan : Int))) (xr_rem rfl (hd 7 rfl 26 rfl) (hd 12 rfl 31 rfl) g48) rfl rfl
   intro ρ49 w50 q51 hk hd
   have e0 := (hk 0 rfl).trans e0
   have e2 := (hk 2 rfl).trans e2
   have e22 := hd 3 rfl 22 rfl
   have e32 := hd 13 rfl 32 rfl
   have b_0 := b_0.gr q51
   have O0_0 := O0_0.gr q51
   have O0_1 := O0_1.gr q51
   have O0_2 := O0_2.gr q51
   have O0_3 := O0_3.gr q51
   have O0_4 := O0_4.gr q51
   have fB := fB.gr q51
   obtain ⟨g52, h⟩ := gs h
   refine ol_val (v := (pt ((sb V0_4)) (so V0_4 + Int.toNat (Int.tmod a0.Since (List.length a0.Plan : Int)) * 1))) (xr_indexR (K := (kI .i64)) (v := V0_4) rfl Try.underlying25 sz3 e22 O0_4.rd e32 g52.1 g52.2) rfl rfl rfl ?_
   refine ol_val (v := .int .i64 (ix a0.Plan (Int.tmod a0.Since (List.length a0.Plan : Int)))) (xr_load1 (v := .int .i64 (ix a0.Plan (Int.tmod a0.Since (List.length a0.Plan : Int)))) rfl ag3 rfl (O0_4.rd.elem g52.1 g52.2)) rfl rfl rfl ?_
   refine ol_val (v := .int .i64 (ix a0.Plan (Int.tmod a0.Since (List.length a0.Plan : Int)))) (xr_assign rfl rfl) rfl rfl rfl ?_
   refine ol_nil ?_
   refine cw_seq ?_
   refine cw_region ?_
   refine ol_val (v := .int .i64 (ix a0.Plan (Int.tmod a0.Since (List.length a0.Plan : Int)))) (xr_move rfl rfl) rfl rfl rfl ?_
   refine ol_val (v := .bool (decide ((ix a0.Plan (Int.tmod a0.Since (List.length a0.Plan : Int))) ≥ 0))) (xr_geq rfl rfl rfl) rfl rfl rfl ?_
   refine ol_nil ?_
   obtain ⟨x53, j54, h55⟩ := bs h
   refine cw_mid (fun ρ' w' => ∃ v56 : Value, ∃ v60 : Value, ∃ v64 : Value, ∃ v68 : Value, ∃ v72 : Value, ∃ o57 : Own (kI .u64) 22 w' 0 v56 x53.1, ∃ o61 : Own (kI .u64) 22 w' 0 v60 x53.2.1, ∃ o65 : Own (kI .u64) 22 w' 0 v64 x53.2.2.1, ∃ o69 : Own kB 4 w' 0 v68 x53.2.2.2.1, ∃ o73 : Own (kI .i64) 3 w' 0 v72 x53.2.2.2.2.1, ∃ m59 : ∀ g, Value.ownBlock v56 = some g → w.heap.size ≤ g ∨ (g = G_0 ∨ some g = Value.ownBlock V0_0 ∨ some g = Value.ownBlock V0_1 ∨ some g = Value.ownBlock V0_2 ∨ some g = Value.ownBlock V0_3 ∨ some g = Value.ownBlock V0_4), ∃ m63 : ∀ g, Value.ownBlock v60 = some g → w.heap.size ≤ g ∨ (g = G_0 ∨ some g = Value.ownBlock V0_0 ∨ some g = Value.ownBlock V0_1 ∨ some g = Value.ownBlock V0_2 ∨ some g = Value.ownBlock V0_3 ∨ some g = Value.ownBlock V0_4), ∃ m67 : ∀ g, Value.ownBlock v64 = some g → w.heap.size ≤ g ∨ (g = G_0 ∨ some g = Value.ownBlock V0_0 ∨ some g = Value.ownBlock V0_1 ∨ some g = Value.ownBlock V0_2 ∨ some g = Value.ownBlock V0_3 ∨ some g = Value.ownBlock V0_4), ∃ m71 : ∀ g, Value.ownBlock v68 = some g → w.heap.size ≤ g ∨ (g = G_0 ∨ some g = Value.ownBlock V0_0 ∨ some g = Value.ownBlock V0_1 ∨ some g = Value.ownBlock V0_2 ∨ some g = Value.ownBlock V0_3 ∨ some g = Value.ownBlock V0_4), ∃ m75 : ∀ g, Value.ownBlock v72 = some g → w.heap.size ≤ g ∨ (g = G_0 ∨ some g = Value.ownBlock V0_0 ∨ some g = Value.ownBlock V0_1 ∨ some g = Value.ownBlock V0_2 ∨ some g = Value.ownBlock V0_3 ∨ some g = Value.ownBlock V0_4), OffV v56 v60 ∧ OffV v56 v64 ∧ OffV v60 v64 ∧ ρ' 0 = (pt G_0 0) ∧ Blk w' G_0 65 [Seg.cell v56 o57.one, Seg.cell v60 o61.one, Seg.cell v64 o65.one, Seg.cell v68 o69.one, Seg.cell v72 o73.one, (sI x53.2.2.2.2.2.1), (sI x53.2.2.2.2.2.2.1), (sI x53.2.2.2.2.2.2.2)] ∧ Fr (fun j => j = G_0 ∨ some j = Value.ownBlock V0_0 ∨ some j = Value.ownBlock V0_1 ∨ some j = Value.ownBlock V0_2 ∨ some j = Value.ownBlock V0_3 ∨ some j = Value.ownBlock V0_4) w w') ?_ ?_
   ·have h := j54
    rcases is h with ⟨c79, h⟩ | ⟨c79, h⟩
    ·refine cw_condT rfl c79 ?_
     obtain ⟨g80, h⟩ := gs h
     obtain ⟨g81, h⟩ := gs h
     obtain ⟨g82, h⟩ := gs h
     refine cw_drawL 13 [fun vz wz => vz = ((pt G_0 0) : Value), fun vz wz => vz = (.int .i64 (ix a0.Plan (Int.tmod a0.Since (List.length a0.Plan : Int))) : Value), fun vz wz => vz = (.int .i64 (List.length a0.Lasts : Int) : Value), fun vz wz => vz = (.int .i64 (Int.tmod (ix a0.Plan (Int.tmod a0.Since (List.length a0.Plan : Int))) (List.length a0.Lasts : Int)) : Value), fun vz wz => vz = ((pt G_0 0) : Value), fun vz wz => vz = ((pt G_0 0) : Value), fun vz wz => vz = ((pt G_0 1) : Value), fun vz wz => vz = (V0_1 : Value), fun vz wz => vz = (.int .i64 (ix a0.Plan (Int.tmod a0.Since (List.length a0.Plan : Int))) : Value), fun vz wz => vz = (.int .i64 (List.length a0.Lasts : Int) : Value), fun vz wz => vz = (.int .i64 (Int.tmod (ix a0.Plan (Int.tmod a0.Since (List.length a0.Plan : Int))) (List.length a0.Lasts : Int)) : Value), fun vz wz => vz = ((pt ((sb V0_1)) (so V0_1 + Int.toNat (Int.tmod (ix a0.Plan (Int.tmod a0.Since (List.length a0.Plan : Int))) (List.length a0.Lasts : Int)) * 1)) : Value), fun vz wz => vz = (.int .u64 (ix a0.Stored (Int.tmod (ix a0.Plan (Int.tmod a0.Since (List.length a0.Plan : Int))) (List.length a0.Lasts : Int))) : Value)] mo rfl ⟨fun _ _ _ h _ => h, fun _ _ _ h _ => h, fun _ _ _ h _ => h, fun _ _ _ h _ => h, fun _ _ _ h _ => h, fun _ _ _ h _ => h, fun _ _ _ h _ => h, fun _ _ _ h _ => h, fun _ _ _ h _ => h, fun _ _ _ h _ => h, fun _ _ _ h _ => h, fun _ _ _ h _ => h, fun _ _ _ h _ => h, trivial⟩ ?_ ?_
     ·refine ⟨?_, ?_, ?_, ?_, ?_, ?_, ?_, ?_, ?_, ?_, ?_, ?_, ?_, trivial⟩
      ·intro ρz wz hz hk hd
       exact sk_val (v := (pt G_0 0)) (xr_move rfl ((hk 0 rfl).trans e0)) rfl rfl
      ·intro ρz wz hz hk hd
       exact sk_val (xr_move rfl ((hk 3 rfl).trans rfl)) rfl rfl
      ·intro ρz wz hz hk hd
       exact sk_val (v := .int .i64 (List.length a0.Lasts : Int)) (xr_move rfl ((hk 2 rfl).trans e2)) rfl rfl
      ·intro ρz wz hz hk hd
       exact sk_val (xr_rem rfl (hd 1 rfl 38 rfl) (hd 2 rfl 39 rfl) g80) rfl rfl
      ·intro ρz wz hz hk hd
       exact sk_val (v := (pt G_0 0)) (xr_move rfl ((hk 0 rfl).trans e0)) rfl rfl
      ·intro ρz wz hz hk hd
       exact sk_val (v := (pt G_0 0)) (xr_nilCheck rfl (hd 4 rfl 41 rfl)) rfl rfl
      ·intro ρz wz hz hk hd
       exact sk_val (v := (pt G_0 1)) (xr_fieldAddr (p := 0) (q := 1) rfl fl65_1 (hd 5 rfl 42 rfl)) rfl rfl
      ·intro ρz wz hz hk hd
       exact sk_val (v := V0_1) (xr_load1 (v := V0_1) rfl ag46 (hd 6 rfl 43 rfl) ((b_0.gr hz).seg 1 rfl rfl)) rfl rfl
      ·intro ρz wz hz hk hd
       exact sk_val (xr_move rfl ((hk 3 rfl).trans rfl)) rfl rfl
      ·intro ρz wz hz hk hd
       exact sk_val (v := .int .i64 (List.length a0.Lasts : Int)) (xr_move rfl ((hk 2 rfl).trans e2)) rfl rfl
      ·intro ρz wz hz hk hd
       exact sk_val (xr_rem rfl (hd 8 rfl 45 rfl) (hd 9 rfl 46 rfl) g81) rfl rfl
      ·intro ρz wz hz hk hd
       exact sk_val (xr_indexR (K := (kI .u64)) (v := V0_1) rfl Try.underlying46 sz22 (hd 7 rfl 44 rfl) (O0_1.gr hz).rd (hd 10 rfl 47 rfl) g82.1 g82.2) rfl rfl
      intro ρz wz hz hk hd
      exact sk_val (xr_load1 (v := .int .u64 (ix a0.Stored (Int.tmod (ix a0.Plan (Int.tmod a0.Since (List.length a0.Plan : Int))) (List.length a0.Lasts : Int)))) rfl ag22 (hd 11 rfl 48 rfl) ((O0_1.gr hz).rd.elem g82.1 g82.2)) rfl rfl
     intro ρ83 w84 q85 hk hd
     have e0 := (hk 0 rfl).trans e0
     have e37 := hd 0 rfl 37 rfl
     have e40 := hd 3 rfl 40 rfl
     have e49 := hd 12 rfl 49 rfl
     have b_0 := b_0.gr q85
     have O0_0 := O0_0.gr q85
     have O0_1 := O0_1.gr q85
     have O0_2 := O0_2.gr q85
     have O0_3 := O0_3.gr q85
     have O0_4 := O0_4.gr q85
     have fB := fB.gr q85
     obtain ⟨t86, k87, h⟩ := bs h
     have c112 : ∀ k, (k = G_0 ∨ some k = Value.ownBlock V0_0 ∨ some k = Value.ownBlock V0_1 ∨ some k = Value.ownBlock V0_2 ∨ some k = Value.ownBlock V0_3 ∨ some k = Value.ownBlock V0_4) → (w.heap.size ≤ k ∨ (k = G_0 ∨ some k = Value.ownBlock V0_0 ∨ some k = Value.ownBlock V0_1 ∨ some k = Value.ownBlock V0_2 ∨ some k = Value.ownBlock V0_3 ∨ some k = Value.ownBlock V0_4)) := (cv_or (cv_eq (.inr (.inl rfl))) (cv_or (cv_own M0_0) (cv_or (cv_own M0_1) (cv_or (cv_own M0_2) (cv_or (cv_own M0_3) (cv_own M0_4))))))
     refine ol_op (opv_call rfl cal126 (ac e37 (ac e40 (ac e49 an))) (rickyardref05_Device_last.ok fu _ a0 G_0 V0_0 (Own.base O0_0 (Nat.zero_le _)) V0_1 (Own.base O0_1 (Nat.zero_le _)) V0_2 (Own.base O0_2 (Nat.zero_le _)) V0_3 (Own.base O0_3 (Nat.zero_le _)) V0_4 (Own.base O0_4 (Nat.zero_le _)) b_0 (Int.tmod (ix a0.Plan (Int.tmod a0.Since (List.length a0.Plan : Int))) (List.length a0.Lasts : Int)) (ix a0.Stored (Int.tmod (ix a0.Plan (Int.tmod a0.Since (List.length a0.Plan : Int))) (List.length a0.Lasts : Int))) A_R0_0_R0_1 A_R0_0_R0_2 A_R0_1_R0_2 _ k87)) rfl rfl rfl ?_
     rintro _ w113 ⟨u89, u93, u97, u101, u105, o90, m91, o94, m95, o98, m99, o102, m103, o106, m107, a109, a110, a111, rfl, b_0, q88⟩
     have m91 : ∀ g, Value.ownBlock u89 = some g → w.heap.size ≤ g ∨ (g = G_0 ∨ some g = Value.ownBlock V0_0 ∨ some g = Value.ownBlock V0_1 ∨ some g = Value.ownBlock V0_2 ∨ some g = Value.ownBlock V0_3 ∨ some g = Value.ownBlock V0_4) := fun g hg => (m91 g hg).elim (fun x => .inl (Nat.le_trans fB.size x)) (c112 g)
     have m95 : ∀ g, Value.ownBlock u93 = some g → w.heap.size ≤ g ∨ (g = G_0 ∨ some g = Value.ownBlock V0_0 ∨ some g = Value.ownBlock V0_1 ∨ some g = Value.ownBlock V0_2 ∨ some g = Value.ownBlock V0_3 ∨ some g = Value.ownBlock V0_4) := fun g hg => (m95 g hg).elim (fun x => .inl (Nat.le_trans fB.size x)) (c112 g)
     have m99 : ∀ g, Value.ownBlock u97 = some g → w.heap.size ≤ g ∨ (g = G_0 ∨ some g = Value.ownBlock V0_0 ∨ some g = Value.ownBlock V0_1 ∨ some g = Value.ownBlock V0_2 ∨ some g = Value.ownBlock V0_3 ∨ some g = Value.ownBlock V0_4) := fun g hg => (m99 g hg).elim (fun x => .inl (Nat.le_trans fB.size x)) (c112 g)
     have m103 : ∀ g, Value.ownBlock u101 = some g → w.heap.size ≤ g ∨ (g = G_0 ∨ some g = Value.ownBlock V0_0 ∨ some g = Value.ownBlock V0_1 ∨ some g = Value.ownBlock V0_2 ∨ some g = Value.ownBlock V0_3 ∨ some g = Value.ownBlock V0_4) := fun g hg => (m103 g hg).elim (fun x => .inl (Nat.le_trans fB.size x)) (c112 g)
     have m107 : ∀ g, Value.ownBlock u105 = some g → w.heap.size ≤ g ∨ (g = G_0 ∨ some g = Value.ownBlock V0_0 ∨ some g = Value.ownBlock V0_1 ∨ some g = Value.ownBlock V0_2 ∨ some g = Value.ownBlock V0_3 ∨ some g = Value.ownBlock V0_4) := fun g hg => (m107 g hg).elim (fun x => .inl (Nat.le_trans fB.size x)) (c112 g)
     have fB := fB.call q88 c112
     refine ol_nil ?_
     obtain rfl := Option.some.inj h
     refine thn_i ?_
     exact ⟨u89, u93, u97, u101, u105, o90, o94, o98, o102, o106, m91, m95, m99, m103, m107, a109, a110, a111, e0, b_0, fB⟩
    refine cw_condF rfl c79 ?_
    refine cw_skip ?_
    obtain rfl := Option.some.inj h
    refine thn_i ?_
    exact ⟨V0_0, V0_1, V0_2, V0_3, V0_4, O0_0, O0_1, O0_2, O0_3, O0_4, M0_0, M0_1, M0_2, M0_3, M0_4, A_R0_0_R0_1, A_R0_0_R0_2, A_R0_1_R0_2, e0, b_0, fB⟩
   rintro ρ114 w115 ⟨v56, v60, v64, v68, v72, o57, o61, o65, o69, o73, m59, m63, m67, m71, m75, a76, a77, a78, e0, b_0, fB⟩
   have h := h55
   obtain rfl := Option.some.inj h
   refine thn_i ?_
   exact ⟨v56, v60, v64, v68, v72, o57, o61, o65, o69, o73, m59, m63, m67, m71, m75, a76, a77, a78, e0, b_0, fB⟩
  refine cw_condF e18 c47 ?_
  refine cw_skip ?_
  obtain rfl := Option.some.inj h
  refine thn_i ?_
  exact ⟨V0_0, V0_1, V0_2, V0_3, V0_4, O0_0, O0_1, O0_2, O0_3, O0_4, M0_0, M0_1, M0_2, M0_3, M0_4, A_R0_0_R0_1, A_R0_0_R0_2, A_R0_1_R0_2, e0, b_0, fB⟩
 rintro ρ116 w117 ⟨v24, v28, v32, v36, v40, o25, o29, o33, o37, o41, m27, m31, m35, m39, m43, a44, a45, a46, e0, b_0, fB⟩
 have h := h23
 refine cw_seq ?_
 refine cw_region ?_
 refine ol_val (v := (pt G_0 0)) (xr_move rfl e0) rfl rfl rfl ?_
 refine ol_val (v := (pt G_0 0)) (xr_nilCheck rfl rfl) rfl rfl rfl ?_
 refine ol_val (v := (pt G_0 5)) (xr_fieldAddr (p := 0) (q := 5) rfl fl65_5 rfl) rfl rfl rfl ?_
 refine ol_val (v := .int .i64 x21.2.2.2.2.2.1) (xr_load1 (v := .int .i64 x21.2.2.2.2.2.1) rfl ag3 rfl (b_0.seg 5 rfl rfl)) rfl rfl rfl ?_
 refine ol_val (v := .int .i64 (IntKind.i64.wrap (x21.2.2.2.2.2.1 + 1))) (xr_add rfl rfl rfl) rfl rfl rfl ?_
 refine ol_val (v := (pt G_0 0)) (xr_nilCheck rfl rfl) rfl rfl rfl ?_
 refine ol_val (v := (pt G_0 5)) (xr_fieldAddr (p := 0) (q := 5) rfl fl65_5 rfl) rfl rfl rfl ?_
 have f119 := off_ty b_0 o25 (by decide)
 have f120 := off_ty b_0 o29 (by decide)
 have f121 := off_ty b_0 o33 (by decide)
 have f122 := off_ty b_0 o37 (by decide)
 have f123 := off_ty b_0 o41 (by decide)
 refine ol_op0 (opv_store (ss' := [Seg.cell v24 o25.one, Seg.cell v28 o29.one, Seg.cell v32 o33.one, Seg.cell v36 o37.one, Seg.cell v40 o41.one, (sI (IntKind.i64.wrap (x21.2.2.2.2.2.1 + 1))), (sI x21.2.2.2.2.2.2.1), (sI x21.2.2.2.2.2.2.2)]) (xs := cellsOf [(sI (IntKind.i64.wrap (x21.2.2.2.2.2.1 + 1)))]) rfl sz3 rfl rfl rfl (len_cellsOf _) (one_cellsOf _) b_0 (Spl.segs _ 5 1 [(sI (IntKind.i64.wrap (x21.2.2.2.2.2.1 + 1)))] rfl rfl)) rfl rfl ?_
 rintro _ w124 ⟨b_0, q118⟩
 have o25 := o25.wr q118 f119
 have o29 := o29.wr q118 f120
 have o33 := o33.wr q118 f121
 have o37 := o37.wr q118 f122
 have o41 := o41.wr q118 f123
 have fB := fB.wrS q118 (.inl rfl)
 refine ol_nil ?_
 refine cw_seq ?_
 refine cw_region ?_
 refine ol_val (v := (pt G_0 0)) (xr_move rfl e0) rfl rfl rfl ?_
 refine ol_val (v := (pt G_0 0)) (xr_nilCheck rfl rfl) rfl rfl rfl ?_
 refine ol_val (v := (pt G_0 7)) (xr_fieldAddr (p := 0) (q := 7) rfl fl65_7 rfl) rfl rfl rfl ?_
 refine ol_val (v := .int .i64 x21.2.2.2.2.2.2.2) (xr_load1 (v := .int .i64 x21.2.2.2.2.2.2.2) rfl ag3 rfl (b_0.seg 7 rfl rfl)) rfl rfl rfl ?_
 refine ol_val (v := .int .i64 (IntKind.i64.wrap (x21.2.2.2.2.2.2.2 + 1))) (xr_add rfl rfl rfl) rfl rfl rfl ?_
 refine ol_val (v := (pt G_0 0)) (xr_nilCheck rfl rfl) rfl rfl rfl ?_
 refine ol_val (v := (pt G_0 7)) (xr_fieldAddr (p := 0) (q := 7) rfl fl65_7 rfl) rfl rfl rfl ?_
 have f126 := off_ty b_0 o25 (by decide)
 have f127 := off_ty b_0 o29 (by decide)
 have f128 := off_ty b_0 o33 (by decide)
 have f129 := off_ty b_0 o37 (by decide)
 have f130 := off_ty b_0 o41 (by decide)
 refine ol_op0 (opv_store (ss' := [Seg.cell v24 o25.one, Seg.cell v28 o29.one, Seg.cell v32 o33.one, Seg.cell v36 o37.one, Seg.cell v40 o41.one, (sI (IntKind.i64.wrap (x21.2.2.2.2.2.1 + 1))), (sI x21.2.2.2.2.2.2.1), (sI (IntKind.i64.wrap (x21.2.2.2.2.2.2.2 + 1)))]) (xs := cellsOf [(sI (IntKind.i64.wrap (x21.2.2.2.2.2.2.2 + 1)))]) rfl sz3 rfl rfl rfl (len_cellsOf _) (one_cellsOf _) b_0 (Spl.segs _ 7 1 [(sI (IntKind.i64.wrap (x21.2.2.2.2.2.2.2 + 1)))] rfl rfl)) rfl rfl ?_
 rintro _ w131 ⟨b_0, q125⟩
 have o25 := o25.wr q125 f126
 have o29 := o29.wr q125 f127
 have o33 := o33.wr q125 f128
 have o37 := o37.wr q125 f129
 have o41 := o41.wr q125 f130
 have fB := fB.wrS q125 (.inl rfl)
 refine ol_nil ?_
 refine cw_seq ?_
 refine cw_region ?_
 refine ol_val (v := (pt G_0 0)) (xr_move rfl e0) rfl rfl rfl ?_
 refine ol_val (v := (pt G_0 0)) (xr_nilCheck rfl rfl) rfl rfl rfl ?_
 refine ol_val (v := (pt G_0 6)) (xr_fieldAddr (p := 0) (q := 6) rfl fl65_6 rfl) rfl rfl rfl ?_
 refine ol_val (v := .int .i64 x21.2.2.2.2.2.2.1) (xr_load1 (v := .int .i64 x21.2.2.2.2.2.2.1) rfl ag3 rfl (b_0.seg 6 rfl rfl)) rfl rfl rfl ?_
 refine ol_val (v := .bool (decide (x21.2.2.2.2.2.2.1 > 0))) (xr_gtr rfl rfl rfl) rfl rfl rfl ?_
 refine ol_nil ?_
 obtain ⟨x132, j133, h134⟩ := bs h
 refine cw_mid (fun ρ' w' => ∃ o25 : Own (kI .u64) 22 w' 0 v24 x21.1, ∃ o29 : Own (kI .u64) 22 w' 0 v28 x21.2.1, ∃ o33 : Own (kI .u64) 22 w' 0 v32 x21.2.2.1, ∃ o37 : Own kB 4 w' 0 v36 x21.2.2.2.1, ∃ o41 : Own (kI .i64) 3 w' 0 v40 x21.2.2.2.2.1, ∃ m27 : ∀ g, Value.ownBlock v24 = some g → w.heap.size ≤ g ∨ (g = G_0 ∨ some g = Value.ownBlock V0_0 ∨ some g = Value.ownBlock V0_1 ∨ some g = Value.ownBlock V0_2 ∨ some g = Value.ownBlock V0_3 ∨ some g = Value.ownBlock V0_4), ∃ m31 : ∀ g, Value.ownBlock v28 = some g → w.heap.size ≤ g ∨ (g = G_0 ∨ some g = Value.ownBlock V0_0 ∨ some g = Value.ownBlock V0_1 ∨ some g = Value.ownBlock V0_2 ∨ some g = Value.ownBlock V0_3 ∨ some g = Value.ownBlock V0_4), ∃ m35 : ∀ g, Value.ownBlock v32 = some g → w.heap.size ≤ g ∨ (g = G_0 ∨ some g = Value.ownBlock V0_0 ∨ some g = Value.ownBlock V0_1 ∨ some g = Value.ownBlock V0_2 ∨ some g = Value.ownBlock V0_3 ∨ some g = Value.ownBlock V0_4), ∃ m39 : ∀ g, Value.ownBlock v36 = some g → w.heap.size ≤ g ∨ (g = G_0 ∨ some g = Value.ownBlock V0_0 ∨ some g = Value.ownBlock V0_1 ∨ some g = Value.ownBlock V0_2 ∨ some g = Value.ownBlock V0_3 ∨ some g = Value.ownBlock V0_4), ∃ m43 : ∀ g, Value.ownBlock v40 = some g → w.heap.size ≤ g ∨ (g = G_0 ∨ some g = Value.ownBlock V0_0 ∨ some g = Value.ownBlock V0_1 ∨ some g = Value.ownBlock V0_2 ∨ some g = Value.ownBlock V0_3 ∨ some g = Value.ownBlock V0_4), Blk w' G_0 65 [Seg.cell v24 o25.one, Seg.cell v28 o29.one, Seg.cell v32 o33.one, Seg.cell v36 o37.one, Seg.cell v40 o41.one, (sI (IntKind.i64.wrap (x21.2.2.2.2.2.1 + 1))), (sI x132), (sI (IntKind.i64.wrap (x21.2.2.2.2.2.2.2 + 1)))] ∧ Fr (fun j => j = G_0 ∨ some j = Value.ownBlock V0_0 ∨ some j = Value.ownBlock V0_1 ∨ some j = Value.ownBlock V0_2 ∨ some j = Value.ownBlock V0_3 ∨ some j = Value.ownBlock V0_4) w w') ?_ ?_
 ·have h := j133
  rcases is h with ⟨c135, h⟩ | ⟨c135, h⟩
  ·refine cw_condT rfl c135 ?_
   refine cw_region ?_
   refine ol_val (v := (pt G_0 0)) (xr_move rfl e0) rfl rfl rfl ?_
   refine ol_val (v := (pt G_0 0)) (xr_move rfl e0) rfl rfl rfl ?_
   refine ol_val (v := (pt G_0 0)) (xr_nilCheck rfl rfl) rfl rfl rfl ?_
   refine ol_val (v := (pt G_0 6)) (xr_fieldAddr (p := 0) (q := 6) rfl fl65_6 rfl) rfl rfl rfl ?_
   refine ol_val (v := .int .i64 x21.2.2.2.2.2.2.1) (xr_load1 (v := .int .i64 x21.2.2.2.2.2.2.1) rfl ag3 rfl (b_0.seg 6 rfl rfl)) rfl rfl rfl ?_
   refine ol_val (v := .int .i64 (IntKind.i64.wrap (x21.2.2.2.2.2.2.1 - 1))) (xr_sub rfl rfl rfl) rfl rfl rfl ?_
   refine ol_val (v := (pt G_0 0)) (xr_nilCheck rfl rfl) rfl rfl rfl ?_
   refine ol_val (v := (pt G_0 6)) (xr_fieldAddr (p := 0) (q := 6) rfl fl65_6 rfl) rfl rfl rfl ?_
   have f137 := off_ty b_0 o25 (by decide)
   have f138 := off_ty b_0 o29 (by decide)
   have f139 := off_ty b_0 o33 (by decide)
   have f140 := off_ty b_0 o37 (by decide)
   have f141 := off_ty b_0 o41 (by decide)
   refine ol_op0 (opv_store (ss' := [Seg.cell v24 o25.one, Seg.cell v28 o29.one, Seg.cell v32 o33.one, Seg.cell v36 o37.one, Seg.cell v40 o41.one, (sI (IntKind.i64.wrap (x21.2.2.2.2.2.1 + 1))), (sI (IntKind.i64.wrap (x21.2.2.2.2.2.2.1 - 1))), (sI (IntKind.i64.wrap (x21.2.2.2.2.2.2.2 + 1)))]) (xs := cellsOf [(sI (IntKind.i64.wrap (x21.2.2.2.2.2.2.1 - 1)))]) rfl sz3 rfl rfl rfl (len_cellsOf _) (one_cellsOf _) b_0 (Spl.segs _ 6 1 [(sI (IntKind.i64.wrap (x21.2.2.2.2.2.2.1 - 1)))] rfl rfl)) rfl rfl ?_
   rintro _ w142 ⟨b_0, q136⟩
   have o25 := o25.wr q136 f137
   have o29 := o29.wr q136 f138
   have o33 := o33.wr q136 f139
   have o37 := o37.wr q136 f140
   have o41 := o41.wr q136 f141
   have fB := fB.wrS q136 (.inl rfl)
   refine ol_nil ?_
   obtain rfl := Option.some.inj h
   refine thn_i ?_
   exact ⟨o25, o29, o33, o37, o41, m27, m31, m35, m39, m43, b_0, fB⟩
  refine cw_condF rfl c135 ?_
  refine cw_skip ?_
  obtain rfl := Option.some.inj h
  refine thn_i ?_
  exact ⟨o25, o29, o33, o37, o41, m27, m31, m35, m39, m43, b_0, fB⟩
 rintro ρ143 w144 ⟨o25, o29, o33, o37, o41, m27, m31, m35, m39, m43, b_0, fB⟩
 have h := h134
 obtain rfl := Option.some.inj h
 refine fin_end0 Try.results125 ?_
 exact ⟨_, rfl, v24, v28, v32, v36, v40, o25, m27, o29, m31, o33, m35, o37, m39, o41, m43, a44, a45, a46, rfl, b_0, fB⟩
def rickyardref05_Device_Store.f (fu : Nat) (a0 : S_rickyardref05_Device) (a1 : Int) (a2 : Int) : Option (Int × S_rickyardref05_Device) := ((rickyardref05_Device_error.f fu a0 a1 (List.length a0.Lasts : Int)).bind fun t19 => (((if (decide (t19 = 0)) = true then (if 0 ≤ a1 ∧ a1 < (List.length a0.Stored : Int) then ((rickyardref05_Device_step.f fu (⟨a0.Lasts, (List.set a0.Stored (Int.toNat a1) a2), a0.Sent, a0.Flushed, a0.Plan, a0.Since, a0.Left, a0.Steps⟩ : S_rickyardref05_Device)).bind fun t59 => some (t59.Lasts, t59.Stored, t59.Sent, t59.Flushed, t59.Plan, t59.Since, t59.Left, t59.Steps)) else none) else some (a0.Lasts, a0.Stored, a0.Sent, a0.Flushed, a0.Plan, a0.Since, a0.Left, a0.Steps)) : Option ((List Int) × (List Int) × (List Int) × (List Bool) × (List Int) × Int × Int × Int)).bind fun x23 => some (t19, (⟨x23.1, x23.2.1, x23.2.2.1, x23.2.2.2.1, x23.2.2.2.2.1, x23.2.2.2.2.2.1, x23.2.2.2.2.2.2.1, x23.2.2.2.2.2.2.2⟩ : S_rickyardref05_Device))))
theorem rickyardref05_Device_Store.ok (fu : Nat) (w : World) (a0 : S_rickyardref05_Device) (G_0 : Nat) (V0_0 : Value) (O0_0 : Own (kI .u64) 22 w 0 V0_0 a0.Lasts) (V0_1 : Value) (O0_1 : Own (kI .u64) 22 w 0 V0_1 a0.Stored) (V0_2 : Value) (O0_2 : Own (kI .u64) 22 w 0 V0_2 a0.Sent) (V0_3 : Value) (O0_3 : Own kB 4 w 0 V0_3 a0.Flushed) (V0_4 : Value) (O0_4 : Own (kI .i64) 3 w 0 V0_4 a0.Plan) (b_0 : Blk w G_0 65 [Seg.cell V0_0 O0_0.one, Seg.cell V0_1 O0_1.one, Seg.cell V0_2 O0_2.one, Seg.cell V0_3 O0_3.one, Seg.cell V0_4 O0_4.one, (sI a0.Since), (sI a0.Left), (sI a0.Steps)]) (a1 : Int) (a2 : Int) (A_R0_0_R0_1 : OffV V0_0 V0_1) (A_R0_0_R0_2 : OffV V0_0 V0_2) (A_R0_1_R0_2 : OffV V0_1 V0_2) (r : Int × S_rickyardref05_Device) (h : rickyardref05_Device_Store.f fu a0 a1 a2 = some r) :
  Calls Try.prog 92 (([(pt G_0 0), .int .i64 a1, .int .u64 a2] : List Value).toArray) w (fun e w' => ∃ v, e = .returned v ∧ ∃ u1 : Value, ∃ u4 : Value, ∃ u7 : Value, ∃ u10 : Value, ∃ u13 : Value, ∃ o2 : Own (kI .u64) 22 w' 0 u1 r.2.Lasts, ∃ m3 : ∀ g, Value.ownBlock u1 = some g → w.heap.size ≤ g ∨ (g = G_0 ∨ some g = Value.ownBlock V0_0 ∨ some g = Value.ownBlock V0_1 ∨ some g = Value.ownBlock V0_2 ∨ some g = Value.ownBlock V0_3 ∨ some g = Value.ownBlock V0_4), ∃ o5 : Own (kI .u64) 22 w' 0 u4 r.2.Stored, ∃ m6 : ∀ g, Value.ownBlock u4 = some g → w.heap.size ≤ g ∨ (g = G_0 ∨ some g = Value.ownBlock V0_0 ∨ some g = Value.ownBlock V0_1 ∨ some g = Value.ownBlock V0_2 ∨ some g = Value.ownBlock V0_3 ∨ some g = Value.ownBlock V0_4), ∃ o8 : Own (kI .u64) 22 w' 0 u7 r.2.Sent, ∃ m9 : ∀ g, Value.ownBlock u7 = some g → w.heap.size ≤ g ∨ (g = G_0 ∨ some g = Value.ownBlock V0_0 ∨ some g = Value.ownBlock V0_1 ∨ some g = Value.ownBlock V0_2 ∨ some g = Value.ownBlock V0_3 ∨ some g = Value.ownBlock V0_4), ∃ o11 : Own kB 4 w' 0 u10 r.2.Flushed, ∃ m12 : ∀ g, Value.ownBlock u10 = some g → w.heap.size ≤ g ∨ (g = G_0 ∨ some g = Value.ownBlock V0_0 ∨ some g = Value.ownBlock V0_1 ∨ some g = Value.ownBlock V0_2 ∨ some g = Value.ownBlock V0_3 ∨ some g = Value.ownBlock V0_4), ∃ o14 : Own (kI .i64) 3 w' 0 u13 r.2.Plan, ∃ m15 : ∀ g, Value.ownBlock u13 = some g → w.heap.size ≤ g ∨ (g = G_0 ∨ some g = Value.ownBlock V0_0 ∨ some g = Value.ownBlock V0_1 ∨ some g = Value.ownBlock V0_2 ∨ some g = Value.ownBlock V0_3 ∨ some g = Value.ownBlock V0_4), ∃ a16 : OffV u1 u4, ∃ a17 : OffV u1 u7, ∃ a18 : OffV u4 u7, v = .int .i64 r.1 ∧ Blk w' G_0 65 [Seg.cell u1 o2.one, Seg.cell u4 o5.one, Seg.cell u7 o8.one, Seg.cell u10 o11.one, Seg.cell u13 o14.one, (sI r.2.Since), (sI r.2.Left), (sI r.2.Steps)] ∧ Fr (fun j => j = G_0 ∨ some j = Value.ownBlock V0_0 ∨ some j = Value.ownBlock V0_1 ∨ some j = Value.ownBlock V0_2 ∨ some j = Value.ownBlock V0_3 ∨ some j = Value.ownBlock V0_4) w w') := by
 unfold rickyardref05_Device_Store.f at h
 have fB : Fr (fun j => j = G_0 ∨ some j = Value.ownBlock V0_0 ∨ some j = Value.ownBlock V0_1 ∨ some j = Value.ownBlock V0_2 ∨ some j = Value.ownBlock V0_3 ∨ some j = Value.ownBlock V0_4) w w := Fr.refl _ _
 have M0_0 : ∀ g, Value.ownBlock V0_0 = some g → w.heap.size ≤ g ∨ (g = G_0 ∨ some g = Value.ownBlock V0_0 ∨ some g = Value.ownBlock V0_1 ∨ some g = Value.ownBlock V0_2 ∨ some g = Value.ownBlock V0_3 ∨ some g = Value.ownBlock V0_4) := fun g hg => .inr (.inr (.inl hg.symm))
 have M0_1 : ∀ g, Value.ownBlock V0_1 = some g → w.heap.size ≤ g ∨ (g = G_0 ∨ some g = Value.ownBlock V0_0 ∨ some g = Value.ownBlock V0_1 ∨ some g = Value.ownBlock V0_2 ∨ some g = Value.ownBlock V0_3 ∨ some g = Value.ownBlock V0_4) := fun g hg => .inr (.inr (.inr (.inl hg.symm)))
 have M0_2 : ∀ g, Value.ownBlock V0_2 = some g → w.heap.size ≤ g ∨ (g = G_0 ∨ some g = Value.ownBlock V0_0 ∨ some g = Value.ownBlock V0_1 ∨ some g = Value.ownBlock V0_2 ∨ some g = Value.ownBlock V0_3 ∨ some g = Value.ownBlock V0_4) := fun g hg => .inr (.inr (.inr (.inr (.inl hg.symm))))
 have M0_3 : ∀ g, Value.ownBlock V0_3 = some g → w.heap.size ≤ g ∨ (g = G_0 ∨ some g = Value.ownBlock V0_0 ∨ some g = Value.ownBlock V0_1 ∨ some g = Value.ownBlock V0_2 ∨ some g = Value.ownBlock V0_3 ∨ some g = Value.ownBlock V0_4) := fun g hg => .inr (.inr (.inr (.inr (.inr (.inl hg.symm)))))
 have M0_4 : ∀ g, Value.ownBlock V0_4 = some g → w.heap.size ≤ g ∨ (g = G_0 ∨ some g = Value.ownBlock V0_0 ∨ some g = Value.ownBlock V0_1 ∨ some g = Value.ownBlock V0_2 ∨ some g = Value.ownBlock V0_3 ∨ some g = Value.ownBlock V0_4) := fun g hg => .inr (.inr (.inr (.inr (.inr (.inr hg.symm)))))
 refine calls_cw Try.func92 rfl Try.ntmps92 rfl ?_
 refine cw_seq ?_
 refine cw_region ?_
 refine ol_val (v := .int .i64 0) (xr_assign rfl rfl) rfl rfl rfl ?_
 refine ol_nil ?_
 refine cw_seq ?_
 refine cw_region ?_
 refine ol_val (v := (pt G_0 0)) (xr_move rfl rfl) rfl rfl rfl ?_
 refine ol_val (v := .int .i64 a1) (xr_move rfl rfl) rfl rfl rfl ?_
 refine ol_val (v := (pt G_0 0)) (xr_move rfl rfl) rfl rfl rfl ?_
 refine ol_val (v := (pt G_0 0)) (xr_nilCheck rfl rfl) rfl rfl rfl ?_
 refine ol_val (v := (pt G_0 0)) (xr_fieldAddr (p := 0) (q := 0) rfl fl65_0 rfl) rfl rfl rfl ?_
 refine ol_val (v := V0_0) (xr_load1 (v := V0_0) rfl ag46 rfl (b_0.seg 0 rfl rfl)) rfl rfl rfl ?_
 refine ol_val (v := .int .i64 (List.length a0.Lasts : Int)) (xr_lenR rfl Try.underlying46 rfl O0_0.rd) rfl rfl rfl ?_
 obtain ⟨t19, k20, h⟩ := bs h
 refine ol_op (opv_call rfl cal124 (ac rfl (ac rfl (ac rfl an))) (rickyardref05_Device_error.ok fu _ a0 G_0 V0_0 (O0_0.rd) V0_1 (O0_1.rd) V0_2 (O0_2.rd) V0_3 (O0_3.rd) V0_4 (O0_4.rd) b_0 a1 (List.length a0.Lasts : Int) _ k20)) rfl rfl rfl ?_
 rintro _ w22 ⟨rfl, q21⟩
 have b_0 := b_0.gr q21
 have O0_0 := O0_0.gr q21
 have O0_1 := O0_1.gr q21
 have O0_2 := O0_2.gr q21
 have O0_3 := O0_3.gr q21
 have O0_4 := O0_4.gr q21
 have fB := fB.gr q21
 refine ol_val (v := .int .i64 t19) (xr_assign rfl rfl) rfl rfl rfl ?_
 refine ol_nil ?_
 refine cw_seq ?_
 refine cw_seq ?_
 refine cw_region ?_
 refine ol_val (v := .int .i64 t19) (xr_move rfl rfl) rfl rfl rfl ?_
 refine ol_val (v := .bool (decide (t19 = 0))) (xr_eqI rfl Try.underlying3 rfl rfl rfl) rfl rfl rfl ?_
 refine ol_nil ?_
 obtain ⟨x23, j24, h25⟩ := bs h
 refine cw_mid (fun ρ' w' => ∃ v26 : Value, ∃ v30 : Value, ∃ v34 : Value, ∃ v38 : Value, ∃ v42 : Value, ∃ o27 : Own (kI .u64) 22 w' 0 v26 x23.1, ∃ o31 : Own (kI .u64) 22 w' 0 v30 x23.2.1, ∃ o35 : Own (kI .u64) 22 w' 0 v34 x23.2.2.1, ∃ o39 : Own kB 4 w' 0 v38 x23.2.2.2.1, ∃ o43 : Own (kI .i64) 3 w' 0 v42 x23.2.2.2.2.1, ∃ m29 : ∀ g, Value.ownBlock v26 = some g → w.heap.size ≤ g ∨ (g = G_0 ∨ some g = Value.ownBlock V0_0 ∨ some g = Value.ownBlock V0_1 ∨ some g = Value.ownBlock V0_2 ∨ some g = Value.ownBlock V0_3 ∨ some g = Value.ownBlock V0_4), ∃ m33 : ∀ g, Value.ownBlock v30 = some g → w.heap.size ≤ g ∨ (g = G_0 ∨ some g = Value.ownBlock V0_0 ∨ some g = Value.ownBlock V0_1 ∨ some g = Value.ownBlock V0_2 ∨ some g = Value.ownBlock V0_3 ∨ some g = Value.ownBlock V0_4), ∃ m37 : ∀ g, Value.ownBlock v34 = some g → w.heap.size ≤ g ∨ (g = G_0 ∨ some g = Value.ownBlock V0_0 ∨ some g = Value.ownBlock V0_1 ∨ some g = Value.ownBlock V0_2 ∨ some g = Value.ownBlock V0_3 ∨ some g = Value.ownBlock V0_4), ∃ m41 : ∀ g, Value.ownBlock v38 = some g → w.heap.size ≤ g ∨ (g = G_0 ∨ some g = Value.ownBlock V0_0 ∨ some g = Value.ownBlock V0_1 ∨ some g = Value.ownBlock V0_2 ∨ some g = Value.ownBlock V0_3 ∨ some g = Value.ownBlock V0_4), ∃ m45 : ∀ g, Value.ownBlock v42 = some g → w.heap.size ≤ g ∨ (g = G_0 ∨ some g = Value.ownBlock V0_0 ∨ some g = Value.ownBlock V0_1 ∨ some g = Value.ownBlock V0_2 ∨ some g = Value.ownBlock V0_3 ∨ some g = Value.ownBlock V0_4), OffV v26 v30 ∧ OffV v26 v34 ∧ OffV v30 v34 ∧ ρ' 7 = .int .i64 t19 ∧ Blk w' G_0 65 [Seg.cell v26 o27.one, Seg.cell v30 o31.one, Seg.cell v34 o35.one, Seg.cell v38 o39.one, Seg.cell v42 o43.one, (sI x23.2.2.2.2.2.1), (sI x23.2.2.2.2.2.2.1), (sI x23.2.2.2.2.2.2.2)] ∧ Fr (fun j => j = G_0 ∨ some j = Value.ownBlock V0_0 ∨ some j = Value.ownBlock V0_1 ∨ some j = Value.ownBlock V0_2 ∨ some j = Value.ownBlock V0_3 ∨ some j = Value.ownBlock V0_4) w w') ?_ ?_
 ·have h := j24
  rcases is h with ⟨c49, h⟩ | ⟨c49, h⟩
  ·refine cw_condT rfl c49 ?_
   refine cw_seq ?_
   refine cw_region ?_
   refine ol_val (v := (pt G_0 0)) (xr_move rfl rfl) rfl rfl rfl ?_
   refine ol_val (v := (pt G_0 0)) (xr_nilCheck rfl rfl) rfl rfl rfl ?_
   refine ol_val (v := (pt G_0 1)) (xr_fieldAddr (p := 0) (q := 1) rfl fl65_1 rfl) rfl rfl rfl ?_
   refine ol_val (v := V0_1) (xr_load1 (v := V0_1) rfl ag46 rfl (b_0.seg 1 rfl rfl)) rfl rfl rfl ?_
   refine ol_val (v := .int .i64 a1) (xr_move rfl rfl) rfl rfl rfl ?_
   refine ol_val (v := .int .u64 a2) (xr_move rfl rfl) rfl rfl rfl ?_
   obtain ⟨g50, h⟩ := gs h
   refine ol_val (v := (pt ((sb V0_1)) (so V0_1 + Int.toNat a1 * 1))) (xr_indexR (K := (kI .u64)) (v := V0_1) rfl Try.underlying46 sz22 rfl O0_1.rd rfl g50.1 g50.2) rfl rfl rfl ?_
   have f52 := off_ty b_0 O0_1 (by decide)
   have f53 := A_R0_0_R0_1
   have f54 := A_R0_1_R0_2.symm
   have f55 := OffV.ty O0_3 O0_1 (by decide)
   have f56 := OffV.ty O0_4 O0_1 (by decide)
   refine ol_op0 (opv_storeRow (z := a2) (xs := cellsOf [Seg.cell (.int .u64 a2)]) rfl sz22 rfl rfl rfl (len_cellsOf _) (one_cellsOf _) O0_1 g50.1 g50.2 (Spl.whole ((Kd.len _ _).trans (Kd.len _ _).symm)) rfl) rfl rfl ?_
   rintro _ w58 ⟨O0_1, q51⟩
   have b_0 := b_0.wrO q51 f52
   have O0_0 := O0_0.wrV q51 f53
   have O0_2 := O0_2.wrV q51 f54
   have O0_3 := O0_3.wrV q51 f55
   have O0_4 := O0_4.wrV q51 f56
   have fB := fB.wrM q51 M0_1
   refine ol_nil ?_
   refine cw_region ?_
   refine ol_val (v := (pt G_0 0)) (xr_move rfl rfl) rfl rfl rfl ?_
   obtain ⟨t59, k60, h⟩ := bs h
   have c85 : ∀ k, (k = G_0 ∨ some k = Value.ownBlock V0_0 ∨ some k = Value.ownBlock V0_1 ∨ some k = Value.ownBlock V0_2 ∨ some k = Value.ownBlock V0_3 ∨ some k = Value.ownBlock V0_4) → (w.heap.size ≤ k ∨ (k = G_0 ∨ some k = Value.ownBlock V0_0 ∨ some k = Value.ownBlock V0_1 ∨ some k = Value.ownBlock V0_2 ∨ some k = Value.ownBlock V0_3 ∨ some k = Value.ownBlock V0_4)) := (cv_or (cv_eq (.inr (.inl rfl))) (cv_or (cv_own M0_0) (cv_or (cv_own M0_1) (cv_or (cv_own M0_2) (cv_or (cv_own M0_3) (cv_own M0_4))))))
   refine ol_op (opv_call rfl cal125 (ac rfl an) (rickyardref05_Device_step.ok fu _ (⟨a0.Lasts, (List.set a0.Stored (Int.toNat a1) a2), a0.Sent, a0.Flushed, a0.Plan, a0.Since, a0.Left, a0.Steps⟩ : S_rickyardref05_Device) G_0 V0_0 (Own.base O0_0 (Nat.zero_le _)) V0_1 (Own.base O0_1 (Nat.zero_le _)) V0_2 (Own.base O0_2 (Nat.zero_le _)) V0_3 (Own.base O0_3 (Nat.zero_le _)) V0_4 (Own.base O0_4 (Nat.zero_le _)) b_0 A_R0_0_R0_1 A_R0_0_R0_2 A_R0_1_R0_2 _ k60)) rfl rfl rfl ?_
   rintro _ w86 ⟨u62, u66, u70, u74, u78, o63, m64, o67, m68, o71, m72, o75, m76, o79, m80, a82, a83, a84, rfl, b_0, q61⟩
   have m64 : ∀ g, Value.ownBlock u62 = some g → w.heap.size ≤ g ∨ (g = G_0 ∨ some g = Value.ownBlock V0_0 ∨ some g = Value.ownBlock V0_1 ∨ some g = Value.ownBlock V0_2 ∨ some g = Value.ownBlock V0_3 ∨ some g = Value.ownBlock V0_4) := fun g hg => (m64 g hg).elim (fun x => .inl (Nat.le_trans fB.size x)) (c85 g)
   have m68 : ∀ g, Value.ownBlock u66 = some g → w.heap.size ≤ g ∨ (g = G_0 ∨ some g = Value.ownBlock V0_0 ∨ some g = Value.ownBlock V0_1 ∨ some g = Value.ownBlock V0_2 ∨ some g = Value.ownBlock V0_3 ∨ some g = Value.ownBlock V0_4) := fun g hg => (m68 g hg).elim (fun x => .inl (Nat.le_trans fB.size x)) (c85 g)
   have m72 : ∀ g, Value.ownBlock u70 = some g → w.heap.size ≤ g ∨ (g = G_0 ∨ some g = Value.ownBlock V0_0 ∨ some g = Value.ownBlock V0_1 ∨ some g = Value.ownBlock V0_2 ∨ some g = Value.ownBlock V0_3 ∨ some g = Value.ownBlock V0_4) := fun g hg => (m72 g hg).elim (fun x => .inl (Nat.le_trans fB.size x)) (c85 g)
   have m76 : ∀ g, Value.ownBlock u74 = some g → w.heap.size ≤ g ∨ (g = G_0 ∨ some g = Value.ownBlock V0_0 ∨ some g = Value.ownBlock V0_1 ∨ some g = Value.ownBlock V0_2 ∨ some g = Value.ownBlock V0_3 ∨ some g = Value.ownBlock V0_4) := fun g hg => (m76 g hg).elim (fun x => .inl (Nat.le_trans fB.size x)) (c85 g)
   have m80 : ∀ g, Value.ownBlock u78 = some g → w.heap.size ≤ g ∨ (g = G_0 ∨ some g = Value.ownBlock V0_0 ∨ some g = Value.ownBlock V0_1 ∨ some g = Value.ownBlock V0_2 ∨ some g = Value.ownBlock V0_3 ∨ some g = Value.ownBlock V0_4) := fun g hg => (m80 g hg).elim (fun x => .inl (Nat.le_trans fB.size x)) (c85 g)
   have fB := fB.call q61 c85
   refine ol_nil ?_
   obtain rfl := Option.some.inj h
   refine thn_i ?_
   exact ⟨u62, u66, u70, u74, u78, o63, o67, o71, o75, o79, m64, m68, m72, m76, m80, a82, a83, a84, rfl, b_0, fB⟩
  refine cw_condF rfl c49 ?_
  refine cw_skip ?_
  obtain rfl := Option.some.inj h
  refine thn_i ?_
  exact ⟨V0_0, V0_1, V0_2, V0_3, V0_4, O0_0, O0_1, O0_2, O0_3, O0_4, M0_0, M0_1, M0_2, M0_3, M0_4, A_R0_0_R0_1, A_R0_0_R0_2, A_R0_1_R0_2, rfl, b_0, fB⟩
 rintro ρ87 w88 ⟨v26, v30, v34, v38, v42, o27, o31, o35, o39, o43, m29, m33, m37, m41, m45, a46, a47, a48, e7, b_0, fB⟩
 have h := h25
 refine cw_seq ?_
 refine cw_region ?_
 refine ol_val (v := .int .i64 t19) (xr_move rfl e7) rfl rfl rfl ?_
 refine ol_val (v := .int .i64 t19) (xr_assign rfl rfl) rfl rfl rfl ?_
 refine ol_nil ?_
 refine cw_ret ?_
 repeat (first | with_reducible refine thn_r ?_ | with_reducible refine blk_r ?_)
 obtain rfl := Option.some.inj h
 refine fin_ret1 Try.results92 rfl ?_
 exact ⟨_, rfl, v26, v30, v34, v38, v42, o27, m29, o31, m33, o35, m37, o39, m41, o43, m45, a46, a47, a48, rfl, b_0, fB⟩
end Go.Proofs.Ytklhbaghbmndeaa
