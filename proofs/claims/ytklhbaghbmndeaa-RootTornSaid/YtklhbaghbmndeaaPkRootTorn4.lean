/- RootTorn: texts merged, part 4 of 8. The last part proves that the law RootTorn holds for every input. -/
import Derived.Test.YtklhbaghbmndeaaPkRootTorn3
set_option maxRecDepth 100000
set_option maxHeartbeats 4000000
set_option linter.unusedVariables false
set_option linter.unusedSimpArgs false
namespace Go.Proofs.Ytklhbaghbmndeaa
open Go Go.Xw
def super_Get.s0 (fu : Nat) (t10 : Int × Int × (List Int) × Bool) : (Int × (List Int) × (List Int)) → Option (Sum ((List Int) × (List Int)) (Int × (List Int) × (List Int))) := fun s145 => (if (decide (s145.1 < t10.2.1)) = true then ((super_reader_next.f fu (⟨s145.2.2⟩ : S_super_reader) 2).bind fun t171 => (if List.length s145.2.1 + List.length [t171.1] ≤ LIM then some (Sum.inr ((IntKind.i64.wrap (s145.1 + 1)), (s145.2.1 ++ [t171.1]), t171.2.rest)) else none)) else some (Sum.inl (s145.2.1, s145.2.2)))
def super_Get.f (fu : Nat) (a0 : List Int) : Option (S_api_Super × Bool) := ((block_Open.f fu a0).bind fun t10 => (if (if (!t10.2.2.2) = true then true else (if (!decide (t10.1 = 7)) = true then true else (decide (t10.2.1 > 8)))) = true then some ((⟨(0 : Int), (⟨(⟨(0 : Int), (0 : Int), (0 : Int)⟩ : S_api_Geometry), (0 : Int), (0 : Int), (0 : Int)⟩ : S_api_Tickets), (0 : Int), []⟩ : S_api_Super), false) else ((super_reader_next.f fu (⟨t10.2.2.1⟩ : S_super_reader) 8).bind fun t41 => ((super_reader_next.f fu t41.2 4).bind fun t54 => ((super_reader_next.f fu t54.2 4).bind fun t67 => ((super_reader_next.f fu t67.2 4).bind fun t80 => ((super_reader_next.f fu t80.2 4).bind fun t93 => ((super_reader_next.f fu t93.2 4).bind fun t106 => ((super_reader_next.f fu t106.2 2).bind fun t119 => ((super_reader_next.f fu t119.2 2).bind fun t130 => ((loopM (super_Get.s0 fu t10) fu (0, [], t130.2.rest)).bind fun e146 => ((((super_Right.f fu (⟨t41.1, (⟨(⟨t54.1, t67.1, t80.1⟩ : S_api_Geometry), t119.1, t93.1, t106.1⟩ : S_api_Tickets), t130.1, e146.1⟩ : S_api_Super)).bind fun t215 => (if (!t215) = true then some (true) else ((octet_Noughts.f fu e146.2 0 (List.length e146.2 : Int)).bind fun t220 => some ((!t220))))) : Option Bool).bind fun x213 => (if x213 = true then some ((⟨(0 : Int), (⟨(⟨(0 : Int), (0 : Int), (0 : Int)⟩ : S_api_Geometry), (0 : Int), (0 : Int), (0 : Int)⟩ : S_api_Tickets), (0 : Int), []⟩ : S_api_Super), false) else some ((⟨t41.1, (⟨(⟨t54.1, t67.1, t80.1⟩ : S_api_Geometry), t119.1, t93.1, t106.1⟩ : S_api_Tickets), t130.1, e146.1⟩ : S_api_Super), true))))))))))))))
theorem super_Get.ok (fu : Nat) (w : World) (a0 : List Int) (V0_0 : Value) (R0_0 : Rd (kI .u8) w V0_0 a0) (r : S_api_Super × Bool) (h : super_Get.f fu a0 = some r) :
  Calls Try.prog 113 (([V0_0] : List Value).toArray) w (fun e w' => ∃ v, e = .returned v ∧ ∃ u1 : Value, ∃ o2 : Own (kI .i64) 3 w' w.heap.size u1 r.1.Charts, v = .tuple #[aggV [(sI r.1.Epoch), (sI r.1.Tickets.Geometry.Blocks), (sI r.1.Tickets.Geometry.Slots), (sI r.1.Tickets.Geometry.Gens), (sI r.1.Tickets.Top), (sI r.1.Tickets.High), (sI r.1.Tickets.Free), (sI r.1.Dir), Seg.cell u1 o2.one], .bool r.2] ∧ Gr w w') := by
 unfold super_Get.f at h
 have fB : Gr w w := Fr.refl _ _
 refine calls_cw Try.func113 rfl Try.ntmps113 rfl ?_
 refine cw_seq ?_
 refine cw_region ?_
 refine ol_op (opv_alloc (ss := [(sI (0 : Int)), (sI (0 : Int)), (sI (0 : Int)), (sI (0 : Int)), (sI (0 : Int)), (sI (0 : Int)), (sI (0 : Int)), (sI (0 : Int)), Seg.cell (.slice none 0 0) (by rfl)]) rfl ze110 rfl) rfl rfl rfl ?_
 rintro _ w9 ⟨G4, rfl, b5, q6, z7⟩
 have z7 := Nat.le_trans fB.size z7
 have fB := fB.gr q6
 refine ol_val (v := .bool false) (xr_assign rfl rfl) rfl rfl rfl ?_
 refine ol_nil ?_
 refine cw_seq ?_
 refine cw_region ?_
 refine ol_val (v := V0_0) (xr_move rfl rfl) rfl rfl rfl ?_
 obtain ⟨t10, k11, h⟩ := bs h
 refine ol_op (opv_call rfl cal130 (ac rfl an) (block_Open.ok fu _ a0 V0_0 (R0_0.gr fB) _ k11)) rfl rfl rfl ?_
 rintro _ w16 ⟨u12, o13, rfl, q15⟩
 have o13 := Own.base o13 fB.size
 have b5 := b5.gr q15
 have fB := fB.gr q15
 refine ol_val (v := .tuple #[.int .i64 t10.1, .int .i64 t10.2.1, u12, .bool t10.2.2.2]) (xr_move rfl rfl) rfl rfl rfl ?_
 refine ol_val (v := .int .i64 t10.1) (xr_extract rfl rfl rfl) rfl rfl rfl ?_
 refine ol_val (v := .int .i64 t10.2.1) (xr_extract rfl rfl rfl) rfl rfl rfl ?_
 refine ol_val (v := u12) (xr_extract rfl rfl rfl) rfl rfl rfl ?_
 refine ol_val (v := .bool t10.2.2.2) (xr_extract rfl rfl rfl) rfl rfl rfl ?_
 refine ol_val (v := .int .i64 t10.1) (xr_assign rfl rfl) rfl rfl rfl ?_
 refine ol_val (v := .int .i64 t10.2.1) (xr_assign rfl rfl) rfl rfl rfl ?_
 refine ol_val (v := u12) (xr_assign rfl rfl) rfl rfl rfl ?_
 refine ol_val (v := .bool t10.2.2.2) (xr_assign rfl rfl) rfl rfl rfl ?_
 refine ol_nil ?_
 refine cw_seq ?_
 refine cw_seq ?_
 refine cw_mid (fun ρ' w' => ρ' 2 = (pt G4 0) ∧ ρ' 5 = .int .i64 t10.2.1 ∧ ρ' 6 = u12 ∧ ρ' 28 = .bool (if (!t10.2.2.2) = true then true else (if (!decide (t10.1 = 7)) = true then true else (decide (t10.2.1 > 8)))) ∧ w16 = w') ?_ ?_
 ·skip
  refine cw_region ?_
  refine ol_val (v := .bool t10.2.2.2) (xr_move rfl rfl) rfl rfl rfl ?_
  refine ol_val (v := .bool (!t10.2.2.2)) (xr_not rfl rfl) rfl rfl rfl ?_
  refine ol_val (v := .bool (!t10.2.2.2)) (xr_move rfl rfl) rfl rfl rfl ?_
  rcases bt (!t10.2.2.2) with c17 | c17
  ·skip
   refine ol_gskip rfl rfl rfl rfl rfl c17 ?_
   refine ol_gskip rfl rfl rfl rfl rfl c17 ?_
   refine ol_val (v := .bool true) (xr_pickT rfl rfl c17 rfl) rfl rfl rfl ?_
   refine ol_val (v := .bool true) (xr_move rfl rfl) rfl rfl rfl ?_
   refine ol_gskip rfl rfl rfl rfl rfl rfl ?_
   refine ol_gskip rfl rfl rfl rfl rfl rfl ?_
   refine ol_val (v := .bool true) (xr_pickT rfl rfl rfl rfl) rfl rfl rfl ?_
   refine ol_nil ?_
   refine thn_i ?_
   exact ⟨rfl, rfl, rfl, (rfl).trans (congrArg (fun z => (.bool z : Value)) (show true = (if (!t10.2.2.2) = true then true else (if (!decide (t10.1 = 7)) = true then true else (decide (t10.2.1 > 8)))) from by rw [ite_t c17])), rfl⟩
  refine ol_gval (v := .int .i64 t10.1) (xr_move rfl rfl) rfl rfl rfl rfl rfl c17 ?_
  refine ol_gval (v := .bool (!decide (t10.1 = 7))) (xr_neI rfl Try.underlying3 rfl rfl rfl) rfl rfl rfl rfl rfl c17 ?_
  refine ol_val (v := .bool (!decide (t10.1 = 7))) (xr_pickF rfl rfl c17 rfl) rfl rfl rfl ?_
  refine ol_val (v := .bool (!decide (t10.1 = 7))) (xr_move rfl rfl) rfl rfl rfl ?_
  rcases bt (!decide (t10.1 = 7)) with c18 | c18
  ·skip
   refine ol_gskip rfl rfl rfl rfl rfl c18 ?_
   refine ol_gskip rfl rfl rfl rfl rfl c18 ?_
   refine ol_val (v := .bool true) (xr_pickT rfl rfl c18 rfl) rfl rfl rfl ?_
   refine ol_nil ?_
   refine thn_i ?_
   exact ⟨rfl, rfl, rfl, (rfl).trans (congrArg (fun z => (.bool z : Value)) (show true = (if (!t10.2.2.2) = true then true else (if (!decide (t10.1 = 7)) = true then true else (decide (t10.2.1 > 8)))) from by rw [ite_f c17, ite_t c18])), rfl⟩
  refine ol_gval (v := .int .i64 t10.2.1) (xr_move rfl rfl) rfl rfl rfl rfl rfl c18 ?_
  refine ol_gval (v := .bool (decide (t10.2.1 > 8))) (xr_gtr rfl rfl rfl) rfl rfl rfl rfl rfl c18 ?_
  refine ol_val (v := .bool (decide (t10.2.1 > 8))) (xr_pickF rfl rfl c18 rfl) rfl rfl rfl ?_
  refine ol_nil ?_
  refine thn_i ?_
  exact ⟨rfl, rfl, rfl, (rfl).trans (congrArg (fun z => (.bool z : Value)) (show (decide (t10.2.1 > 8)) = (if (!t10.2.2.2) = true then true else (if (!decide (t10.1 = 7)) = true then true else (decide (t10.2.1 > 8)))) from by rw [ite_f c17, ite_f c18])), rfl⟩
 rintro ρ19 _ ⟨e2, e5, e6, e28, rfl⟩
 rcases is h with ⟨c20, h⟩ | ⟨c20, h⟩
 ·refine cw_condT e28 c20 ?_
  refine cw_seq ?_
  refine cw_region ?_
  refine ol_val (v := aggV [(sI (0 : Int)), (sI (0 : Int)), (sI (0 : Int)), (sI (0 : Int)), (sI (0 : Int)), (sI (0 : Int)), (sI (0 : Int)), (sI (0 : Int)), Seg.cell (.slice none 0 0) (by rfl)]) (xr_build (vals := []) rfl trivial (bl110_ _)) rfl rfl rfl ?_
  refine ol_op0 (opv_store (ss' := [(sI (0 : Int)), (sI (0 : Int)), (sI (0 : Int)), (sI (0 : Int)), (sI (0 : Int)), (sI (0 : Int)), (sI (0 : Int)), (sI (0 : Int)), Seg.cell (.slice none 0 0) (by rfl)]) (xs := cellsOf [(sI (0 : Int)), (sI (0 : Int)), (sI (0 : Int)), (sI (0 : Int)), (sI (0 : Int)), (sI (0 : Int)), (sI (0 : Int)), (sI (0 : Int)), Seg.cell (.slice none 0 0) (by rfl)]) rfl sz110 e2 rfl rfl (len_cellsOf _) (one_cellsOf _) b5 (Spl.segs _ 0 9 [(sI (0 : Int)), (sI (0 : Int)), (sI (0 : Int)), (sI (0 : Int)), (sI (0 : Int)), (sI (0 : Int)), (sI (0 : Int)), (sI (0 : Int)), Seg.cell (.slice none 0 0) (by rfl)] rfl rfl)) rfl rfl ?_
  rintro _ w22 ⟨b5, q21⟩
  have fB := fB.wr q21 z7
  refine ol_val (v := .bool false) (xr_assign rfl rfl) rfl rfl rfl ?_
  refine ol_nil ?_
  refine cw_ret ?_
  repeat (first | with_reducible refine thn_r ?_ | with_reducible refine blk_r ?_)
  obtain rfl := Option.some.inj h
  refine fin_cell_tmp Try.results113 e2 ag110 sz110 b5 (by rfl) rfl ?_
  exact ⟨_, rfl, (.slice none 0 0), Own.nil _ _ _ _, rfl, fB⟩
 refine cw_condF e28 c20 ?_
 refine cw_skip ?_
 refine cw_seq ?_
 refine cw_region ?_
 refine ol_op (opv_alloc (ss := [(sI (0 : Int)), (sI (0 : Int)), (sI (0 : Int)), (sI (0 : Int)), (sI (0 : Int)), (sI (0 : Int)), (sI (0 : Int)), (sI (0 : Int)), Seg.cell (.slice none 0 0) (by rfl)]) rfl ze110 rfl) rfl rfl rfl ?_
 rintro _ w28 ⟨G23, rfl, b24, q25, z26⟩
 have n29 := b5.ne z26
 have z26 := Nat.le_trans fB.size z26
 have b5 := b5.gr q25
 have o13 := o13.gr q25
 have fB := fB.gr q25
 refine ol_nil ?_
 refine cw_seq ?_
 refine cw_region ?_
 refine ol_val (v := u12) (xr_move rfl e6) rfl rfl rfl ?_
 refine ol_val (v := aggV [Seg.cell u12 o13.one]) (xr_buildS (vals := [(0, u12)]) (res := [Seg.cell u12 o13.one]) rfl ⟨rfl, rfl, trivial⟩ Try.underlying182 ze182 pl182 (fl_cons (xs := cellsOf [Seg.cell u12 o13.one]) (cs' := cellsOf [Seg.cell u12 o13.one]) rfl (cells_one o13.one) (len_cellsOf _) (Spl.segs [Seg.cell (.slice none 0 0) (by rfl)] 0 1 [Seg.cell u12 o13.one] rfl rfl) fl_nil)) rfl rfl rfl ?_
 refine ol_op (opv_alloc (ss := [Seg.cell (.slice none 0 0) (by rfl)]) rfl ze182 rfl) rfl rfl rfl ?_
 rintro _ w35 ⟨G30, rfl, b31, q32, z33⟩
 have n36 := b5.ne z33
 have n37 := b24.ne z33
 have z33 := Nat.le_trans fB.size z33
 have b5 := b5.gr q32
 have b24 := b24.gr q32
 have o13 := o13.gr q32
 have fB := fB.gr q32
 have f39 := off_ty b31 o13 (by decide)
 refine ol_op0 (opv_store (ss' := [Seg.cell u12 o13.one]) (xs := cellsOf [Seg.cell u12 o13.one]) rfl sz182 rfl rfl rfl (len_cellsOf _) (one_cellsOf _) b31 (Spl.segs _ 0 1 [Seg.cell u12 o13.one] rfl rfl)) rfl rfl ?_
 rintro _ w40 ⟨b31, q38⟩
 have b5 := b5.wr q38 n36
 have b24 := b24.wr q38 n37
 have o13 := o13.wr q38 f39
 have fB := fB.wr q38 z33
 refine ol_nil ?_
 refine cw_seq ?_
 refine cw_region ?_
 obtain ⟨t41, k42, h⟩ := bs h
 have a48 := (OffR.own o13 (off_ty b5 o13 (by decide)))
 have a49 := (OffR.own o13 (off_ty b24 o13 (by decide)))
 have a50 := (OffR.own o13 (off_ty b31 o13 (by decide)))
 refine ol_op (opv_call rfl cal131 (ac rfl (ac rfl an)) (super_reader_next.ok fu _ (⟨t10.2.2.1⟩ : S_super_reader) G30 u12 o13.rd (OffR.own o13 (off_ty b31 o13 (by decide))) b31 8 _ k42)) rfl rfl rfl ?_
 rintro _ w51 ⟨u44, r45, n46, n47, rfl, b31, q43⟩
 have b5 := b5.wr q43 n36
 have b24 := b24.wr q43 n37
 have fB := fB.wr q43 z33
 refine ol_val (v := (pt G23 0)) (xr_fieldAddr (p := 0) (q := 0) rfl fl110_0 rfl) rfl rfl rfl ?_
 refine ol_op0 (opv_store (ss' := [(sI t41.1), (sI (0 : Int)), (sI (0 : Int)), (sI (0 : Int)), (sI (0 : Int)), (sI (0 : Int)), (sI (0 : Int)), (sI (0 : Int)), Seg.cell (.slice none 0 0) (by rfl)]) (xs := cellsOf [(sI t41.1)]) rfl sz3 rfl rfl rfl (len_cellsOf _) (one_cellsOf _) b24 (Spl.segs _ 0 1 [(sI t41.1)] rfl rfl)) rfl rfl ?_
 rintro _ w53 ⟨b24, q52⟩
 have b5 := b5.wr q52 n29
 have b31 := b31.wr q52 n37.symm
 have r45 := r45.wr q52 (n46 _ a49)
 have fB := fB.wr q52 z26
 refine ol_nil ?_
 refine cw_seq ?_
 refine cw_seq ?_
 refine cw_region ?_
 refine ol_val (v := (pt G23 1)) (xr_fieldAddr (p := 0) (q := 1) rfl fl110_1 rfl) rfl rfl rfl ?_
 refine ol_val (v := (pt G23 1)) (xr_fieldAddr (p := 1) (q := 0) rfl fl108_0 rfl) rfl rfl rfl ?_
 refine ol_val (v := (pt G23 1)) (xr_fieldAddr (p := 1) (q := 0) rfl fl106_0 rfl) rfl rfl rfl ?_
 refine ol_val (v := (pt G23 1)) (xr_fieldAddr (p := 0) (q := 1) rfl fl110_1 rfl) rfl rfl rfl ?_
 refine ol_val (v := (pt G23 1)) (xr_fieldAddr (p := 1) (q := 0) rfl fl108_0 rfl) rfl rfl rfl ?_
 refine ol_val (v := (pt G23 2)) (xr_fieldAddr (p := 1) (q := 1) rfl fl106_1 rfl) rfl rfl rfl ?_
 refine ol_val (v := (pt G23 1)) (xr_fieldAddr (p := 0) (q := 1) rfl fl110_1 rfl) rfl rfl rfl ?_
 refine ol_val (v := (pt G23 1)) (xr_fieldAddr (p := 1) (q := 0) rfl fl108_0 rfl) rfl rfl rfl ?_
 refine ol_val (v := (pt G23 3)) (xr_fieldAddr (p := 1) (q := 2) rfl fl106_2 rfl) rfl rfl rfl ?_
 refine ol_val (v := (pt G23 1)) (xr_fieldAddr (p := 0) (q := 1) rfl fl110_1 rfl) rfl rfl rfl ?_
 refine ol_val (v := (pt G23 5)) (xr_fieldAddr (p := 1) (q := 4) rfl fl108_2 rfl) rfl rfl rfl ?_
 refine ol_val (v := (pt G23 1)) (xr_fieldAddr (p := 0) (q := 1) rfl fl110_1 rfl) rfl rfl rfl ?_
 refine ol_val (v := (pt G23 6)) (xr_fieldAddr (p := 1) (q := 5) rfl fl108_3 rfl) rfl rfl rfl ?_
 refine ol_val (v := aggV [Seg.cell ((pt G23 1)), Seg.cell ((pt G23 2)), Seg.cell ((pt G23 3)), Seg.cell ((pt G23 5)), Seg.cell ((pt G23 6))]) (xr_buildA (vals := [(0, (pt G23 1)), (1, (pt G23 2)), (2, (pt G23 3)), (3, (pt G23 5)), (4, (pt G23 6))]) (res := [Seg.cell ((pt G23 1)), Seg.cell ((pt G23 2)), Seg.cell ((pt G23 3)), Seg.cell ((pt G23 5)), Seg.cell ((pt G23 6))]) rfl ⟨rfl, rfl, ⟨rfl, rfl, ⟨rfl, rfl, ⟨rfl, rfl, ⟨rfl, rfl, trivial⟩⟩⟩⟩⟩ Try.underlying184 ze184 sz183 (fl_cons (xs := cellsOf [Seg.cell ((pt G23 1))]) (cs' := cellsOf [Seg.cell ((pt G23 1)), Seg.cell (.pointer none), Seg.cell (.pointer none), Seg.cell (.pointer none), Seg.cell (.pointer none)]) rfl rfl (len_cellsOf _) (Spl.segs [Seg.cell (.pointer none), Seg.cell (.pointer none), Seg.cell (.pointer none), Seg.cell (.pointer none), Seg.cell (.pointer none)] 0 1 [Seg.cell ((pt G23 1))] rfl rfl) (fl_cons (xs := cellsOf [Seg.cell ((pt G23 2))]) (cs' := cellsOf [Seg.cell ((pt G23 1)), Seg.cell ((pt G23 2)), Seg.cell (.pointer none), Seg.cell (.pointer none), Seg.cell (.pointer none)]) rfl rfl (len_cellsOf _) (Spl.segs [Seg.cell ((pt G23 1)), Seg.cell (.pointer none), Seg.cell (.pointer none), Seg.cell (.pointer none), Seg.cell (.pointer none)] 1 1 [Seg.cell ((pt G23 2))] rfl rfl) (fl_cons (xs := cellsOf [Seg.cell ((pt G23 3))]) (cs' := cellsOf [Seg.cell ((pt G23 1)), Seg.cell ((pt G23 2)), Seg.cell ((pt G23 3)), Seg.cell (.pointer none), Seg.cell (.pointer none)]) rfl rfl (len_cellsOf _) (Spl.segs [Seg.cell ((pt G23 1)), Seg.cell ((pt G23 2)), Seg.cell (.pointer none), Seg.cell (.pointer none), Seg.cell (.pointer none)] 2 1 [Seg.cell ((pt G23 3))] rfl rfl) (fl_cons (xs := cellsOf [Seg.cell ((pt G23 5))]) (cs' := cellsOf [Seg.cell ((pt G23 1)), Seg.cell ((pt G23 2)), Seg.cell ((pt G23 3)), Seg.cell ((pt G23 5)), Seg.cell (.pointer none)]) rfl rfl (len_cellsOf _) (Spl.segs [Seg.cell ((pt G23 1)), Seg.cell ((pt G23 2)), Seg.cell ((pt G23 3)), Seg.cell (.pointer none), Seg.cell (.pointer none)] 3 1 [Seg.cell ((pt G23 5))] rfl rfl) (fl_cons (xs := cellsOf [Seg.cell ((pt G23 6))]) (cs' := cellsOf [Seg.cell ((pt G23 1)), Seg.cell ((pt G23 2)), Seg.cell ((pt G23 3)), Seg.cell ((pt G23 5)), Seg.cell ((pt G23 6))]) rfl rfl (len_cellsOf _) (Spl.segs [Seg.cell ((pt G23 1)), Seg.cell ((pt G23 2)), Seg.cell ((pt G23 3)), Seg.cell ((pt G23 5)), Seg.cell (.pointer none)] 4 1 [Seg.cell ((pt G23 6))] rfl rfl) fl_nil)))))) rfl rfl rfl ?_
 refine ol_val (v := .int .i64 0) (xr_move rfl rfl) rfl rfl rfl ?_
 refine ol_nil ?_
 refine cw_block ?_
 refine cw_rounds ?_
 refine lp_round ?_
 refine cw_seq ?_
 refine cw_region ?_
 refine ol_val (v := .bool true) (xr_lss (k := .i64) (a := 0) (b := 5) rfl rfl rfl) rfl rfl rfl ?_
 refine ol_nil ?_
 refine cw_seq ?_
 refine cw_condT rfl rfl ?_
 refine cw_skip ?_
 refine cw_seq ?_
 refine cw_block ?_
 refine cw_seq ?_
 refine cw_region ?_
 refine ol_val (v := (pt G23 1)) (xr_indexSeg (i := 0) (ss := [Seg.cell ((pt G23 1)), Seg.cell ((pt G23 2)), Seg.cell ((pt G23 3)), Seg.cell ((pt G23 5)), Seg.cell ((pt G23 6))]) (v := (pt G23 1)) rfl Try.underlying184 ag183 sz183 rfl rfl rfl rfl) rfl rfl rfl ?_
 refine ol_val (v := (pt G23 1)) (xr_assign rfl rfl) rfl rfl rfl ?_
 refine ol_nil ?_
 refine cw_region ?_
 refine ol_val (v := (pt G23 1)) (xr_move rfl rfl) rfl rfl rfl ?_
 obtain ⟨t54, k55, h⟩ := bs h
 have a61 := (n46 _ a48)
 have a62 := (n46 _ a49)
 have a63 := (n46 _ a50)
 refine ol_op (opv_call rfl cal131 (ac rfl (ac rfl an)) (super_reader_next.ok fu _ t41.2 G30 u44 r45 (n46 _ a50) b31 4 _ k55)) rfl rfl rfl ?_
 rintro _ w64 ⟨u57, r58, n59, n60, rfl, b31, q56⟩
 have b5 := b5.wr q56 n36
 have b24 := b24.wr q56 n37
 have fB := fB.wr q56 z33
 refine ol_val (v := (pt G23 1)) (xr_nilCheck rfl rfl) rfl rfl rfl ?_
 refine ol_op0 (opv_store (ss' := [(sI t41.1), (sI t54.1), (sI (0 : Int)), (sI (0 : Int)), (sI (0 : Int)), (sI (0 : Int)), (sI (0 : Int)), (sI (0 : Int)), Seg.cell (.slice none 0 0) (by rfl)]) (xs := cellsOf [(sI t54.1)]) rfl sz3 rfl rfl rfl (len_cellsOf _) (one_cellsOf _) b24 (Spl.segs _ 1 1 [(sI t54.1)] rfl rfl)) rfl rfl ?_
 rintro _ w66 ⟨b24, q65⟩
 have b5 := b5.wr q65 n29
 have b31 := b31.wr q65 n37.symm
 have r58 := r58.wr q65 (n59 _ a62)
 have fB := fB.wr q65 z26
 refine ol_nil ?_
 refine blk_i ?_
 refine cw_region ?_
 refine ol_val (v := .int .i64 1) (xr_add (k := .i64) (a := 0) (b := 1) rfl rfl rfl) rfl rfl rfl ?_
 refine ol_val (v := .int .i64 1) (xr_move rfl rfl) rfl rfl rfl ?_
 refine ol_nil ?_
 refine thn_i ?_
 refine lp_round ?_
 refine cw_seq ?_
 refine cw_region ?_
 refine ol_val (v := .bool true) (xr_lss (k := .i64) (a := 1) (b := 5) rfl rfl rfl) rfl rfl rfl ?_
 refine ol_nil ?_
 refine cw_seq ?_
 refine cw_condT rfl rfl ?_
 refine cw_skip ?_
 refine cw_seq ?_
 refine cw_block ?_
 refine cw_seq ?_
 refine cw_region ?_
 refine ol_val (v := (pt G23 2)) (xr_indexSeg (i := 1) (ss := [Seg.cell ((pt G23 1)), Seg.cell ((pt G23 2)), Seg.cell ((pt G23 3)), Seg.cell ((pt G23 5)), Seg.cell ((pt G23 6))]) (v := (pt G23 2)) rfl Try.underlying184 ag183 sz183 rfl rfl rfl rfl) rfl rfl rfl ?_
 refine ol_val (v := (pt G23 2)) (xr_assign rfl rfl) rfl rfl rfl ?_
 refine ol_nil ?_
 refine cw_region ?_
 refine ol_val (v := (pt G23 2)) (xr_move rfl rfl) rfl rfl rfl ?_
 obtain ⟨t67, k68, h⟩ := bs h
 have a74 := (n59 _ a61)
 have a75 := (n59 _ a62)
 have a76 := (n59 _ a63)
 refine ol_op (opv_call rfl cal131 (ac rfl (ac rfl an)) (super_reader_next.ok fu _ t54.2 G30 u57 r58 (n59 _ a63) b31 4 _ k68)) rfl rfl rfl ?_
 rintro _ w77 ⟨u70, r71, n72, n73, rfl, b31, q69⟩
 have b5 := b5.wr q69 n36
 have b24 := b24.wr q69 n37
 have fB := fB.wr q69 z33
 refine ol_val (v := (pt G23 2)) (xr_nilCheck rfl rfl) rfl rfl rfl ?_
 refine ol_op0 (opv_store (ss' := [(sI t41.1), (sI t54.1), (sI t67.1), (sI (0 : Int)), (sI (0 : Int)), (sI (0 : Int)), (sI (0 : Int)), (sI (0 : Int)), Seg.cell (.slice none 0 0) (by rfl)]) (xs := cellsOf [(sI t67.1)]) rfl sz3 rfl rfl rfl (len_cellsOf _) (one_cellsOf _) b24 (Spl.segs _ 2 1 [(sI t67.1)] rfl rfl)) rfl rfl ?_
 rintro _ w79 ⟨b24, q78⟩
 have b5 := b5.wr q78 n29
 have b31 := b31.wr q78 n37.symm
 have r71 := r71.wr q78 (n72 _ a75)
 have fB := fB.wr q78 z26
 refine ol_nil ?_
 refine blk_i ?_
 refine cw_region ?_
 refine ol_val (v := .int .i64 2) (xr_add (k := .i64) (a := 1) (b := 1) rfl rfl rfl) rfl rfl rfl ?_
 refine ol_val (v := .int .i64 2) (xr_move rfl rfl) rfl rfl rfl ?_
 refine ol_nil ?_
 refine thn_i ?_
 refine lp_round ?_
 refine cw_seq ?_
 refine cw_region ?_
 refine ol_val (v := .bool true) (xr_lss (k := .i64) (a := 2) (b := 5) rfl rfl rfl) rfl rfl rfl ?_
 refine ol_nil ?_
 refine cw_seq ?_
 refine cw_condT rfl rfl ?_
 refine cw_skip ?_
 refine cw_seq ?_
 refine cw_block ?_
 refine cw_seq ?_
 refine cw_region ?_
 refine ol_val (v := (pt G23 3)) (xr_indexSeg (i := 2) (ss := [Seg.cell ((pt G23 1)), Seg.cell ((pt G23 2)), Seg.cell ((pt G23 3)), Seg.cell ((pt G23 5)), Seg.cell ((pt G23 6))]) (v := (pt G23 3)) rfl Try.underlying184 ag183 sz183 rfl rfl rfl rfl) rfl rfl rfl ?_
 refine ol_val (v := (pt G23 3)) (xr_assign rfl rfl) rfl rfl rfl ?_
 refine ol_nil ?_
 refine cw_region ?_
 refine ol_val (v := (pt G23 3)) (xr_move rfl rfl) rfl rfl rfl ?_
 obtain ⟨t80, k81, h⟩ := bs h
 have a87 := (n72 _ a74)
 have a88 := (n72 _ a75)
 have a89 := (n72 _ a76)
 refine ol_op (opv_call rfl cal131 (ac rfl (ac rfl an)) (super_reader_next.ok fu _ t67.2 G30 u70 r71 (n72 _ a76) b31 4 _ k81)) rfl rfl rfl ?_
 rintro _ w90 ⟨u83, r84, n85, n86, rfl, b31, q82⟩
 have b5 := b5.wr q82 n36
 have b24 := b24.wr q82 n37
 have fB := fB.wr q82 z33
 refine ol_val (v := (pt G23 3)) (xr_nilCheck rfl rfl) rfl rfl rfl ?_
 refine ol_op0 (opv_store (ss' := [(sI t41.1), (sI t54.1), (sI t67.1), (sI t80.1), (sI (0 : Int)), (sI (0 : Int)), (sI (0 : Int)), (sI (0 : Int)), Seg.cell (.slice none 0 0) (by rfl)]) (xs := cellsOf [(sI t80.1)]) rfl sz3 rfl rfl rfl (len_cellsOf _) (one_cellsOf _) b24 (Spl.segs _ 3 1 [(sI t80.1)] rfl rfl)) rfl rfl ?_
 rintro _ w92 ⟨b24, q91⟩
 have b5 := b5.wr q91 n29
 have b31 := b31.wr q91 n37.symm
 have r84 := r84.wr q91 (n85 _ a88)
 have fB := fB.wr q91 z26
 refine ol_nil ?_
 refine blk_i ?_
 refine cw_region ?_
 refine ol_val (v := .int .i64 3) (xr_add (k := .i64) (a := 2) (b := 1) rfl rfl rfl) rfl rfl rfl ?_
 refine ol_val (v := .int .i64 3) (xr_move rfl rfl) rfl rfl rfl ?_
 refine ol_nil ?_
 refine thn_i ?_
 refine lp_round ?_
 refine cw_seq ?_
 refine cw_region ?_
 refine ol_val (v := .bool true) (xr_lss (k := .i64) (a := 3) (b := 5) rfl rfl rfl) rfl rfl rfl ?_
 refine ol_nil ?_
 refine cw_seq ?_
 refine cw_condT rfl rfl ?_
 refine cw_skip ?_
 refine cw_seq ?_
 refine cw_block ?_
 refine cw_seq ?_
 refine cw_region ?_
 refine ol_val (v := (pt G23 5)) (xr_indexSeg (i := 3) (ss := [Seg.cell ((pt G23 1)), Seg.cell ((pt G23 2)), Seg.cell ((pt G23 3)), Seg.cell ((pt G23 5)), Seg.cell ((pt G23 6))]) (v := (pt G23 5)) rfl Try.underlying184 ag183 sz183 rfl rfl rfl rfl) rfl rfl rfl ?_
 refine ol_val (v := (pt G23 5)) (xr_assign rfl rfl) rfl rfl rfl ?_
 refine ol_nil ?_
 refine cw_region ?_
 refine ol_val (v := (pt G23 5)) (xr_move rfl rfl) rfl rfl rfl ?_
 obtain ⟨t93, k94, h⟩ := bs h
 have a100 := (n85 _ a87)
 have a101 := (n85 _ a88)
 have a102 := (n85 _ a89)
 refine ol_op (opv_call rfl cal131 (ac rfl (ac rfl an)) (super_reader_next.ok fu _ t80.2 G30 u83 r84 (n85 _ a89) b31 4 _ k94)) rfl rfl rfl ?_
 rintro _ w103 ⟨u96, r97, n98, n99, rfl, b31, q95⟩
 have b5 := b5.wr q95 n36
 have b24 := b24.wr q95 n37
 have fB := fB.wr q95 z33
 refine ol_val (v := (pt G23 5)) (xr_nilCheck rfl rfl) rfl rfl rfl ?_
 refine ol_op0 (opv_store (ss' := [(sI t41.1), (sI t54.1), (sI t67.1), (sI t80.1), (sI (0 : Int)), (sI t93.1), (sI (0 : Int)), (sI (0 : Int)), Seg.cell (.slice none 0 0) (by rfl)]) (xs := cellsOf [(sI t93.1)]) rfl sz3 rfl rfl rfl (len_cellsOf _) (one_cellsOf _) b24 (Spl.segs _ 5 1 [(sI t93.1)] rfl rfl)) rfl rfl ?_
 rintro _ w105 ⟨b24, q104⟩
 have b5 := b5.wr q104 n29
 have b31 := b31.wr q104 n37.symm
 have r97 := r97.wr q104 (n98 _ a101)
 have fB := fB.wr q104 z26
 refine ol_nil ?_
 refine blk_i ?_
 refine cw_region ?_
 refine ol_val (v := .int .i64 4) (xr_add (k := .i64) (a := 3) (b := 1) rfl rfl rfl) rfl rfl rfl ?_
 refine ol_val (v := .int .i64 4) (xr_move rfl rfl) rfl rfl rfl ?_
 refine ol_nil ?_
 refine thn_i ?_
 refine lp_round ?_
 refine cw_seq ?_
 refine cw_region ?_
 refine ol_val (v := .bool true) (xr_lss (k := .i64) (a := 4) (b := 5) rfl rfl rfl) rfl rfl rfl ?_
 refine ol_nil ?_
 refine cw_seq ?_
 refine cw_condT rfl rfl ?_
 refine cw_skip ?_
 refine cw_seq ?_
 refine cw_block ?_
 refine cw_seq ?_
 refine cw_region ?_
 refine ol_val (v := (pt G23 6)) (xr_indexSeg (i := 4) (ss := [Seg.cell ((pt G23 1)), Seg.cell ((pt G23 2)), Seg.cell ((pt G23 3)), Seg.cell ((pt G23 5)), Seg.cell ((pt G23 6))]) (v := (pt G23 6)) rfl Try.underlying184 ag183 sz183 rfl rfl rfl rfl) rfl rfl rfl ?_
 refine ol_val (v := (pt G23 6)) (xr_assign rfl rfl) rfl rfl rfl ?_
 refine ol_nil ?_
 refine cw_region ?_
 refine ol_val (v := (pt G23 6)) (xr_move rfl rfl) rfl rfl rfl ?_
 obtain ⟨t106, k107, h⟩ := bs h
 have a113 := (n98 _ a100)
 have a114 := (n98 _ a101)
 have a115 := (n98 _ a102)
 refine ol_op (opv_call rfl cal131 (ac rfl (ac rfl an)) (super_reader_next.ok fu _ t93.2 G30 u96 r97 (n98 _ a102) b31 4 _ k107)) rfl rfl rfl ?_
 rintro _ w116 ⟨u109, r110, n111, n112, rfl, b31, q108⟩
 have b5 := b5.wr q108 n36
 have b24 := b24.wr q108 n37
 have fB := fB.wr q108 z33
 refine ol_val (v := (pt G23 6)) (xr_nilCheck rfl rfl) rfl rfl rfl ?_
 refine ol_op0 (opv_store (ss' := [(sI t41.1), (sI t54.1), (sI t67.1), (sI t80.1), (sI (0 : Int)), (sI t93.1), (sI t106.1), (sI (0 : Int)), Seg.cell (.slice none 0 0) (by rfl)]) (xs := cellsOf [(sI t106.1)]) rfl sz3 rfl rfl rfl (len_cellsOf _) (one_cellsOf _) b24 (Spl.segs _ 6 1 [(sI t106.1)] rfl rfl)) rfl rfl ?_
 rintro _ w118 ⟨b24, q117⟩
 have b5 := b5.wr q117 n29
 have b31 := b31.wr q117 n37.symm
 have r110 := r110.wr q117 (n111 _ a114)
 have fB := fB.wr q117 z26
 refine ol_nil ?_
 refine blk_i ?_
 refine cw_region ?_
 refine ol_val (v := .int .i64 5) (xr_add (k := .i64) (a := 4) (b := 1) rfl rfl rfl) rfl rfl rfl ?_
 refine ol_val (v := .int .i64 5) (xr_move rfl rfl) rfl rfl rfl ?_
 refine ol_nil ?_
 refine thn_i ?_
 refine lp_round ?_
 refine cw_seq ?_
 refine cw_region ?_
 refine ol_val (v := .bool false) (xr_lss (k := .i64) (a := 5) (b := 5) rfl rfl rfl) rfl rfl rfl ?_
 refine ol_nil ?_
 refine cw_seq ?_
 refine cw_condF rfl rfl ?_
 refine cw_exit ?_
 repeat (first | with_reducible refine thn_e ?_ | with_reducible refine blk_e rfl ?_)
 refine blk_h ?_
 refine cw_seq ?_
 refine cw_region ?_
 obtain ⟨t119, k120, h⟩ := bs h
 have a126 := (n111 _ a113)
 have a127 := (n111 _ a114)
 have a128 := (n111 _ a115)
 refine ol_op (opv_call rfl cal131 (ac rfl (ac rfl an)) (super_reader_next.ok fu _ t106.2 G30 u109 r110 (n111 _ a115) b31 2 _ k120)) rfl rfl rfl ?_
 rintro _ w129 ⟨u122, r123, n124, n125, rfl, b31, q121⟩
 have b5 := b5.wr q121 n36
 have b24 := b24.wr q121 n37
 have fB := fB.wr q121 z33
 obtain ⟨t130, k131, h⟩ := bs h
 have a137 := (n124 _ a126)
 have a138 := (n124 _ a127)
 have a139 := (n124 _ a128)
 refine ol_op (opv_call rfl cal131 (ac rfl (ac rfl an)) (super_reader_next.ok fu _ t119.2 G30 u122 r123 (n124 _ a128) b31 2 _ k131)) rfl rfl rfl ?_
 rintro _ w140 ⟨u133, r134, n135, n136, rfl, b31, q132⟩
 have b5 := b5.wr q132 n36
 have b24 := b24.wr q132 n37
 have fB := fB.wr q132 z33
 refine ol_val (v := (pt G23 1)) (xr_fieldAddr (p := 0) (q := 1) rfl fl110_1 rfl) rfl rfl rfl ?_
 refine ol_val (v := (pt G23 4)) (xr_fieldAddr (p := 1) (q := 3) rfl fl108_1 rfl) rfl rfl rfl ?_
 refine ol_op0 (opv_store (ss' := [(sI t41.1), (sI t54.1), (sI t67.1), (sI t80.1), (sI t119.1), (sI t93.1), (sI t106.1), (sI (0 : Int)), Seg.cell (.slice none 0 0) (by rfl)]) (xs := cellsOf [(sI t119.1)]) rfl sz3 rfl rfl rfl (len_cellsOf _) (one_cellsOf _) b24 (Spl.segs _ 4 1 [(sI t119.1)] rfl rfl)) rfl rfl ?_
 rintro _ w142 ⟨b24, q141⟩
 have b5 := b5.wr q141 n29
 have b31 := b31.wr q141 n37.symm
 have r134 := r134.wr q141 (n135 _ a138)
 have fB := fB.wr q141 z26
 refine ol_val (v := (pt G23 7)) (xr_fieldAddr (p := 0) (q := 7) rfl fl110_2 rfl) rfl rfl rfl ?_
 refine ol_op0 (opv_store (ss' := [(sI t41.1), (sI t54.1), (sI t67.1), (sI t80.1), (sI t119.1), (sI t93.1), (sI t106.1), (sI t130.1), Seg.cell (.slice none 0 0) (by rfl)]) (xs := cellsOf [(sI t130.1)]) rfl sz3 rfl rfl rfl (len_cellsOf _) (one_cellsOf _) b24 (Spl.segs _ 7 1 [(sI t130.1)] rfl rfl)) rfl rfl ?_
 rintro _ w144 ⟨b24, q143⟩
 have b5 := b5.wr q143 n29
 have b31 := b31.wr q143 n37.symm
 have r134 := r134.wr q143 (n135 _ a138)
 have fB := fB.wr q143 z26
 refine ol_nil ?_
 refine cw_seq ?_
 refine cw_seq ?_
 refine cw_region ?_
 refine ol_val (v := .int .i64 t10.2.1) (xr_move rfl e5) rfl rfl rfl ?_
 refine ol_val (v := .int .i64 0) (xr_move rfl rfl) rfl rfl rfl ?_
 refine ol_nil ?_
 obtain ⟨e146, l147, h148⟩ := bs h
 refine cw_mid (fun ρ' w' => ∃ v149 : Value, ∃ v152 : Value, ∃ o150 : Own (kI .i64) 3 w' w.heap.size v149 e146.1, ∃ r153 : Rd (kI .u8) w' v152 e146.2, OffR v152 e146.2 G4 ∧ OffR v152 e146.2 G23 ∧ OffR v152 e146.2 G30 ∧ OffRV v152 e146.2 v149 ∧ ρ' 2 = (pt G4 0) ∧ ρ' 8 = (pt G23 0) ∧ ρ' 9 = (pt G30 0) ∧ Blk w' G4 110 [(sI (0 : Int)), (sI (0 : Int)), (sI (0 : Int)), (sI (0 : Int)), (sI (0 : Int)), (sI (0 : Int)), (sI (0 : Int)), (sI (0 : Int)), Seg.cell (.slice none 0 0) (by rfl)] ∧ Blk w' G23 110 [(sI t41.1), (sI t54.1), (sI t67.1), (sI t80.1), (sI t119.1), (sI t93.1), (sI t106.1), (sI t130.1), Seg.cell v149 o150.one] ∧ Blk w' G30 182 [Seg.cell v152 r153.one] ∧ Gr w w') ?_ ?_
 ·refine cw_block ?_
  refine cw_round (fun (s145 : Int × (List Int) × (List Int)) ρ' w' => ∃ v158 : Value, ∃ v161 : Value, ∃ o159 : Own (kI .i64) 3 w' w.heap.size v158 s145.2.1, ∃ r162 : Rd (kI .u8) w' v161 s145.2.2, OffR v161 s145.2.2 G4 ∧ OffR v161 s145.2.2 G23 ∧ OffR v161 s145.2.2 G30 ∧ OffRV v161 s145.2.2 v158 ∧ ρ' 2 = (pt G4 0) ∧ ρ' 8 = (pt G23 0) ∧ ρ' 9 = (pt G30 0) ∧ ρ' 60 = .int .i64 t10.2.1 ∧ ρ' 61 = .int .i64 s145.1 ∧ Blk w' G4 110 [(sI (0 : Int)), (sI (0 : Int)), (sI (0 : Int)), (sI (0 : Int)), (sI (0 : Int)), (sI (0 : Int)), (sI (0 : Int)), (sI (0 : Int)), Seg.cell (.slice none 0 0) (by rfl)] ∧ Blk w' G23 110 [(sI t41.1), (sI t54.1), (sI t67.1), (sI t80.1), (sI t119.1), (sI t93.1), (sI t106.1), (sI t130.1), Seg.cell v158 o159.one] ∧ Blk w' G30 182 [Seg.cell v161 r162.one] ∧ Gr w w') l147 ?_ ?_
  ·skip
   exact ⟨(.slice none 0 0), u133, Own.nil _ _ _ _, r134, (n135 _ a137), (n135 _ a138), (n135 _ a139), (OffRV.nil _ _), e2, rfl, rfl, rfl, rfl, b5, b24, b31, fB⟩
  rintro s145 x169 ρ167 w168 ⟨v158, v161, o159, r162, a163, a164, a165, a166, e2, e8, e9, e60, e61, b5, b24, b31, fB⟩ h
  unfold super_Get.s0 at h
  refine cw_seq ?_
  refine cw_region ?_
  refine ol_val (v := .bool (decide (s145.1 < t10.2.1))) (xr_lss rfl e61 e60) rfl rfl rfl ?_
  refine ol_nil ?_
  refine cw_seq ?_
  rcases is h with ⟨c170, h⟩ | ⟨c170, h⟩
  ·refine cw_condT rfl c170 ?_
   refine cw_skip ?_
   refine cw_seq ?_
   refine cw_block ?_
   obtain ⟨t171, k172, h⟩ := bs h
   refine cw_drawW 4 2 (fun j => j = G30) [fun vz wz => vz = ((pt G23 8) : Value), fun vz wz => vz = (v158 : Value), fun vz wz => ∃ u174 : Value, ∃ r175 : Rd (kI .u8) wz u174 t171.2.rest, ∃ n176 : ∀ g, OffR v161 s145.2.2 g → OffR u174 t171.2.rest g, ∃ n177 : ∀ g, OffRV v161 s145.2.2 g → OffRV u174 t171.2.rest g, ∃ b178 : Blk wz G30 182 [Seg.cell u174 r175.one], vz = (.int .i64 t171.1 : Value), fun vz wz => ∃ v179 : Value, ∃ o181 : Own (kI .i64) 3 wz w.heap.size v179 [t171.1], vz = (v179 : Value)] mo rfl ⟨fun _ _ _ h _ => h, fun _ _ _ h _ => h, fun _ _ _ ⟨u174, r175, n176, n177, b178, h⟩ q => ⟨u174, r175.gr q, n176, n177, b178.gr q, h⟩, fun _ _ _ ⟨v179, o181, h⟩ q => ⟨v179, o181.gr q, h⟩, trivial⟩ ⟨.inr fun _ _ _ h _ => h, .inr fun _ _ _ h _ => h, .inl rfl, .inl rfl, trivial⟩ ?_ ?_
   ·refine ⟨?_, ?_, ?_, ?_, trivial⟩
    ·intro ρz wz hz0 hz1 hk hd
     have hz := hz1 rfl
     refine sk_other rfl ?_
     exact sk_val (v := (pt G23 8)) (xr_fieldAddr (p := 0) (q := 8) rfl fl110_3 ((hk 8 rfl).trans e8)) rfl rfl
    ·intro ρz wz hz0 hz1 hk hd
     have hz := hz1 rfl
     refine sk_other rfl ?_
     exact sk_val (v := v158) (xr_load1 (v := v158) rfl ag25 (hd 0 rfl 63 rfl) ((b24.wr hz n37).seg 8 rfl rfl)) rfl rfl
    ·intro ρz wz hz0 hz1 hk hd
     have hz := hz0 rfl
     refine sk_writer rfl (opv_call rfl cal131 (ac ((hk 9 rfl).trans e9) (ac rfl an)) (super_reader_next.ok fu _ (⟨s145.2.2⟩ : S_super_reader) G30 v161 (r162.gr hz) a165 (b31.gr hz) 2 _ k172)) rfl ?_
     rintro _ wy ⟨u174, r175, n176, n177, rfl, b31, q173⟩
     exact ⟨⟨u174, r175, n176, n177, b31, rfl⟩, q173⟩
    intro ρz wz hz0 hz1 hk hd
    have hz := hz1 rfl
    obtain ⟨u174, r175, n176, n177, b178, d65⟩ := hd 2 rfl 65 rfl
    refine sk_other rfl ?_
    refine sk_op (opv_buildSlice (K := (kI .i64)) (xs := [t171.1]) (vals := [.int .i64 t171.1]) rfl Try.underlying25 el3 rfl rfl ⟨rfl, d65, trivial⟩ rfl rfl rfl (Nat.le_trans fB.size hz.size)) rfl ?_
    rintro v179 wy ⟨o181, q180, z182⟩
    exact ⟨⟨v179, o181, rfl⟩, q180⟩
   intro ρ184 w185 q186 hk hd
   have e2 := (hk 2 rfl).trans e2
   have e8 := (hk 8 rfl).trans e8
   have e9 := (hk 9 rfl).trans e9
   have e60 := (hk 60 rfl).trans e60
   have e61 := (hk 61 rfl).trans e61
   have e64 := hd 1 rfl 64 rfl
   obtain ⟨u187, r188, n189, n190, b191, e65⟩ := hd 2 rfl 65 rfl
   obtain ⟨v192, o193, e66⟩ := hd 3 rfl 66 rfl
   have f194 := off_ty b31 o159 (by decide)
   have b5 := b5.wr q186 n36
   have b24 := b24.wr q186 n37
   have o159 := o159.wr q186 f194
   have r162 := r162.wr q186 a165
   have fB := fB.wr q186 z33
   obtain ⟨g200, h⟩ := gs h
   have f202 := off_ty b5 o159 (by decide)
   have f203 := off_ty b24 o159 (by decide)
   have f204 := off_ty b191 o159 (by decide)
   have f205 := o159.geO
   refine ol_op (opv_append (K := (kI .i64)) rfl Try.underlying25 el3 rfl rfl rfl e64 e66 o159 o193.rd g200 fB.size) rfl rfl rfl ?_
   rintro v196 w206 ⟨o197, q198, n199⟩
   have a207 := OffRV.app r188 (n190 _ a166) n199 rfl
   have b5 := b5.wrO q198 f202
   have b24 := b24.wrO q198 f203
   have b191 := b191.wrO q198 f204
   have fB := fB.wrO q198 f205
   have r188 := r188.wrV q198 (n190 _ a166)
   refine ol_val (v := (pt G23 8)) (xr_fieldAddr (p := 0) (q := 8) rfl fl110_3 e8) rfl rfl rfl ?_
   have f209 := off_ty b24 o197 (by decide)
   refine ol_op0 (opv_store (ss' := [(sI t41.1), (sI t54.1), (sI t67.1), (sI t80.1), (sI t119.1), (sI t93.1), (sI t106.1), (sI t130.1), Seg.cell v196 o197.one]) (xs := cellsOf [Seg.cell v196 o197.one]) rfl sz25 rfl rfl (cells_one o197.one) (len_cellsOf _) (one_cellsOf _) b24 (Spl.segs _ 8 1 [Seg.cell v196 o197.one] rfl rfl)) rfl rfl ?_
   rintro _ w210 ⟨b24, q208⟩
   have b5 := b5.wr q208 n29
   have b191 := b191.wr q208 n37.symm
   have o197 := o197.wr q208 f209
   have r188 := r188.wr q208 (n189 _ a164)
   have fB := fB.wr q208 z26
   refine ol_nil ?_
   refine blk_i ?_
   refine cw_region ?_
   refine ol_val (v := .int .i64 (IntKind.i64.wrap (s145.1 + 1))) (xr_add rfl e61 rfl) rfl rfl rfl ?_
   refine ol_val (v := .int .i64 (IntKind.i64.wrap (s145.1 + 1))) (xr_move rfl rfl) rfl rfl rfl ?_
   refine ol_nil ?_
   obtain rfl := Option.some.inj h
   refine lp_in ?_
   exact ⟨v196, u187, o197, r188, (n189 _ a163), (n189 _ a164), (n189 _ a165), a207, e2, e8, e9, e60, rfl, b5, b24, b191, fB⟩
  refine cw_condF rfl c170 ?_
  refine cw_exit ?_
  repeat (first | with_reducible refine thn_e ?_ | with_reducible refine blk_e rfl ?_)
  obtain rfl := Option.some.inj h
  refine lp_exit ?_
  rintro rfl
  refine thn_x ?_
  exact ⟨v158, v161, o159, r162, a163, a164, a165, a166, e2, e8, e9, b5, b24, b31, fB⟩
 rintro ρ211 w212 ⟨v149, v152, o150, r153, a154, a155, a156, a157, e2, e8, e9, b5, b24, b31, fB⟩
 have h := h148
 refine cw_seq ?_
 refine cw_seq ?_
 obtain ⟨x213, j214, h⟩ := bs h
 refine cw_mid (fun ρ' w' => ρ' 2 = (pt G4 0) ∧ ρ' 8 = (pt G23 0) ∧ ρ' 81 = .bool x213 ∧ Gr w212 w') ?_ ?_
 ·skip
  refine cw_region ?_
  refine ol_val (v := aggV [(sI t41.1), (sI t54.1), (sI t67.1), (sI t80.1), (sI t119.1), (sI t93.1), (sI t106.1), (sI t130.1), Seg.cell v149 o150.one]) (xr_loadS (ss := [(sI t41.1), (sI t54.1), (sI t67.1), (sI t80.1), (sI t119.1), (sI t93.1), (sI t106.1), (sI t130.1), Seg.cell v149 o150.one]) rfl ag110 sz110 rfl e8 (b24.segs 0 9 rfl)) rfl rfl rfl ?_
  obtain ⟨t215, k216, j214⟩ := bs j214
  refine ol_op (opv_call rfl cal132 (ac rfl an) (super_Right.ok fu _ (⟨t41.1, (⟨(⟨t54.1, t67.1, t80.1⟩ : S_api_Geometry), t119.1, t93.1, t106.1⟩ : S_api_Tickets), t130.1, e146.1⟩ : S_api_Super) v149 (o150.rd) _ k216)) rfl rfl rfl ?_
  rintro _ w218 ⟨rfl, q217⟩
  have b5 := b5.gr q217
  have b24 := b24.gr q217
  have b31 := b31.gr q217
  have o150 := o150.gr q217
  have r153 := r153.gr q217
  have fB := fB.gr q217
  refine ol_val (v := .bool (!t215)) (xr_not rfl rfl) rfl rfl rfl ?_
  refine ol_val (v := .bool (!t215)) (xr_move rfl rfl) rfl rfl rfl ?_
  rcases is j214 with ⟨c219, j214⟩ | ⟨c219, j214⟩
  ·skip
   refine ol_gskip rfl rfl rfl rfl rfl c219 ?_
   refine ol_gskip rfl rfl rfl rfl rfl c219 ?_
   refine ol_gskip rfl rfl rfl rfl rfl c219 ?_
   refine ol_gskip rfl rfl rfl rfl rfl c219 ?_
   refine ol_gskip rfl rfl rfl rfl rfl c219 ?_
   refine ol_gskip rfl rfl rfl rfl rfl c219 ?_
   refine ol_gskip rfl rfl rfl rfl rfl c219 ?_
   refine ol_val (v := .bool true) (xr_pickT rfl rfl c219 rfl) rfl rfl rfl ?_
   refine ol_nil ?_
   obtain rfl := Option.some.inj j214
   refine thn_i ?_
   exact ⟨e2, e8, rfl, q217⟩
  refine ol_gval (v := (pt G30 0)) (xr_fieldAddr (p := 0) (q := 0) rfl fl182_0 e9) rfl rfl rfl rfl rfl c219 ?_
  refine ol_gval (v := v152) (xr_load1 (v := v152) rfl ag43 rfl (b31.seg 0 rfl rfl)) rfl rfl rfl rfl rfl c219 ?_
  refine ol_gval (v := (pt G30 0)) (xr_fieldAddr (p := 0) (q := 0) rfl fl182_0 e9) rfl rfl rfl rfl rfl c219 ?_
  refine ol_gval (v := v152) (xr_load1 (v := v152) rfl ag43 rfl (b31.seg 0 rfl rfl)) rfl rfl rfl rfl rfl c219 ?_
  refine ol_gval (v := .int .i64 (List.length e146.2 : Int)) (xr_lenR rfl Try.underlying43 rfl r153) rfl rfl rfl rfl rfl c219 ?_
  obtain ⟨t220, k221, j214⟩ := bs j214
  refine ol_gop (opv_call rfl cal133 (ac rfl (ac rfl (ac rfl an))) (octet_Noughts.ok fu _ e146.2 v152 (r153) 0 (List.length e146.2 : Int) _ k221)) rfl rfl rfl rfl rfl c219 ?_
  rintro _ w223 ⟨rfl, q222⟩
  have b5 := b5.gr q222
  have b24 := b24.gr q222
  have o150 := o150.gr q222
  have fB := fB.gr q222
  refine ol_gval (v := .bool (!t220)) (xr_not rfl rfl) rfl rfl rfl rfl rfl c219 ?_
  refine ol_val (v := .bool (!t220)) (xr_pickF rfl rfl c219 rfl) rfl rfl rfl ?_
  refine ol_nil ?_
  obtain rfl := Option.some.inj j214
  refine thn_i ?_
  exact ⟨e2, e8, rfl, (q217.gr q222)⟩
 rintro ρ224 w225 ⟨e2, e8, e81, q226⟩
 have b5 := b5.gr q226
 have b24 := b24.gr q226
 have o150 := o150.gr q226
 have fB := fB.gr q226
 rcases is h with ⟨c227, h⟩ | ⟨c227, h⟩
 ·refine cw_condT e81 c227 ?_
  refine cw_seq ?_
  refine cw_region ?_
  refine ol_val (v := aggV [(sI (0 : Int)), (sI (0 : Int)), (sI (0 : Int)), (sI (0 : Int)), (sI (0 : Int)), (sI (0 : Int)), (sI (0 : Int)), (sI (0 : Int)), Seg.cell (.slice none 0 0) (by rfl)]) (xr_build (vals := []) rfl trivial (bl110_ _)) rfl rfl rfl ?_
  refine ol_op0 (opv_store (ss' := [(sI (0 : Int)), (sI (0 : Int)), (sI (0 : Int)), (sI (0 : Int)), (sI (0 : Int)), (sI (0 : Int)), (sI (0 : Int)), (sI (0 : Int)), Seg.cell (.slice none 0 0) (by rfl)]) (xs := cellsOf [(sI (0 : Int)), (sI (0 : Int)), (sI (0 : Int)), (sI (0 : Int)), (sI (0 : Int)), (sI (0 : Int)), (sI (0 : Int)), (sI (0 : Int)), Seg.cell (.slice none 0 0) (by rfl)]) rfl sz110 e2 rfl rfl (len_cellsOf _) (one_cellsOf _) b5 (Spl.segs _ 0 9 [(sI (0 : Int)), (sI (0 : Int)), (sI (0 : Int)), (sI (0 : Int)), (sI (0 : Int)), (sI (0 : Int)), (sI (0 : Int)), (sI (0 : Int)), Seg.cell (.slice none 0 0) (by rfl)] rfl rfl)) rfl rfl ?_
  rintro _ w229 ⟨b5, q228⟩
  have fB := fB.wr q228 z7
  refine ol_val (v := .bool false) (xr_assign rfl rfl) rfl rfl rfl ?_
  refine ol_nil ?_
  refine cw_ret ?_
  repeat (first | with_reducible refine thn_r ?_ | with_reducible refine blk_r ?_)
  obtain rfl := Option.some.inj h
  refine fin_cell_tmp Try.results113 e2 ag110 sz110 b5 (by rfl) rfl ?_
  exact ⟨_, rfl, (.slice none 0 0), Own.nil _ _ _ _, rfl, fB⟩
 refine cw_condF e81 c227 ?_
 refine cw_skip ?_
 refine cw_seq ?_
 refine cw_region ?_
 refine ol_val (v := aggV [(sI t41.1), (sI t54.1), (sI t67.1), (sI t80.1), (sI t119.1), (sI t93.1), (sI t106.1), (sI t130.1), Seg.cell v149 o150.one]) (xr_loadS (ss := [(sI t41.1), (sI t54.1), (sI t67.1), (sI t80.1), (sI t119.1), (sI t93.1), (sI t106.1), (sI t130.1), Seg.cell v149 o150.one]) rfl ag110 sz110 rfl e8 (b24.segs 0 9 rfl)) rfl rfl rfl ?_
 have f231 := off_ty b5 o150 (by decide)
 refine ol_op0 (opv_store (ss' := [(sI t41.1), (sI t54.1), (sI t67.1), (sI t80.1), (sI t119.1), (sI t93.1), (sI t106.1), (sI t130.1), Seg.cell v149 o150.one]) (xs := cellsOf [(sI t41.1), (sI t54.1), (sI t67.1), (sI t80.1), (sI t119.1), (sI t93.1), (sI t106.1), (sI t130.1), Seg.cell v149 o150.one]) rfl sz110 e2 rfl rfl (len_cellsOf _) (one_cellsOf _) b5 (Spl.segs _ 0 9 [(sI t41.1), (sI t54.1), (sI t67.1), (sI t80.1), (sI t119.1), (sI t93.1), (sI t106.1), (sI t130.1), Seg.cell v149 o150.one] rfl rfl)) rfl rfl ?_
 rintro _ w232 ⟨b5, q230⟩
 have o150 := o150.wr q230 f231
 have fB := fB.wr q230 z7
 refine ol_val (v := .bool true) (xr_assign rfl rfl) rfl rfl rfl ?_
 refine ol_nil ?_
 refine cw_ret ?_
 repeat (first | with_reducible refine thn_r ?_ | with_reducible refine blk_r ?_)
 obtain rfl := Option.some.inj h
 refine fin_cell_tmp Try.results113 e2 ag110 sz110 b5 (by rfl) rfl ?_
 exact ⟨_, rfl, v149, o150, rfl, fB⟩
def root_Read.f (fu : Nat) (a0 : S_pmem_Device) (a1 : Int) : Option (S_api_Super × Bool) := (if (if (decide (a1 < 0)) = true then true else (decide (a1 ≥ 2))) = true then some ((⟨(0 : Int), (⟨(⟨(0 : Int), (0 : Int), (0 : Int)⟩ : S_api_Geometry), (0 : Int), (0 : Int), (0 : Int)⟩ : S_api_Tickets), (0 : Int), []⟩ : S_api_Super), false) else ((press_Read.f fu a0 a1).bind fun t16 => (if (!decide (t16.2 = 0)) = true then some ((⟨(0 : Int), (⟨(⟨(0 : Int), (0 : Int), (0 : Int)⟩ : S_api_Geometry), (0 : Int), (0 : Int), (0 : Int)⟩ : S_api_Tickets), (0 : Int), []⟩ : S_api_Super), false) else ((super_Get.f fu t16.1).bind fun t26 => some (t26.1, t26.2)))))
theorem root_Read.ok (fu : Nat) (w : World) (a0 : S_pmem_Device) (G_0 : Nat) (V0_0 : Value) (R0_0 : Rd k_pmem_cell w V0_0 a0.cells) (V0_1 : Value) (R0_1 : Rd (kI .i64) w V0_1 a0.plan.list) (b_0 : Blk w G_0 139 [Seg.cell V0_0 R0_0.one, Seg.cell V0_1 R0_1.one, (sI a0.plan.at_), Seg.cell (.bool a0.off), Seg.cell (.bool a0.armed), (sI a0.left), (sI a0.steps)]) (a1 : Int) (r : S_api_Super × Bool) (h : root_Read.f fu a0 a1 = some r) :
  Calls Try.prog 70 (([(pt G_0 0), .int .i64 a1] : List Value).toArray) w (fun e w' => ∃ v, e = .returned v ∧ ∃ u1 : Value, ∃ o2 : Own (kI .i64) 3 w' w.heap.size u1 r.1.Charts, v = .tuple #[aggV [(sI r.1.Epoch), (sI r.1.Tickets.Geometry.Blocks), (sI r.1.Tickets.Geometry.Slots), (sI r.1.Tickets.Geometry.Gens), (sI r.1.Tickets.Top), (sI r.1.Tickets.High), (sI r.1.Tickets.Free), (sI r.1.Dir), Seg.cell u1 o2.one], .bool r.2] ∧ Gr w w') := by
 unfold root_Read.f at h
 have fB : Gr w w := Fr.refl _ _
 refine calls_cw Try.func70 rfl Try.ntmps70 rfl ?_
 refine cw_seq ?_
 refine cw_region ?_
 refine ol_op (opv_alloc (ss := [(sI (0 : Int)), (sI (0 : Int)), (sI (0 : Int)), (sI (0 : Int)), (sI (0 : Int)), (sI (0 : Int)), (sI (0 : Int)), (sI (0 : Int)), Seg.cell (.slice none 0 0) (by rfl)]) rfl ze110 rfl) rfl rfl rfl ?_
 rintro _ w9 ⟨G4, rfl, b5, q6, z7⟩
 have n10 := b_0.ne z7
 have z7 := Nat.le_trans fB.size z7
 have b_0 := b_0.gr q6
 have fB := fB.gr q6
 refine ol_val (v := .bool false) (xr_assign rfl rfl) rfl rfl rfl ?_
 refine ol_nil ?_
 refine cw_seq ?_
 refine cw_seq ?_
 refine cw_mid (fun ρ' w' => ρ' 0 = (pt G_0 0) ∧ ρ' 1 = .int .i64 a1 ∧ ρ' 4 = (pt G4 0) ∧ ρ' 13 = .bool (if (decide (a1 < 0)) = true then true else (decide (a1 ≥ 2))) ∧ w9 = w') ?_ ?_
 ·skip
  refine cw_region ?_
  refine ol_val (v := .int .i64 a1) (xr_move rfl rfl) rfl rfl rfl ?_
  refine ol_val (v := .bool (decide (a1 < 0))) (xr_lss rfl rfl rfl) rfl rfl rfl ?_
  refine ol_val (v := .bool (decide (a1 < 0))) (xr_move rfl rfl) rfl rfl rfl ?_
  rcases bt (decide (a1 < 0)) with c11 | c11
  ·skip
   refine ol_gskip rfl rfl rfl rfl rfl c11 ?_
   refine ol_gskip rfl rfl rfl rfl rfl c11 ?_
   refine ol_val (v := .bool true) (xr_pickT rfl rfl c11 rfl) rfl rfl rfl ?_
   refine ol_nil ?_
   refine thn_i ?_
   exact ⟨rfl, rfl, rfl, (rfl).trans (congrArg (fun z => (.bool z : Value)) (show true = (if (decide (a1 < 0)) = true then true else (decide (a1 ≥ 2))) from by rw [ite_t c11])), rfl⟩
  refine ol_gval (v := .int .i64 a1) (xr_move rfl rfl) rfl rfl rfl rfl rfl c11 ?_
  refine ol_gval (v := .bool (decide (a1 ≥ 2))) (xr_geq rfl rfl rfl) rfl rfl rfl rfl rfl c11 ?_
  refine ol_val (v := .bool (decide (a1 ≥ 2))) (xr_pickF rfl rfl c11 rfl) rfl rfl rfl ?_
  refine ol_nil ?_
  refine thn_i ?_
  exact ⟨rfl, rfl, rfl, (rfl).trans (congrArg (fun z => (.bool z : Value)) (show (decide (a1 ≥ 2)) = (if (decide (a1 < 0)) = true then true else (decide (a1 ≥ 2))) from by rw [ite_f c11])), rfl⟩
 rintro ρ12 _ ⟨e0, e1, e4, e13, rfl⟩
 rcases is h with ⟨c13, h⟩ | ⟨c13, h⟩
 ·refine cw_condT e13 c13 ?_
  refine cw_seq ?_
  refine cw_region ?_
  refine ol_val (v := aggV [(sI (0 : Int)), (sI (0 : Int)), (sI (0 : Int)), (sI (0 : Int)), (sI (0 : Int)), (sI (0 : Int)), (sI (0 : Int)), (sI (0 : Int)), Seg.cell (.slice none 0 0) (by rfl)]) (xr_build (vals := []) rfl trivial (bl110_ _)) rfl rfl rfl ?_
  refine ol_op0 (opv_store (ss' := [(sI (0 : Int)), (sI (0 : Int)), (sI (0 : Int)), (sI (0 : Int)), (sI (0 : Int)), (sI (0 : Int)), (sI (0 : Int)), (sI (0 : Int)), Seg.cell (.slice none 0 0) (by rfl)]) (xs := cellsOf [(sI (0 : Int)), (sI (0 : Int)), (sI (0 : Int)), (sI (0 : Int)), (sI (0 : Int)), (sI (0 : Int)), (sI (0 : Int)), (sI (0 : Int)), Seg.cell (.slice none 0 0) (by rfl)]) rfl sz110 e4 rfl rfl (len_cellsOf _) (one_cellsOf _) b5 (Spl.segs _ 0 9 [(sI (0 : Int)), (sI (0 : Int)), (sI (0 : Int)), (sI (0 : Int)), (sI (0 : Int)), (sI (0 : Int)), (sI (0 : Int)), (sI (0 : Int)), Seg.cell (.slice none 0 0) (by rfl)] rfl rfl)) rfl rfl ?_
  rintro _ w15 ⟨b5, q14⟩
  have b_0 := b_0.wr q14 n10
  have fB := fB.wr q14 z7
  refine ol_val (v := .bool false) (xr_assign rfl rfl) rfl rfl rfl ?_
  refine ol_nil ?_
  refine cw_ret ?_
  repeat (first | with_reducible refine thn_r ?_ | with_reducible refine blk_r ?_)
  obtain rfl := Option.some.inj h
  refine fin_cell_tmp Try.results70 e4 ag110 sz110 b5 (by rfl) rfl ?_
  exact ⟨_, rfl, (.slice none 0 0), Own.nil _ _ _ _, rfl, fB⟩
 refine cw_condF e13 c13 ?_
 refine cw_skip ?_
 refine cw_seq ?_
 refine cw_region ?_
 refine ol_val (v := (pt G_0 0)) (xr_move rfl e0) rfl rfl rfl ?_
 refine ol_val (v := .int .i64 a1) (xr_move rfl e1) rfl rfl rfl ?_
 obtain ⟨t16, k17, h⟩ := bs h
 refine ol_op (opv_call rfl cal55 (ac rfl (ac rfl an)) (press_Read.ok fu _ a0 G_0 V0_0 (R0_0.gr fB) V0_1 (R0_1.gr fB) b_0 a1 _ k17)) rfl rfl rfl ?_
 rintro _ w22 ⟨u18, o19, rfl, q21⟩
 have o19 := Own.base o19 fB.size
 have b_0 := b_0.gr q21
 have b5 := b5.gr q21
 have fB := fB.gr q21
 refine ol_val (v := .tuple #[u18, .int .i64 t16.2]) (xr_move rfl rfl) rfl rfl rfl ?_
 refine ol_val (v := u18) (xr_extract rfl rfl rfl) rfl rfl rfl ?_
 refine ol_val (v := .int .i64 t16.2) (xr_extract rfl rfl rfl) rfl rfl rfl ?_
 refine ol_val (v := u18) (xr_assign rfl rfl) rfl rfl rfl ?_
 refine ol_val (v := .int .i64 t16.2) (xr_assign rfl rfl) rfl rfl rfl ?_
 refine ol_nil ?_
 refine cw_seq ?_
 refine cw_seq ?_
 refine cw_region ?_
 refine ol_val (v := .int .i64 t16.2) (xr_move rfl rfl) rfl rfl rfl ?_
 refine ol_val (v := .bool (!decide (t16.2 = 0))) (xr_neI rfl Try.underlying31 rfl rfl rfl) rfl rfl rfl ?_
 refine ol_nil ?_
 rcases is h with ⟨c23, h⟩ | ⟨c23, h⟩
 ·refine cw_condT rfl c23 ?_
  refine cw_seq ?_
  refine cw_region ?_
  refine ol_val (v := aggV [(sI (0 : Int)), (sI (0 : Int)), (sI (0 : Int)), (sI (0 : Int)), (sI (0 : Int)), (sI (0 : Int)), (sI (0 : Int)), (sI (0 : Int)), Seg.cell (.slice none 0 0) (by rfl)]) (xr_build (vals := []) rfl trivial (bl110_ _)) rfl rfl rfl ?_
  refine ol_op0 (opv_store (ss' := [(sI (0 : Int)), (sI (0 : Int)), (sI (0 : Int)), (sI (0 : Int)), (sI (0 : Int)), (sI (0 : Int)), (sI (0 : Int)), (sI (0 : Int)), Seg.cell (.slice none 0 0) (by rfl)]) (xs := cellsOf [(sI (0 : Int)), (sI (0 : Int)), (sI (0 : Int)), (sI (0 : Int)), (sI (0 : Int)), (sI (0 : Int)), (sI (0 : Int)), (sI (0 : Int)), Seg.cell (.slice none 0 0) (by rfl)]) rfl sz110 e4 rfl rfl (len_cellsOf _) (one_cellsOf _) b5 (Spl.segs _ 0 9 [(sI (0 : Int)), (sI (0 : Int)), (sI (0 : Int)), (sI (0 : Int)), (sI (0 : Int)), (sI (0 : Int)), (sI (0 : Int)), (sI (0 : Int)), Seg.cell (.slice none 0 0) (by rfl)] rfl rfl)) rfl rfl ?_
  rintro _ w25 ⟨b5, q24⟩
  have b_0 := b_0.wr q24 n10
  have fB := fB.wr q24 z7
  refine ol_val (v := .bool false) (xr_assign rfl rfl) rfl rfl rfl ?_
  refine ol_nil ?_
  refine cw_ret ?_
  repeat (first | with_reducible refine thn_r ?_ | with_reducible refine blk_r ?_)
  obtain rfl := Option.some.inj h
  refine fin_cell_tmp Try.results70 e4 ag110 sz110 b5 (by rfl) rfl ?_
  exact ⟨_, rfl, (.slice none 0 0), Own.nil _ _ _ _, rfl, fB⟩
 refine cw_condF rfl c23 ?_
 refine cw_skip ?_
 refine cw_seq ?_
 refine cw_region ?_
 refine ol_val (v := u18) (xr_move rfl rfl) rfl rfl rfl ?_
 obtain ⟨t26, k27, h⟩ := bs h
 refine ol_op (opv_call rfl cal113 (ac rfl an) (super_Get.ok fu _ t16.1 u18 (o19.rd) _ k27)) rfl rfl rfl ?_
 rintro _ w32 ⟨u28, o29, rfl, q31⟩
 have o29 := Own.base o29 fB.size
 have b_0 := b_0.gr q31
 have b5 := b5.gr q31
 have fB := fB.gr q31
 refine ol_val (v := aggV [(sI t26.1.Epoch), (sI t26.1.Tickets.Geometry.Blocks), (sI t26.1.Tickets.Geometry.Slots), (sI t26.1.Tickets.Geometry.Gens), (sI t26.1.Tickets.Top), (sI t26.1.Tickets.High), (sI t26.1.Tickets.Free), (sI t26.1.Dir), Seg.cell u28 o29.one]) (xr_extract rfl rfl rfl) rfl rfl rfl ?_
 refine ol_val (v := .bool t26.2) (xr_extract rfl rfl rfl) rfl rfl rfl ?_
 have f34 := off_ty b5 o29 (by decide)
 refine ol_op0 (opv_store (ss' := [(sI t26.1.Epoch), (sI t26.1.Tickets.Geometry.Blocks), (sI t26.1.Tickets.Geometry.Slots), (sI t26.1.Tickets.Geometry.Gens), (sI t26.1.Tickets.Top), (sI t26.1.Tickets.High), (sI t26.1.Tickets.Free), (sI t26.1.Dir), Seg.cell u28 o29.one]) (xs := cellsOf [(sI t26.1.Epoch), (sI t26.1.Tickets.Geometry.Blocks), (sI t26.1.Tickets.Geometry.Slots), (sI t26.1.Tickets.Geometry.Gens), (sI t26.1.Tickets.Top), (sI t26.1.Tickets.High), (sI t26.1.Tickets.Free), (sI t26.1.Dir), Seg.cell u28 o29.one]) rfl sz110 e4 rfl rfl (len_cellsOf _) (one_cellsOf _) b5 (Spl.segs _ 0 9 [(sI t26.1.Epoch), (sI t26.1.Tickets.Geometry.Blocks), (sI t26.1.Tickets.Geometry.Slots), (sI t26.1.Tickets.Geometry.Gens), (sI t26.1.Tickets.Top), (sI t26.1.Tickets.High), (sI t26.1.Tickets.Free), (sI t26.1.Dir), Seg.cell u28 o29.one] rfl rfl)) rfl rfl ?_
 rintro _ w35 ⟨b5, q33⟩
 have b_0 := b_0.wr q33 n10
 have o29 := o29.wr q33 f34
 have fB := fB.wr q33 z7
 refine ol_val (v := .bool t26.2) (xr_assign rfl rfl) rfl rfl rfl ?_
 refine ol_nil ?_
 refine cw_ret ?_
 repeat (first | with_reducible refine thn_r ?_ | with_reducible refine blk_r ?_)
 obtain rfl := Option.some.inj h
 refine fin_cell_tmp Try.results70 e4 ag110 sz110 b5 (by rfl) rfl ?_
 exact ⟨_, rfl, u28, o29, rfl, fB⟩
def root_Pick.s0 (fu : Nat) (a0 : S_pmem_Device) : (Int × Bool × Int × Int × S_api_Tickets × Int × (List Int)) → Option (Sum (Int × Bool × Int × S_api_Tickets × Int × (List Int)) (Int × Bool × Int × Int × S_api_Tickets × Int × (List Int))) := fun s11 => (if (decide (s11.2.2.1 < 2)) = true then ((root_Read.f fu a0 s11.2.2.1).bind fun t25 => (((if (if t25.2 = true then (if (!s11.2.1) = true then true else (decide (t25.1.Epoch > s11.2.2.2.1))) else false) = true then some (s11.2.2.1, true, t25.1.Epoch, t25.1.Tickets, t25.1.Dir, t25.1.Charts) else some (s11.1, s11.2.1, s11.2.2.2.1, s11.2.2.2.2.1, s11.2.2.2.2.2.1, s11.2.2.2.2.2.2)) : Option (Int × Bool × Int × S_api_Tickets × Int × (List Int))).bind fun x48 => some (Sum.inr (x48.1, x48.2.1, (IntKind.i64.wrap (s11.2.2.1 + 1)), x48.2.2.1, x48.2.2.2.1, x48.2.2.2.2.1, x48.2.2.2.2.2)))) else some (Sum.inl (s11.1, s11.2.1, s11.2.2.2.1, s11.2.2.2.2.1, s11.2.2.2.2.2.1, s11.2.2.2.2.2.2)))
def root_Pick.f (fu : Nat) (a0 : S_pmem_Device) : Option (S_api_Super × Int × Bool) := ((loopM (root_Pick.s0 fu a0) fu (0, false, 0, (0 : Int), (⟨(⟨(0 : Int), (0 : Int), (0 : Int)⟩ : S_api_Geometry), (0 : Int), (0 : Int), (0 : Int)⟩ : S_api_Tickets), (0 : Int), [])).bind fun e12 => some ((⟨e12.2.2.1, e12.2.2.2.1, e12.2.2.2.2.1, e12.2.2.2.2.2⟩ : S_api_Super), e12.1, e12.2.1))
theorem root_Pick.ok (fu : Nat) (w : World) (a0 : S_pmem_Device) (G_0 : Nat) (V0_0 : Value) (R0_0 : Rd k_pmem_cell w V0_0 a0.cells) (V0_1 : Value) (R0_1 : Rd (kI .i64) w V0_1 a0.plan.list) (b_0 : Blk w G_0 139 [Seg.cell V0_0 R0_0.one, Seg.cell V0_1 R0_1.one, (sI a0.plan.at_), Seg.cell (.bool a0.off), Seg.cell (.bool a0.armed), (sI a0.left), (sI a0.steps)]) (r : S_api_Super × Int × Bool) (h : root_Pick.f fu a0 = some r) :
  Calls Try.prog 72 (([(pt G_0 0)] : List Value).toArray) w (fun e w' => ∃ v, e = .returned v ∧ ∃ u1 : Value, ∃ o2 : Own (kI .i64) 3 w' w.heap.size u1 r.1.Charts, v = .tuple #[aggV [(sI r.1.Epoch), (sI r.1.Tickets.Geometry.Blocks), (sI r.1.Tickets.Geometry.Slots), (sI r.1.Tickets.Geometry.Gens), (sI r.1.Tickets.Top), (sI r.1.Tickets.High), (sI r.1.Tickets.Free), (sI r.1.Dir), Seg.cell u1 o2.one], .int .i64 r.2.1, .bool r.2.2] ∧ Gr w w') := by
 unfold root_Pick.f at h
 have fB : Gr w w := Fr.refl _ _
 refine calls_cw Try.func72 rfl Try.ntmps72 rfl ?_
 refine cw_seq ?_
 refine cw_region ?_
 refine ol_op (opv_alloc (ss := [(sI (0 : Int)), (sI (0 : Int)), (sI (0 : Int)), (sI (0 : Int)), (sI (0 : Int)), (sI (0 : Int)), (sI (0 : Int)), (sI (0 : Int)), Seg.cell (.slice none 0 0) (by rfl)]) rfl ze110 rfl) rfl rfl rfl ?_
 rintro _ w9 ⟨G4, rfl, b5, q6, z7⟩
 have n10 := b_0.ne z7
 have z7 := Nat.le_trans fB.size z7
 have b_0 := b_0.gr q6
 have fB := fB.gr q6
 refine ol_val (v := .int .i64 0) (xr_assign rfl rfl) rfl rfl rfl ?_
 refine ol_val (v := .bool false) (xr_assign rfl rfl) rfl rfl rfl ?_
 refine ol_nil ?_
 refine cw_seq ?_
 refine cw_seq ?_
 refine cw_region ?_
 refine ol_val (v := .int .i64 0) (xr_move rfl rfl) rfl rfl rfl ?_
 refine ol_nil ?_
 obtain ⟨e12, l13, h14⟩ := bs h
 refine cw_mid (fun ρ' w' => ∃ v15 : Value, ∃ o16 : Own (kI .i64) 3 w' w.heap.size v15 e12.2.2.2.2.2, ρ' 2 = (pt G4 0) ∧ ρ' 3 = .int .i64 e12.1 ∧ ρ' 4 = .bool e12.2.1 ∧ Blk w' G_0 139 [Seg.cell V0_0 R0_0.one, Seg.cell V0_1 R0_1.one, (sI a0.plan.at_), Seg.cell (.bool a0.off), Seg.cell (.bool a0.armed), (sI a0.left), (sI a0.steps)] ∧ Blk w' G4 110 [(sI e12.2.2.1), (sI e12.2.2.2.1.Geometry.Blocks), (sI e12.2.2.2.1.Geometry.Slots), (sI e12.2.2.2.1.Geometry.Gens), (sI e12.2.2.2.1.Top), (sI e12.2.2.2.1.High), (sI e12.2.2.2.1.Free), (sI e12.2.2.2.2.1), Seg.cell v15 o16.one] ∧ Gr w w') ?_ ?_
 ·refine cw_block ?_
  refine cw_round (fun (s11 : Int × Bool × Int × Int × S_api_Tickets × Int × (List Int)) ρ' w' => ∃ v18 : Value, ∃ o19 : Own (kI .i64) 3 w' w.heap.size v18 s11.2.2.2.2.2.2, ρ' 0 = (pt G_0 0) ∧ ρ' 2 = (pt G4 0) ∧ ρ' 3 = .int .i64 s11.1 ∧ ρ' 4 = .bool s11.2.1 ∧ ρ' 8 = .int .i64 s11.2.2.1 ∧ Blk w' G_0 139 [Seg.cell V0_0 R0_0.one, Seg.cell V0_1 R0_1.one, (sI a0.plan.at_), Seg.cell (.bool a0.off), Seg.cell (.bool a0.armed), (sI a0.left), (sI a0.steps)] ∧ Blk w' G4 110 [(sI s11.2.2.2.1), (sI s11.2.2.2.2.1.Geometry.Blocks), (sI s11.2.2.2.2.1.Geometry.Slots), (sI s11.2.2.2.2.1.Geometry.Gens), (sI s11.2.2.2.2.1.Top), (sI s11.2.2.2.2.1.High), (sI s11.2.2.2.2.1.Free), (sI s11.2.2.2.2.2.1), Seg.cell v18 o19.one] ∧ Gr w w') l13 ?_ ?_
  ·skip
   exact ⟨(.slice none 0 0), Own.nil _ _ _ _, rfl, rfl, rfl, rfl, rfl, b_0, b5, fB⟩
  rintro s11 x23 ρ21 w22 ⟨v18, o19, e0, e2, e3, e4, e8, b_0, b5, fB⟩ h
  unfold root_Pick.s0 at h
  refine cw_seq ?_
  refine cw_region ?_
  refine ol_val (v := .bool (decide (s11.2.2.1 < 2))) (xr_lss rfl e8 rfl) rfl rfl rfl ?_
  refine ol_nil ?_
  refine cw_seq ?_
  rcases is h with ⟨c24, h⟩ | ⟨c24, h⟩
  ·refine cw_condT rfl c24 ?_
   refine cw_skip ?_
   refine cw_seq ?_
   refine cw_block ?_
   refine cw_seq ?_
   refine cw_region ?_
   refine ol_val (v := .int .i64 s11.2.2.1) (xr_move rfl e8) rfl rfl rfl ?_
   refine ol_val (v := .int .i64 s11.2.2.1) (xr_assign rfl rfl) rfl rfl rfl ?_
   refine ol_nil ?_
   refine cw_seq ?_
   refine cw_region ?_
   refine ol_val (v := (pt G_0 0)) (xr_move rfl e0) rfl rfl rfl ?_
   refine ol_val (v := .int .i64 s11.2.2.1) (xr_move rfl rfl) rfl rfl rfl ?_
   obtain ⟨t25, k26, h⟩ := bs h
   refine ol_op (opv_call rfl cal70 (ac rfl (ac rfl an)) (root_Read.ok fu _ a0 G_0 V0_0 (R0_0.gr fB) V0_1 (R0_1.gr fB) b_0 s11.2.2.1 _ k26)) rfl rfl rfl ?_
   rintro _ w31 ⟨u27, o28, rfl, q30⟩
   have a32 := OffV.call o19 o28
   have o28 := Own.base o28 fB.size
   have b_0 := b_0.gr q30
   have b5 := b5.gr q30
   have o19 := o19.gr q30
   have fB := fB.gr q30
   refine ol_val (v := .tuple #[aggV [(sI t25.1.Epoch), (sI t25.1.Tickets.Geometry.Blocks), (sI t25.1.Tickets.Geometry.Slots), (sI t25.1.Tickets.Geometry.Gens), (sI t25.1.Tickets.Top), (sI t25.1.Tickets.High), (sI t25.1.Tickets.Free), (sI t25.1.Dir), Seg.cell u27 o28.one], .bool t25.2]) (xr_move rfl rfl) rfl rfl rfl ?_
   refine ol_val (v := aggV [(sI t25.1.Epoch), (sI t25.1.Tickets.Geometry.Blocks), (sI t25.1.Tickets.Geometry.Slots), (sI t25.1.Tickets.Geometry.Gens), (sI t25.1.Tickets.Top), (sI t25.1.Tickets.High), (sI t25.1.Tickets.Free), (sI t25.1.Dir), Seg.cell u27 o28.one]) (xr_extract rfl rfl rfl) rfl rfl rfl ?_
   refine ol_val (v := .bool t25.2) (xr_extract rfl rfl rfl) rfl rfl rfl ?_
   refine ol_op (opv_alloc (ss := [(sI (0 : Int)), (sI (0 : Int)), (sI (0 : Int)), (sI (0 : Int)), (sI (0 : Int)), (sI (0 : Int)), (sI (0 : Int)), (sI (0 : Int)), Seg.cell (.slice none 0 0) (by rfl)]) rfl ze110 rfl) rfl rfl rfl ?_
   rintro _ w38 ⟨G33, rfl, b34, q35, z36⟩
   have n39 := b_0.ne z36
   have n40 := b5.ne z36
   have z36 := Nat.le_trans fB.size z36
   have b_0 := b_0.gr q35
   have b5 := b5.gr q35
   have o19 := o19.gr q35
   have o28 := o28.gr q35
   have fB := fB.gr q35
   have f42 := off_ty b34 o19 (by decide)
   have f43 := off_ty b34 o28 (by decide)
   refine ol_op0 (opv_store (ss' := [(sI t25.1.Epoch), (sI t25.1.Tickets.Geometry.Blocks), (sI t25.1.Tickets.Geometry.Slots), (sI t25.1.Tickets.Geometry.Gens), (sI t25.1.Tickets.Top), (sI t25.1.Tickets.High), (sI t25.1.Tickets.Free), (sI t25.1.Dir), Seg.cell u27 o28.one]) (xs := cellsOf [(sI t25.1.Epoch), (sI t25.1.Tickets.Geometry.Blocks), (sI t25.1.Tickets.Geometry.Slots), (sI t25.1.Tickets.Geometry.Gens), (sI t25.1.Tickets.Top), (sI t25.1.Tickets.High), (sI t25.1.Tickets.Free), (sI t25.1.Dir), Seg.cell u27 o28.one]) rfl sz110 rfl rfl rfl (len_cellsOf _) (one_cellsOf _) b34 (Spl.segs _ 0 9 [(sI t25.1.Epoch), (sI t25.1.Tickets.Geometry.Blocks), (sI t25.1.Tickets.Geometry.Slots), (sI t25.1.Tickets.Geometry.Gens), (sI t25.1.Tickets.Top), (sI t25.1.Tickets.High), (sI t25.1.Tickets.Free), (sI t25.1.Dir), Seg.cell u27 o28.one] rfl rfl)) rfl rfl ?_
   rintro _ w44 ⟨b34, q41⟩
   have b_0 := b_0.wr q41 n39
   have b5 := b5.wr q41 n40
   have o19 := o19.wr q41 f42
   have o28 := o28.wr q41 f43
   have fB := fB.wr q41 z36
   refine ol_val (v := .bool t25.2) (xr_assign rfl rfl) rfl rfl rfl ?_
   refine ol_nil ?_
   refine cw_seq ?_
   refine cw_mid (fun ρ' w' => ρ' 0 = (pt G_0 0) ∧ ρ' 2 = (pt G4 0) ∧ ρ' 3 = .int .i64 s11.1 ∧ ρ' 4 = .bool s11.2.1 ∧ ρ' 5 = .int .i64 s11.2.2.1 ∧ ρ' 6 = (pt G33 0) ∧ ρ' 8 = .int .i64 s11.2.2.1 ∧ ρ' 28 = .bool (if t25.2 = true then (if (!s11.2.1) = true then true else (decide (t25.1.Epoch > s11.2.2.2.1))) else false) ∧ w44 = w') ?_ ?_
   ·skip
    refine cw_region ?_
    refine ol_val (v := .bool t25.2) (xr_move rfl rfl) rfl rfl rfl ?_
    refine ol_val (v := .bool t25.2) (xr_move rfl rfl) rfl rfl rfl ?_
    rcases bt t25.2 with c45 | c45
    ·skip
     refine ol_gval (v := .bool s11.2.1) (xr_move rfl e4) rfl rfl rfl rfl rfl c45 ?_
     refine ol_gval (v := .bool (!s11.2.1)) (xr_not rfl rfl) rfl rfl rfl rfl rfl c45 ?_
     refine ol_gval (v := .bool (!s11.2.1)) (xr_move rfl rfl) rfl rfl rfl rfl rfl c45 ?_
     rcases bt (!s11.2.1) with c46 | c46
     ·skip
      refine ol_gskip rfl rfl rfl rfl rfl c46 ?_
      refine ol_gskip rfl rfl rfl rfl rfl c46 ?_
      refine ol_gskip rfl rfl rfl rfl rfl c46 ?_
      refine ol_gskip rfl rfl rfl rfl rfl c46 ?_
      refine ol_gskip rfl rfl rfl rfl rfl c46 ?_
      refine ol_gval (v := .bool true) (xr_pickT rfl rfl c46 rfl) rfl rfl rfl rfl rfl c45 ?_
      refine ol_val (v := .bool true) (xr_pickT rfl rfl c45 rfl) rfl rfl rfl ?_
      refine ol_nil ?_
      refine thn_i ?_
      exact ⟨e0, e2, e3, e4, rfl, rfl, e8, (rfl).trans (congrArg (fun z => (.bool z : Value)) (show true = (if t25.2 = true then (if (!s11.2.1) = true then true else (decide (t25.1.Epoch > s11.2.2.2.1))) else false) from by rw [ite_t c45, ite_t c46])), rfl⟩
     refine ol_gval (v := (pt G33 0)) (xr_fieldAddr (p := 0) (q := 0) rfl fl110_0 rfl) rfl rfl rfl rfl rfl c46 ?_
     refine ol_gval (v := .int .i64 t25.1.Epoch) (xr_load1 (v := .int .i64 t25.1.Epoch) rfl ag3 rfl (b34.seg 0 rfl rfl)) rfl rfl rfl rfl rfl c46 ?_
     refine ol_gval (v := (pt G4 0)) (xr_fieldAddr (p := 0) (q := 0) rfl fl110_0 e2) rfl rfl rfl rfl rfl c46 ?_
     refine ol_gval (v := .int .i64 s11.2.2.2.1) (xr_load1 (v := .int .i64 s11.2.2.2.1) rfl ag3 rfl (b5.seg 0 rfl rfl)) rfl rfl rfl rfl rfl c46 ?_
     refine ol_gval (v := .bool (decide (t25.1.Epoch > s11.2.2.2.1))) (xr_gtr rfl rfl rfl) rfl rfl rfl rfl rfl c46 ?_
     refine ol_gval (v := .bool (decide (t25.1.Epoch > s11.2.2.2.1))) (xr_pickF rfl rfl c46 rfl) rfl rfl rfl rfl rfl c45 ?_
     refine ol_val (v := .bool (decide (t25.1.Epoch > s11.2.2.2.1))) (xr_pickT rfl rfl c45 rfl) rfl rfl rfl ?_
     refine ol_nil ?_
     refine thn_i ?_
     exact ⟨e0, e2, e3, e4, rfl, rfl, e8, (rfl).trans (congrArg (fun z => (.bool z : Value)) (show (decide (t25.1.Epoch > s11.2.2.2.1)) = (if t25.2 = true then (if (!s11.2.1) = true then true else (decide (t25.1.Epoch > s11.2.2.2.1))) else false) from by rw [ite_t c45, ite_f c46])), rfl⟩
    refine ol_gskip rfl rfl rfl rfl rfl c45 ?_
    refine ol_gskip rfl rfl rfl rfl rfl c45 ?_
    refine ol_gskip rfl rfl rfl rfl rfl c45 ?_
    refine ol_uskip rfl rfl rfl rfl rfl ?_
    refine ol_uskip rfl rfl rfl rfl rfl ?_
    refine ol_uskip rfl rfl rfl rfl rfl ?_
    refine ol_uskip rfl rfl rfl rfl rfl ?_
    refine ol_uskip rfl rfl rfl rfl rfl ?_
    refine ol_gskip rfl rfl rfl rfl rfl c45 ?_
    refine ol_val (v := .bool false) (xr_pickF rfl rfl c45 rfl) rfl rfl rfl ?_
    refine ol_nil ?_
    refine thn_i ?_
    exact ⟨e0, e2, e3, e4, rfl, rfl, e8, (rfl).trans (congrArg (fun z => (.bool z : Value)) (show false = (if t25.2 = true then (if (!s11.2.1) = true then true else (decide (t25.1.Epoch > s11.2.2.2.1))) else false) from by rw [ite_f c45])), rfl⟩
   rintro ρ47 _ ⟨e0, e2, e3, e4, e5, e6, e8, e28, rfl⟩
   obtain ⟨x48, j49, h50⟩ := bs h
   refine cw_mid (fun ρ' w' => ∃ v51 : Value, ∃ o52 : Own (kI .i64) 3 w' w.heap.size v51 x48.2.2.2.2.2, ρ' 0 = (pt G_0 0) ∧ ρ' 2 = (pt G4 0) ∧ ρ' 3 = .int .i64 x48.1 ∧ ρ' 4 = .bool x48.2.1 ∧ ρ' 8 = .int .i64 s11.2.2.1 ∧ Blk w' G_0 139 [Seg.cell V0_0 R0_0.one, Seg.cell V0_1 R0_1.one, (sI a0.plan.at_), Seg.cell (.bool a0.off), Seg.cell (.bool a0.armed), (sI a0.left), (sI a0.steps)] ∧ Blk w' G4 110 [(sI x48.2.2.1), (sI x48.2.2.2.1.Geometry.Blocks), (sI x48.2.2.2.1.Geometry.Slots), (sI x48.2.2.2.1.Geometry.Gens), (sI x48.2.2.2.1.Top), (sI x48.2.2.2.1.High), (sI x48.2.2.2.1.Free), (sI x48.2.2.2.2.1), Seg.cell v51 o52.one] ∧ Gr w w') ?_ ?_
   ·have h := j49
    rcases is h with ⟨c54, h⟩ | ⟨c54, h⟩
    ·refine cw_condT e28 c54 ?_
     refine cw_region ?_
     refine ol_val (v := aggV [(sI t25.1.Epoch), (sI t25.1.Tickets.Geometry.Blocks), (sI t25.1.Tickets.Geometry.Slots), (sI t25.1.Tickets.Geometry.Gens), (sI t25.1.Tickets.Top), (sI t25.1.Tickets.High), (sI t25.1.Tickets.Free), (sI t25.1.Dir), Seg.cell u27 o28.one]) (xr_loadS (ss := [(sI t25.1.Epoch), (sI t25.1.Tickets.Geometry.Blocks), (sI t25.1.Tickets.Geometry.Slots), (sI t25.1.Tickets.Geometry.Gens), (sI t25.1.Tickets.Top), (sI t25.1.Tickets.High), (sI t25.1.Tickets.Free), (sI t25.1.Dir), Seg.cell u27 o28.one]) rfl ag110 sz110 rfl e6 (b34.segs 0 9 rfl)) rfl rfl rfl ?_
     refine ol_val (v := .int .i64 s11.2.2.1) (xr_move rfl e5) rfl rfl rfl ?_
     have f56 := off_ty b5 o28 (by decide)
     refine ol_op0 (opv_store (ss' := [(sI t25.1.Epoch), (sI t25.1.Tickets.Geometry.Blocks), (sI t25.1.Tickets.Geometry.Slots), (sI t25.1.Tickets.Geometry.Gens), (sI t25.1.Tickets.Top), (sI t25.1.Tickets.High), (sI t25.1.Tickets.Free), (sI t25.1.Dir), Seg.cell u27 o28.one]) (xs := cellsOf [(sI t25.1.Epoch), (sI t25.1.Tickets.Geometry.Blocks), (sI t25.1.Tickets.Geometry.Slots), (sI t25.1.Tickets.Geometry.Gens), (sI t25.1.Tickets.Top), (sI t25.1.Tickets.High), (sI t25.1.Tickets.Free), (sI t25.1.Dir), Seg.cell u27 o28.one]) rfl sz110 e2 rfl rfl (len_cellsOf _) (one_cellsOf _) b5 (Spl.segs _ 0 9 [(sI t25.1.Epoch), (sI t25.1.Tickets.Geometry.Blocks), (sI t25.1.Tickets.Geometry.Slots), (sI t25.1.Tickets.Geometry.Gens), (sI t25.1.Tickets.Top), (sI t25.1.Tickets.High), (sI t25.1.Tickets.Free), (sI t25.1.Dir), Seg.cell u27 o28.one] rfl rfl)) rfl rfl ?_
     rintro _ w57 ⟨b5, q55⟩
     have b_0 := b_0.wr q55 n10
     have o28 := o28.wr q55 f56
     have fB := fB.wr q55 z7
     refine ol_val (v := .int .i64 s11.2.2.1) (xr_assign rfl rfl) rfl rfl rfl ?_
     refine ol_val (v := .bool true) (xr_assign rfl rfl) rfl rfl rfl ?_
     refine ol_nil ?_
     obtain rfl := Option.some.inj h
     refine thn_i ?_
     exact ⟨u27, o28, e0, e2, rfl, rfl, e8, b_0, b5, fB⟩
    refine cw_condF e28 c54 ?_
    refine cw_skip ?_
    obtain rfl := Option.some.inj h
    refine thn_i ?_
    exact ⟨v18, o19, e0, e2, e3, e4, e8, b_0, b5, fB⟩
   rintro ρ58 w59 ⟨v51, o52, e0, e2, e3, e4, e8, b_0, b5, fB⟩
   have h := h50
   refine blk_i ?_
   refine cw_region ?_
   refine ol_val (v := .int .i64 (IntKind.i64.wrap (s11.2.2.1 + 1))) (xr_add rfl e8 rfl) rfl rfl rfl ?_
   refine ol_val (v := .int .i64 (IntKind.i64.wrap (s11.2.2.1 + 1))) (xr_move rfl rfl) rfl rfl rfl ?_
   refine ol_nil ?_
   obtain rfl := Option.some.inj h
   refine lp_in ?_
   exact ⟨v51, o52, e0, e2, e3, e4, rfl, b_0, b5, fB⟩
  refine cw_condF rfl c24 ?_
  refine cw_exit ?_
  repeat (first | with_reducible refine thn_e ?_ | with_reducible refine blk_e rfl ?_)
  obtain rfl := Option.some.inj h
  refine lp_exit ?_
  rintro rfl
  refine thn_x ?_
  exact ⟨v18, o19, e2, e3, e4, b_0, b5, fB⟩
 rintro ρ60 w61 ⟨v15, o16, e2, e3, e4, b_0, b5, fB⟩
 have h := h14
 refine cw_seq ?_
 refine cw_region ?_
 refine ol_val (v := aggV [(sI e12.2.2.1), (sI e12.2.2.2.1.Geometry.Blocks), (sI e12.2.2.2.1.Geometry.Slots), (sI e12.2.2.2.1.Geometry.Gens), (sI e12.2.2.2.1.Top), (sI e12.2.2.2.1.High), (sI e12.2.2.2.1.Free), (sI e12.2.2.2.2.1), Seg.cell v15 o16.one]) (xr_loadS (ss := [(sI e12.2.2.1), (sI e12.2.2.2.1.Geometry.Blocks), (sI e12.2.2.2.1.Geometry.Slots), (sI e12.2.2.2.1.Geometry.Gens), (sI e12.2.2.2.1.Top), (sI e12.2.2.2.1.High), (sI e12.2.2.2.1.Free), (sI e12.2.2.2.2.1), Seg.cell v15 o16.one]) rfl ag110 sz110 rfl e2 (b5.segs 0 9 rfl)) rfl rfl rfl ?_
 refine ol_val (v := .int .i64 e12.1) (xr_move rfl e3) rfl rfl rfl ?_
 refine ol_val (v := .bool e12.2.1) (xr_move rfl e4) rfl rfl rfl ?_
 have f63 := off_ty b5 o16 (by decide)
 refine ol_op0 (opv_store (ss' := [(sI e12.2.2.1), (sI e12.2.2.2.1.Geometry.Blocks), (sI e12.2.2.2.1.Geometry.Slots), (sI e12.2.2.2.1.Geometry.Gens), (sI e12.2.2.2.1.Top), (sI e12.2.2.2.1.High), (sI e12.2.2.2.1.Free), (sI e12.2.2.2.2.1), Seg.cell v15 o16.one]) (xs := cellsOf [(sI e12.2.2.1), (sI e12.2.2.2.1.Geometry.Blocks), (sI e12.2.2.2.1.Geometry.Slots), (sI e12.2.2.2.1.Geometry.Gens), (sI e12.2.2.2.1.Top), (sI e12.2.2.2.1.High), (sI e12.2.2.2.1.Free), (sI e12.2.2.2.2.1), Seg.cell v15 o16.one]) rfl sz110 e2 rfl rfl (len_cellsOf _) (one_cellsOf _) b5 (Spl.segs _ 0 9 [(sI e12.2.2.1), (sI e12.2.2.2.1.Geometry.Blocks), (sI e12.2.2.2.1.Geometry.Slots), (sI e12.2.2.2.1.Geometry.Gens), (sI e12.2.2.2.1.Top), (sI e12.2.2.2.1.High), (sI e12.2.2.2.1.Free), (sI e12.2.2.2.2.1), Seg.cell v15 o16.one] rfl rfl)) rfl rfl ?_
 rintro _ w64 ⟨b5, q62⟩
 have b_0 := b_0.wr q62 n10
 have o16 := o16.wr q62 f63
 have fB := fB.wr q62 z7
 refine ol_val (v := .int .i64 e12.1) (xr_assign rfl rfl) rfl rfl rfl ?_
 refine ol_val (v := .bool e12.2.1) (xr_assign rfl rfl) rfl rfl rfl ?_
 refine ol_nil ?_
 refine cw_ret ?_
 repeat (first | with_reducible refine thn_r ?_ | with_reducible refine blk_r ?_)
 obtain rfl := Option.some.inj h
 refine fin_cell_tmp2 Try.results72 e2 ag110 sz110 b5 (by rfl) rfl rfl ?_
 exact ⟨_, rfl, v15, o16, rfl, fB⟩
def root_may.f (fu : Nat) (a0 : S_pmem_Device) : Option Int := ((pmem_Device_Lines.f fu a0).bind fun t1 => (if (decide (t1 < 2)) = true then some (2) else some (0)))
theorem root_may.ok (fu : Nat) (w : World) (a0 : S_pmem_Device) (G_0 : Nat) (V0_0 : Value) (R0_0 : Rd k_pmem_cell w V0_0 a0.cells) (V0_1 : Value) (R0_1 : Rd (kI .i64) w V0_1 a0.plan.list) (b_0 : Blk w G_0 139 [Seg.cell V0_0 R0_0.one, Seg.cell V0_1 R0_1.one, (sI a0.plan.at_), Seg.cell (.bool a0.off), Seg.cell (.bool a0.armed), (sI a0.left), (sI a0.steps)]) (r : Int) (h : root_may.f fu a0 = some r) :
  Calls Try.prog 119 (([(pt G_0 0)] : List Value).toArray) w (fun e w' => ∃ v, e = .returned v ∧ v = .int .i64 r ∧ Gr w w') := by
 unfold root_may.f at h
 have fB : Gr w w := Fr.refl _ _
 refine calls_cw Try.func119 rfl Try.ntmps119 rfl ?_
 refine cw_seq ?_
 refine cw_region ?_
 refine ol_val (v := .int .i64 0) (xr_assign rfl rfl) rfl rfl rfl ?_
 refine ol_nil ?_
 refine cw_seq ?_
 refine cw_block ?_
 refine cw_seq ?_
 refine cw_region ?_
 refine ol_val (v := (pt G_0 0)) (xr_move rfl rfl) rfl rfl rfl ?_
 refine ol_val (v := .bool false) (xr_eqP (b := false) rfl Try.underlying30 rfl rfl (by simp) (by simp)) rfl rfl rfl ?_
 refine ol_val (v := .bool false) (xr_assign rfl rfl) rfl rfl rfl ?_
 refine ol_nil ?_
 refine cw_condF rfl rfl ?_
 refine cw_seq ?_
 refine cw_region ?_
 refine ol_val (v := (pt G_0 0)) (xr_move rfl rfl) rfl rfl rfl ?_
 obtain ⟨t1, k2, h⟩ := bs h
 refine ol_op (opv_call rfl cal43 (ac rfl an) (pmem_Device_Lines.ok fu _ a0 G_0 V0_0 (R0_0.gr fB) V0_1 (R0_1.gr fB) b_0 _ k2)) rfl rfl rfl ?_
 rintro _ w4 ⟨rfl, q3⟩
 have b_0 := b_0.gr q3
 have fB := fB.gr q3
 refine ol_val (v := .bool (decide (t1 < 2))) (xr_lss rfl rfl rfl) rfl rfl rfl ?_
 refine ol_val (v := .bool (decide (t1 < 2))) (xr_assign rfl rfl) rfl rfl rfl ?_
 refine ol_nil ?_
 rcases is h with ⟨c5, h⟩ | ⟨c5, h⟩
 ·refine cw_condT rfl c5 ?_
  refine cw_seq ?_
  refine cw_region ?_
  refine ol_val (v := .int .i64 2) (xr_assign rfl rfl) rfl rfl rfl ?_
  refine ol_nil ?_
  refine cw_ret ?_
  repeat (first | with_reducible refine thn_r ?_ | with_reducible refine blk_r ?_)
  obtain rfl := Option.some.inj h
  refine fin_ret1 Try.results119 rfl ?_
  exact ⟨_, rfl, rfl, fB⟩
 refine cw_condF rfl c5 ?_
 refine cw_skip ?_
 refine blk_i ?_
 refine cw_seq ?_
 refine cw_region ?_
 refine ol_val (v := .int .i64 0) (xr_assign rfl rfl) rfl rfl rfl ?_
 refine ol_nil ?_
 refine cw_ret ?_
 repeat (first | with_reducible refine thn_r ?_ | with_reducible refine blk_r ?_)
 obtain rfl := Option.some.inj h
 refine fin_ret1 Try.results119 rfl ?_
 exact ⟨_, rfl, rfl, fB⟩
def block_Seal.f (fu : Nat) (a0 : Int) (a1 : Int) (a2 : List Int) : Option ((List Int) × Bool) := (if (if (decide (a0 < 1)) = true then true else (if (decide (a0 ≥ 256)) = true then true else (if (decide (a1 < 0)) = true then true else (if (decide (a1 ≥ 256)) = true then true else (decide ((List.length a2 : Int) > 56)))))) = true then some ([], false) else (if (4 : Int) < (List.length (List.replicate (Int.toNat 64) (0 : Int)) : Int) then (if (5 : Int) < (List.length (List.set (List.replicate (Int.toNat 64) (0 : Int)) (Int.toNat 4) (IntKind.u8.wrap a0)) : Int) then (if (8 : Int) ≤ (List.length (List.set (List.set (List.replicate (Int.toNat 64) (0 : Int)) (Int.toNat 4) (IntKind.u8.wrap a0)) (Int.toNat 5) (IntKind.u8.wrap a1)) : Int) then (if Int.toNat 8 ≤ List.length (List.set (List.set (List.replicate (Int.toNat 64) (0 : Int)) (Int.toNat 4) (IntKind.u8.wrap a0)) (Int.toNat 5) (IntKind.u8.wrap a1)) ∧ List.length (List.set (List.set (List.replicate (Int.toNat 64) (0 : Int)) (Int.toNat 4) (IntKind.u8.wrap a0)) (Int.toNat 5) (IntKind.u8.wrap a1)) ≤ List.length (List.set (List.set (List.replicate (Int.toNat 64) (0 : Int)) (Int.toNat 4) (IntKind.u8.wrap a0)) (Int.toNat 5) (IntKind.u8.wrap a1)) then (if (4 : Int) ≤ (List.length (splL (List.set (List.set (List.replicate (Int.toNat 64) (0 : Int)) (Int.toNat 4) (IntKind.u8.wrap a0)) (Int.toNat 5) (IntKind.u8.wrap a1)) (Int.toNat 8) (List.take (List.length (List.set (List.set (List.replicate (Int.toNat 64) (0 : Int)) (Int.toNat 4) (IntKind.u8.wrap a0)) (Int.toNat 5) (IntKind.u8.wrap a1)) - Int.toNat 8) a2)) : Int) then ((crc_Sum.f fu [(cut (splL (List.set (List.set (List.replicate (Int.toNat 64) (0 : Int)) (Int.toNat 4) (IntKind.u8.wrap a0)) (Int.toNat 5) (IntKind.u8.wrap a1)) (Int.toNat 8) (List.take (List.length (List.set (List.set (List.replicate (Int.toNat 64) (0 : Int)) (Int.toNat 4) (IntKind.u8.wrap a0)) (Int.toNat 5) (IntKind.u8.wrap a1)) - Int.toNat 8) a2)) 4 (List.length (splL (List.set (List.set (List.replicate (Int.toNat 64) (0 : Int)) (Int.toNat 4) (IntKind.u8.wrap a0)) (Int.toNat 5) (IntKind.u8.wrap a1)) (Int.toNat 8) (List.take (List.length (List.set (List.set (List.replicate (Int.toNat 64) (0 : Int)) (Int.toNat 4) (IntKind.u8.wrap a0)) (Int.toNat 5) (IntKind.u8.wrap a1)) - Int.toNat 8) a2)) : Int))]).bind fun t36 => ((octet_Lay.f fu (IntKind.u64.wrap t36) 4).bind fun t40 => some ((splL (splL (List.set (List.set (List.replicate (Int.toNat 64) (0 : Int)) (Int.toNat 4) (IntKind.u8.wrap a0)) (Int.toNat 5) (IntKind.u8.wrap a1)) (Int.toNat 8) (List.take (List.length (List.set (List.set (List.replicate (Int.toNat 64) (0 : Int)) (Int.toNat 4) (IntKind.u8.wrap a0)) (Int.toNat 5) (IntKind.u8.wrap a1)) - Int.toNat 8) a2)) 0 (List.take (List.length (splL (List.set (List.set (List.replicate (Int.toNat 64) (0 : Int)) (Int.toNat 4) (IntKind.u8.wrap a0)) (Int.toNat 5) (IntKind.u8.wrap a1)) (Int.toNat 8) (List.take (List.length (List.set (List.set (List.replicate (Int.toNat 64) (0 : Int)) (Int.toNat 4) (IntKind.u8.wrap a0)) (Int.toNat 5) (IntKind.u8.wrap a1)) - Int.toNat 8) a2))) t40)), true))) else none) else none) else none) else none) else none))
theorem block_Seal.ok (fu : Nat) (w : World) (a0 : Int) (a1 : Int) (a2 : List Int) (V2_0 : Value) (R2_0 : Rd (kI .u8) w V2_0 a2) (r : (List Int) × Bool) (h : block_Seal.f fu a0 a1 a2 = some r) :
  Calls Try.prog 140 (([.int .i64 a0, .int .i64 a1, V2_0] : List Value).toArray) w (fun e w' => ∃ v, e = .returned v ∧ ∃ u1 : Value, ∃ o2 : Own (kI .u8) 5 w' w.heap.size u1 r.1, v = .tuple #[u1, .bool r.2] ∧ Gr w w') := by
 unfold block_Seal.f at h
 have fB : Gr w w := Fr.refl _ _
 refine calls_cw Try.func140 rfl Try.ntmps140 rfl ?_
 refine cw_seq ?_
 refine cw_region ?_
 refine ol_val (v := .slice none 0 0) (xr_assign rfl rfl) rfl rfl rfl ?_
 refine ol_val (v := .bool false) (xr_assign rfl rfl) rfl rfl rfl ?_
 refine ol_nil ?_
 refine cw_seq ?_
 refine cw_seq ?_
 refine cw_mid (fun ρ' w' => ρ' 0 = .int .i64 a0 ∧ ρ' 1 = .int .i64 a1 ∧ ρ' 2 = V2_0 ∧ ρ' 27 = .bool (if (decide (a0 < 1)) = true then true else (if (decide (a0 ≥ 256)) = true then true else (if (decide (a1 < 0)) = true then true else (if (decide (a1 ≥ 256)) = true then true else (decide ((List.length a2 : Int) > 56)))))) ∧ w = w') ?_ ?_
 ·skip
  refine cw_region ?_
  refine ol_val (v := .int .i64 a0) (xr_move rfl rfl) rfl rfl rfl ?_
  refine ol_val (v := .bool (decide (a0 < 1))) (xr_lss rfl rfl rfl) rfl rfl rfl ?_
  refine ol_val (v := .bool (decide (a0 < 1))) (xr_move rfl rfl) rfl rfl rfl ?_
  rcases bt (decide (a0 < 1)) with c4 | c4
  ·skip
   refine ol_gskip rfl rfl rfl rfl rfl c4 ?_
   refine ol_gskip rfl rfl rfl rfl rfl c4 ?_
   refine ol_val (v := .bool true) (xr_pickT rfl rfl c4 rfl) rfl rfl rfl ?_
   refine ol_val (v := .bool true) (xr_move rfl rfl) rfl rfl rfl ?_
   refine ol_gskip rfl rfl rfl rfl rfl rfl ?_
   refine ol_gskip rfl rfl rfl rfl rfl rfl ?_
   refine ol_val (v := .bool true) (xr_pickT rfl rfl rfl rfl) rfl rfl rfl ?_
   refine ol_val (v := .bool true) (xr_move rfl rfl) rfl rfl rfl ?_
   refine ol_gskip rfl rfl rfl rfl rfl rfl ?_
   refine ol_gskip rfl rfl rfl rfl rfl rfl ?_
   refine ol_val (v := .bool true) (xr_pickT rfl rfl rfl rfl) rfl rfl rfl ?_
   refine ol_val (v := .bool true) (xr_move rfl rfl) rfl rfl rfl ?_
   refine ol_gskip rfl rfl rfl rfl rfl rfl ?_
   refine ol_gskip rfl rfl rfl rfl rfl rfl ?_
   refine ol_gskip rfl rfl rfl rfl rfl rfl ?_
   refine ol_val (v := .bool true) (xr_pickT rfl rfl rfl rfl) rfl rfl rfl ?_
   refine ol_nil ?_
   refine thn_i ?_
   exact ⟨rfl, rfl, rfl, (rfl).trans (congrArg (fun z => (.bool z : Value)) (show true = (if (decide (a0 < 1)) = true then true else (if (decide (a0 ≥ 256)) = true then true else (if (decide (a1 < 0)) = true then true else (if (decide (a1 ≥ 256)) = true then true else (decide ((List.length a2 : Int) > 56)))))) from by rw [ite_t c4])), rfl⟩
  refine ol_gval (v := .int .i64 a0) (xr_move rfl rfl) rfl rfl rfl rfl rfl c4 ?_
  refine ol_gval (v := .bool (decide (a0 ≥ 256))) (xr_geq rfl rfl rfl) rfl rfl rfl rfl rfl c4 ?_
  refine ol_val (v := .bool (decide (a0 ≥ 256))) (xr_pickF rfl rfl c4 rfl) rfl rfl rfl ?_
  refine ol_val (v := .bool (decide (a0 ≥ 256))) (xr_move rfl rfl) rfl rfl rfl ?_
  rcases bt (decide (a0 ≥ 256)) with c5 | c5
  ·skip
   refine ol_gskip rfl rfl rfl rfl rfl c5 ?_
   refine ol_gskip rfl rfl rfl rfl rfl c5 ?_
   refine ol_val (v := .bool true) (xr_pickT rfl rfl c5 rfl) rfl rfl rfl ?_
   refine ol_val (v := .bool true) (xr_move rfl rfl) rfl rfl rfl ?_
   refine ol_gskip rfl rfl rfl rfl rfl rfl ?_
   refine ol_gskip rfl rfl rfl rfl rfl rfl ?_
   refine ol_val (v := .bool true) (xr_pickT rfl rfl rfl rfl) rfl rfl rfl ?_
   refine ol_val (v := .bool true) (xr_move rfl rfl) rfl rfl rfl ?_
   refine ol_gskip rfl rfl rfl rfl rfl rfl ?_
   refine ol_gskip rfl rfl rfl rfl rfl rfl ?_
   refine ol_gskip rfl rfl rfl rfl rfl rfl ?_
   refine ol_val (v := .bool true) (xr_pickT rfl rfl rfl rfl) rfl rfl rfl ?_
   refine ol_nil ?_
   refine thn_i ?_
   exact ⟨rfl, rfl, rfl, (rfl).trans (congrArg (fun z => (.bool z : Value)) (show true = (if (decide (a0 < 1)) = true then true else (if (decide (a0 ≥ 256)) = true then true else (if (decide (a1 < 0)) = true then true else (if (decide (a1 ≥ 256)) = true then true else (decide ((List.length a2 : Int) > 56)))))) from by rw [ite_f c4, ite_t c5])), rfl⟩
  refine ol_gval (v := .int .i64 a1) (xr_move rfl rfl) rfl rfl rfl rfl rfl c5 ?_
  refine ol_gval (v := .bool (decide (a1 < 0))) (xr_lss rfl rfl rfl) rfl rfl rfl rfl rfl c5 ?_
  refine ol_val (v := .bool (decide (a1 < 0))) (xr_pickF rfl rfl c5 rfl) rfl rfl rfl ?_
  refine ol_val (v := .bool (decide (a1 < 0))) (xr_move rfl rfl) rfl rfl rfl ?_
  rcases bt (decide (a1 < 0)) with c6 | c6
  ·skip
   refine ol_gskip rfl rfl rfl rfl rfl c6 ?_
   refine ol_gskip rfl rfl rfl rfl rfl c6 ?_
   refine ol_val (v := .bool true) (xr_pickT rfl rfl c6 rfl) rfl rfl rfl ?_
   refine ol_val (v := .bool true) (xr_move rfl rfl) rfl rfl rfl ?_
   refine ol_gskip rfl rfl rfl rfl rfl rfl ?_
   refine ol_gskip rfl rfl rfl rfl rfl rfl ?_
   refine ol_gskip rfl rfl rfl rfl rfl rfl ?_
   refine ol_val (v := .bool true) (xr_pickT rfl rfl rfl rfl) rfl rfl rfl ?_
   refine ol_nil ?_
   refine thn_i ?_
   exact ⟨rfl, rfl, rfl, (rfl).trans (congrArg (fun z => (.bool z : Value)) (show true = (if (decide (a0 < 1)) = true then true else (if (decide (a0 ≥ 256)) = true then true else (if (decide (a1 < 0)) = true then true else (if (decide (a1 ≥ 256)) = true then true else (decide ((List.length a2 : Int) > 56)))))) from by rw [ite_f c4, ite_f c5, ite_t c6])), rfl⟩
  refine ol_gval (v := .int .i64 a1) (xr_move rfl rfl) rfl rfl rfl rfl rfl c6 ?_
  refine ol_gval (v := .bool (decide (a1 ≥ 256))) (xr_geq rfl rfl rfl) rfl rfl rfl rfl rfl c6 ?_
  refine ol_val (v := .bool (decide (a1 ≥ 256))) (xr_pickF rfl rfl c6 rfl) rfl rfl rfl ?_
  refine ol_val (v := .bool (decide (a1 ≥ 256))) (xr_move rfl rfl) rfl rfl rfl ?_
  rcases bt (decide (a1 ≥ 256)) with c7 | c7
  ·skip
   refine ol_gskip rfl rfl rfl rfl rfl c7 ?_
   refine ol_gskip rfl rfl rfl rfl rfl c7 ?_
   refine ol_gskip rfl rfl rfl rfl rfl c7 ?_
   refine ol_val (v := .bool true) (xr_pickT rfl rfl c7 rfl) rfl rfl rfl ?_
   refine ol_nil ?_
   refine thn_i ?_
   exact ⟨rfl, rfl, rfl, (rfl).trans (congrArg (fun z => (.bool z : Value)) (show true = (if (decide (a0 < 1)) = true then true else (if (decide (a0 ≥ 256)) = true then true else (if (decide (a1 < 0)) = true then true else (if (decide (a1 ≥ 256)) = true then true else (decide ((List.length a2 : Int) > 56)))))) from by rw [ite_f c4, ite_f c5, ite_f c6, ite_t c7])), rfl⟩
  refine ol_gval (v := V2_0) (xr_move rfl rfl) rfl rfl rfl rfl rfl c7 ?_
  refine ol_gval (v := .int .i64 (List.length a2 : Int)) (xr_lenR rfl Try.underlying43 rfl (R2_0.gr fB)) rfl rfl rfl rfl rfl c7 ?_
  refine ol_gval (v := .bool (decide ((List.length a2 : Int) > 56))) (xr_gtr rfl rfl rfl) rfl rfl rfl rfl rfl c7 ?_
  refine ol_val (v := .bool (decide ((List.length a2 : Int) > 56))) (xr_pickF rfl rfl c7 rfl) rfl rfl rfl ?_
  refine ol_nil ?_
  refine thn_i ?_
  exact ⟨rfl, rfl, rfl, (rfl).trans (congrArg (fun z => (.bool z : Value)) (show (decide ((List.length a2 : Int) > 56)) = (if (decide (a0 < 1)) = true then true else (if (decide (a0 ≥ 256)) = true then true else (if (decide (a1 < 0)) = true then true else (if (decide (a1 ≥ 256)) = true then true else (decide ((List.length a2 : Int) > 56)))))) from by rw [ite_f c4, ite_f c5, ite_f c6, ite_f c7])), rfl⟩
 rintro ρ8 _ ⟨e0, e1, e2, e27, rfl⟩
 rcases is h with ⟨c9, h⟩ | ⟨c9, h⟩
 ·refine cw_condT e27 c9 ?_
  refine cw_seq ?_
  refine cw_region ?_
  refine ol_val (v := .slice none 0 0) (xr_assign rfl rfl) rfl rfl rfl ?_
  refine ol_val (v := .bool false) (xr_assign rfl rfl) rfl rfl rfl ?_
  refine ol_nil ?_
  refine cw_ret ?_
  repeat (first | with_reducible refine thn_r ?_ | with_reducible refine blk_r ?_)
  obtain rfl := Option.some.inj h
  refine fin_ret2 Try.results140 rfl rfl ?_
  exact ⟨_, rfl, (.slice none 0 0), Own.nil _ _ _ _, rfl, fB⟩
 refine cw_condF e27 c9 ?_
 refine cw_skip ?_
 refine cw_seq ?_
 refine cw_region ?_
 refine ol_op (opv_make (K := (kI .u8)) (z := (0 : Int)) rfl Try.underlying43 el5 rfl rfl rfl (by decide) (by decide) rfl fB.size) rfl rfl rfl ?_
 rintro v10 w15 ⟨o12, q11, z13⟩
 have fB := fB.gr q11
 refine ol_val (v := v10) (xr_assign rfl rfl) rfl rfl rfl ?_
 refine ol_nil ?_
 refine cw_seq ?_
 refine cw_region ?_
 refine ol_val (v := v10) (xr_move rfl rfl) rfl rfl rfl ?_
 refine ol_val (v := v10) (xr_move rfl rfl) rfl rfl rfl ?_
 refine ol_val (v := .int .i64 a0) (xr_move rfl e0) rfl rfl rfl ?_
 refine ol_val (v := .int .u8 (IntKind.u8.wrap a0)) (xr_conv rfl Try.underlying3 Try.underlying5 rfl) rfl rfl rfl ?_
 refine ol_val (v := .int .i64 a1) (xr_move rfl e1) rfl rfl rfl ?_
 refine ol_val (v := .int .u8 (IntKind.u8.wrap a1)) (xr_conv rfl Try.underlying3 Try.underlying5 rfl) rfl rfl rfl ?_
 obtain ⟨g16, h⟩ := gs h
 refine ol_val (v := (pt ((sb v10)) (so v10 + Int.toNat 4 * 1))) (xr_indexR (K := (kI .u8)) (v := v10) rfl Try.underlying43 sz5 rfl o12.rd rfl (by decide) g16) rfl rfl rfl ?_
 have f18 := o12.geO
 refine ol_op0 (opv_storeRow (z := (IntKind.u8.wrap a0)) (xs := cellsOf [Seg.cell (.int .u8 (IntKind.u8.wrap a0))]) rfl sz5 rfl rfl rfl (len_cellsOf _) (one_cellsOf _) o12 (by decide) g16 (Spl.whole ((Kd.len _ _).trans (Kd.len _ _).symm)) rfl) rfl rfl ?_
 rintro _ w19 ⟨o12, q17⟩
 have fB := fB.wrO q17 f18
 obtain ⟨g20, h⟩ := gs h
 refine ol_val (v := (pt ((sb v10)) (so v10 + Int.toNat 5 * 1))) (xr_indexR (K := (kI .u8)) (v := v10) rfl Try.underlying43 sz5 rfl o12.rd rfl (by decide) g20) rfl rfl rfl ?_
 have f22 := o12.geO
 refine ol_op0 (opv_storeRow (z := (IntKind.u8.wrap a1)) (xs := cellsOf [Seg.cell (.int .u8 (IntKind.u8.wrap a1))]) rfl sz5 rfl rfl rfl (len_cellsOf _) (one_cellsOf _) o12 (by decide) g20 (Spl.whole ((Kd.len _ _).trans (Kd.len _ _).symm)) rfl) rfl rfl ?_
 rintro _ w23 ⟨o12, q21⟩
 have fB := fB.wrO q21 f22
 refine ol_nil ?_
 refine cw_seq ?_
 refine cw_region ?_
 refine ol_val (v := v10) (xr_move rfl rfl) rfl rfl rfl ?_
 obtain ⟨g25, h⟩ := gs h
 refine ol_val (v := subv 1 v10 (Int.toNat 8) (List.length (List.set (List.set (List.replicate (Int.toNat 64) (0 : Int)) (Int.toNat 4) (IntKind.u8.wrap a0)) (Int.toNat 5) (IntKind.u8.wrap a1)))) (xr_slice_l (K := (kI .u8)) (v := v10) rfl Try.underlying43 sz5 rfl o12.rd rfl (by decide) g25) rfl rfl rfl ?_
 have r24 : Rd (kI .u8) w23 (subv 1 v10 (Int.toNat 8) (List.length (List.set (List.set (List.replicate (Int.toNat 64) (0 : Int)) (Int.toNat 4) (IntKind.u8.wrap a0)) (Int.toNat 5) (IntKind.u8.wrap a1)))) (cut (List.set (List.set (List.replicate (Int.toNat 64) (0 : Int)) (Int.toNat 4) (IntKind.u8.wrap a0)) (Int.toNat 5) (IntKind.u8.wrap a1)) 8 (List.length (List.set (List.set (List.replicate (Int.toNat 64) (0 : Int)) (Int.toNat 4) (IntKind.u8.wrap a0)) (Int.toNat 5) (IntKind.u8.wrap a1)) : Int)) := o12.rd.cut (lo := 8) (hi := (List.length (List.set (List.set (List.replicate (Int.toNat 64) (0 : Int)) (Int.toNat 4) (IntKind.u8.wrap a0)) (Int.toNat 5) (IntKind.u8.wrap a1)) : Int)) (by decide) g25 (Int.le_refl _)
 refine ol_val (v := V2_0) (xr_move rfl e2) rfl rfl rfl ?_
 obtain ⟨g27, h⟩ := gs h
 have f28 := o12.geO
 refine ol_op (opv_copyCut rfl Try.underlying43 sz5 rfl rfl rfl rfl o12 g27.1 g27.2 (R2_0.gr fB)) rfl rfl rfl ?_
 rintro _ w29 ⟨rfl, o12, q26⟩
 have fB := fB.wrO q26 f28
 refine ol_nil ?_
 refine cw_seq ?_
 refine cw_region ?_
 refine ol_val (v := v10) (xr_move rfl rfl) rfl rfl rfl ?_
 refine ol_val (v := v10) (xr_move rfl rfl) rfl rfl rfl ?_
 obtain ⟨g31, h⟩ := gs h
 refine ol_val (v := subv 1 v10 (Int.toNat 4) (List.length (splL (List.set (List.set (List.replicate (Int.toNat 64) (0 : Int)) (Int.toNat 4) (IntKind.u8.wrap a0)) (Int.toNat 5) (IntKind.u8.wrap a1)) (Int.toNat 8) (List.take (List.length (List.set (List.set (List.replicate (Int.toNat 64) (0 : Int)) (Int.toNat 4) (IntKind.u8.wrap a0)) (Int.toNat 5) (IntKind.u8.wrap a1)) - Int.toNat 8) a2)))) (xr_slice_l (K := (kI .u8)) (v := v10) rfl Try.underlying43 sz5 rfl o12.rd rfl (by decide) g31) rfl rfl rfl ?_
 have r30 : Rd (kI .u8) w29 (subv 1 v10 (Int.toNat 4) (List.length (splL (List.set (List.set (List.replicate (Int.toNat 64) (0 : Int)) (Int.toNat 4) (IntKind.u8.wrap a0)) (Int.toNat 5) (IntKind.u8.wrap a1)) (Int.toNat 8) (List.take (List.length (List.set (List.set (List.replicate (Int.toNat 64) (0 : Int)) (Int.toNat 4) (IntKind.u8.wrap a0)) (Int.toNat 5) (IntKind.u8.wrap a1)) - Int.toNat 8) a2)))) (cut (splL (List.set (List.set (List.replicate (Int.toNat 64) (0 : Int)) (Int.toNat 4) (IntKind.u8.wrap a0)) (Int.toNat 5) (IntKind.u8.wrap a1)) (Int.toNat 8) (List.take (List.length (List.set (List.set (List.replicate (Int.toNat 64) (0 : Int)) (Int.toNat 4) (IntKind.u8.wrap a0)) (Int.toNat 5) (IntKind.u8.wrap a1)) - Int.toNat 8) a2)) 4 (List.length (splL (List.set (List.set (List.replicate (Int.toNat 64) (0 : Int)) (Int.toNat 4) (IntKind.u8.wrap a0)) (Int.toNat 5) (IntKind.u8.wrap a1)) (Int.toNat 8) (List.take (List.length (List.set (List.set (List.replicate (Int.toNat 64) (0 : Int)) (Int.toNat 4) (IntKind.u8.wrap a0)) (Int.toNat 5) (IntKind.u8.wrap a1)) - Int.toNat 8) a2)) : Int)) := o12.rd.cut (lo := 4) (hi := (List.length (splL (List.set (List.set (List.replicate (Int.toNat 64) (0 : Int)) (Int.toNat 4) (IntKind.u8.wrap a0)) (Int.toNat 5) (IntKind.u8.wrap a1)) (Int.toNat 8) (List.take (List.length (List.set (List.set (List.replicate (Int.toNat 64) (0 : Int)) (Int.toNat 4) (IntKind.u8.wrap a0)) (Int.toNat 5) (IntKind.u8.wrap a1)) - Int.toNat 8) a2)) : Int)) (by decide) g31 (Int.le_refl _)
 refine ol_op (opv_build1 rfl Try.underlying100 el43 rfl r30 rfl) rfl rfl rfl ?_
 rintro v32 w35 ⟨r34, q33⟩
 have o12 := o12.gr q33
 have fB := fB.gr q33
 obtain ⟨t36, k37, h⟩ := bs h
 refine ol_op (opv_call rfl cal149 (ac rfl an) (crc_Sum.ok fu _ [(cut (splL (List.set (List.set (List.replicate (Int.toNat 64) (0 : Int)) (Int.toNat 4) (IntKind.u8.wrap a0)) (Int.toNat 5) (IntKind.u8.wrap a1)) (Int.toNat 8) (List.take (List.length (List.set (List.set (List.replicate (Int.toNat 64) (0 : Int)) (Int.toNat 4) (IntKind.u8.wrap a0)) (Int.toNat 5) (IntKind.u8.wrap a1)) - Int.toNat 8) a2)) 4 (List.length (splL (List.set (List.set (List.replicate (Int.toNat 64) (0 : Int)) (Int.toNat 4) (IntKind.u8.wrap a0)) (Int.toNat 5) (IntKind.u8.wrap a1)) (Int.toNat 8) (List.take (List.length (List.set (List.set (List.replicate (Int.toNat 64) (0 : Int)) (Int.toNat 4) (IntKind.u8.wrap a0)) (Int.toNat 5) (IntKind.u8.wrap a1)) - Int.toNat 8) a2)) : Int))] v32 (r34) _ k37)) rfl rfl rfl ?_
 rintro _ w39 ⟨rfl, q38⟩
 have o12 := o12.gr q38
 have fB := fB.gr q38
 refine ol_val (v := .int .u64 (IntKind.u64.wrap t36)) (xr_conv rfl Try.underlying191 Try.underlying22 rfl) rfl rfl rfl ?_
 obtain ⟨t40, k41, h⟩ := bs h
 refine ol_op (opv_call rfl cal128 (ac rfl (ac rfl an)) (octet_Lay.ok fu _ (IntKind.u64.wrap t36) 4 _ k41)) rfl rfl rfl ?_
 rintro u42 w46 ⟨_, o43, rfl, q45⟩
 have a47 := OffV.call o12 o43
 have o43 := Own.base o43 fB.size
 have o12 := o12.gr q45
 have fB := fB.gr q45
 have f49 := o12.geO
 refine ol_op (opv_copyRow rfl Try.underlying43 sz5 rfl rfl rfl o12 o43.rd) rfl rfl rfl ?_
 rintro _ w50 ⟨rfl, o12, q48⟩
 have fB := fB.wrO q48 f49
 refine ol_nil ?_
 refine cw_seq ?_
 refine cw_region ?_
 refine ol_val (v := v10) (xr_move rfl rfl) rfl rfl rfl ?_
 refine ol_val (v := v10) (xr_assign rfl rfl) rfl rfl rfl ?_
 refine ol_val (v := .bool true) (xr_assign rfl rfl) rfl rfl rfl ?_
 refine ol_nil ?_
 refine cw_ret ?_
 repeat (first | with_reducible refine thn_r ?_ | with_reducible refine blk_r ?_)
 obtain rfl := Option.some.inj h
 refine fin_ret2 Try.results140 rfl rfl ?_
 exact ⟨_, rfl, v10, o12, rfl, fB⟩
def super_Put.s0 (fu : Nat) (a0 : S_api_Super) : ((List Int) × Int) → Option (Sum (List Int) ((List Int) × Int)) := fun s28 => (if (decide (s28.2 < 5)) = true then (if 0 ≤ s28.2 ∧ s28.2 < 5 then ((octet_Lay.f fu (IntKind.u64.wrap (Arr.get (Arr.set (Arr.set (Arr.set (Arr.set (Arr.set (Arr.rep 5 (0 : Int)) 0 a0.Tickets.Geometry.Blocks) 1 a0.Tickets.Geometry.Slots) 2 a0.Tickets.Geometry.Gens) 3 a0.Tickets.High) 4 a0.Tickets.Free) s28.2)) 4).bind fun t43 => (if List.length s28.1 + List.length t43 ≤ LIM then some (Sum.inr ((s28.1 ++ t43), (IntKind.i64.wrap (s28.2 + 1)))) else none)) else none) else some (Sum.inl (s28.1)))
def super_Put.s1 (fu : Nat) (a0 : S_api_Super) : ((List Int) × Int) → Option (Sum (List Int) ((List Int) × Int)) := fun s78 => (if (decide (s78.2 < (List.length ([a0.Tickets.Top, a0.Dir] ++ a0.Charts) : Int))) = true then (if 0 ≤ s78.2 ∧ s78.2 < (List.length ([a0.Tickets.Top, a0.Dir] ++ a0.Charts) : Int) then ((octet_Lay.f fu (IntKind.u64.wrap (ix ([a0.Tickets.Top, a0.Dir] ++ a0.Charts) s78.2)) 2).bind fun t93 => (if List.length s78.1 + List.length t93 ≤ LIM then some (Sum.inr ((s78.1 ++ t93), (IntKind.i64.wrap (s78.2 + 1)))) else none)) else none) else some (Sum.inl (s78.1)))
def super_Put.f (fu : Nat) (a0 : S_api_Super) : Option ((List Int) × Bool) := ((super_Right.f fu a0).bind fun t10 => (if (!t10) = true then some ([], false) else ((octet_Octets.f fu [(IntKind.u64.wrap a0.Epoch)]).bind fun t21 => ((loopM (super_Put.s0 fu a0) fu (t21, 0)).bind fun e29 => (if List.length [a0.Tickets.Top, a0.Dir] + List.length a0.Charts ≤ LIM then ((loopM (super_Put.s1 fu a0) fu (e29, 0)).bind fun e79 => ((block_Seal.f fu 7 (List.length a0.Charts : Int) e79).bind fun t113 => some (t113.1, t113.2))) else none)))))
theorem super_Put.ok (fu : Nat) (w : World) (a0 : S_api_Super) (V0_0 : Value) (R0_0 : Rd (kI .i64) w V0_0 a0.Charts) (r : (List Int) × Bool) (h : super_Put.f fu a0 = some r) :
  Calls Try.prog 120 (([aggV [(sI a0.Epoch), (sI a0.Tickets.Geometry.Blocks), (sI a0.Tickets.Geometry.Slots), (sI a0.Tickets.Geometry.Gens), (sI a0.Tickets.Top), (sI a0.Tickets.High), (sI a0.Tickets.Free), (sI a0.Dir), Seg.cell V0_0 R0_0.one]] : List Value).toArray) w (fun e w' => ∃ v, e = .returned v ∧ ∃ u1 : Value, ∃ o2 : Own (kI .u8) 5 w' w.heap.size u1 r.1, v = .tuple #[u1, .bool r.2] ∧ Gr w w') := by
 unfold super_Put.f at h
 have fB : Gr w w := Fr.refl _ _
 refine calls_cw Try.func120 rfl Try.ntmps120 rfl ?_
 refine cw_seq ?_
 refine cw_region ?_
 refine ol_op (opv_box (ss := [(sI a0.Epoch), (sI a0.Tickets.Geometry.Blocks), (sI a0.Tickets.Geometry.Slots), (sI a0.Tickets.Geometry.Gens), (sI a0.Tickets.Top), (sI a0.Tickets.High), (sI a0.Tickets.Free), (sI a0.Dir), Seg.cell V0_0 R0_0.one]) rfl rfl rfl) rfl rfl rfl ?_
 rintro _ w9 ⟨G4, rfl, b5, q6, z7⟩
 have z7 := Nat.le_trans fB.size z7
 have fB := fB.gr q6
 refine ol_val (v := .slice none 0 0) (xr_assign rfl rfl) rfl rfl rfl ?_
 refine ol_val (v := .bool false) (xr_assign rfl rfl) rfl rfl rfl ?_
 refine ol_nil ?_
 refine cw_seq ?_
 refine cw_seq ?_
 refine cw_region ?_
 refine ol_val (v := aggV [(sI a0.Epoch), (sI a0.Tickets.Geometry.Blocks), (sI a0.Tickets.Geometry.Slots), (sI a0.Tickets.Geometry.Gens), (sI a0.Tickets.Top), (sI a0.Tickets.High), (sI a0.Tickets.Free), (sI a0.Dir), Seg.cell V0_0 R0_0.one]) (xr_loadS (ss := [(sI a0.Epoch), (sI a0.Tickets.Geometry.Blocks), (sI a0.Tickets.Geometry.Slots), (sI a0.Tickets.Geometry.Gens), (sI a0.Tickets.Top), (sI a0.Tickets.High), (sI a0.Tickets.Free), (sI a0.Dir), Seg.cell V0_0 R0_0.one]) rfl ag110 sz110 rfl rfl (b5.segs 0 9 rfl)) rfl rfl rfl ?_
 obtain ⟨t10, k11, h⟩ := bs h
 refine ol_op (opv_call rfl cal132 (ac rfl an) (super_Right.ok fu _ a0 V0_0 (R0_0.gr fB) _ k11)) rfl rfl rfl ?_
 rintro _ w13 ⟨rfl, q12⟩
 have b5 := b5.gr q12
 have fB := fB.gr q12
 refine ol_val (v := .bool (!t10)) (xr_not rfl rfl) rfl rfl rfl ?_
 refine ol_nil ?_
 rcases is h with ⟨c14, h⟩ | ⟨c14, h⟩
 ·refine cw_condT rfl c14 ?_
  refine cw_seq ?_
  refine cw_region ?_
  refine ol_val (v := .slice none 0 0) (xr_assign rfl rfl) rfl rfl rfl ?_
  refine ol_val (v := .bool false) (xr_assign rfl rfl) rfl rfl rfl ?_
  refine ol_nil ?_
  refine cw_ret ?_
  repeat (first | with_reducible refine thn_r ?_ | with_reducible refine blk_r ?_)
  obtain rfl := Option.some.inj h
  refine fin_ret2 Try.results120 rfl rfl ?_
  exact ⟨_, rfl, (.slice none 0 0), Own.nil _ _ _ _, rfl, fB⟩
 refine cw_condF rfl c14 ?_
 refine cw_skip ?_
 refine cw_seq ?_
 refine cw_region ?_
 refine ol_val (v := (pt G4 0)) (xr_fieldAddr (p := 0) (q := 0) rfl fl110_0 rfl) rfl rfl rfl ?_
 refine ol_val (v := .int .i64 a0.Epoch) (xr_load1 (v := .int .i64 a0.Epoch) rfl ag3 rfl (b5.seg 0 rfl rfl)) rfl rfl rfl ?_
 refine ol_val (v := .int .u64 (IntKind.u64.wrap a0.Epoch)) (xr_conv rfl Try.underlying3 Try.underlying22 rfl) rfl rfl rfl ?_
 refine ol_op (opv_buildSlice (K := (kI .u64)) (xs := [(IntKind.u64.wrap a0.Epoch)]) (vals := [.int .u64 (IntKind.u64.wrap a0.Epoch)]) rfl Try.underlying46 el22 rfl rfl ⟨rfl, rfl, trivial⟩ rfl rfl rfl fB.size) rfl rfl rfl ?_
 rintro v15 w20 ⟨o17, q16, z18⟩
 have b5 := b5.gr q16
 have fB := fB.gr q16
 obtain ⟨t21, k22, h⟩ := bs h
 refine ol_op (opv_call rfl cal104 (ac rfl an) (octet_Octets.ok fu _ [(IntKind.u64.wrap a0.Epoch)] v15 (o17.rd) _ k22)) rfl rfl rfl ?_
 rintro u23 w27 ⟨_, o24, rfl, q26⟩
 have o24 := Own.base o24 fB.size
 have b5 := b5.gr q26
 have fB := fB.gr q26
 refine ol_val (v := u23) (xr_assign rfl rfl) rfl rfl rfl ?_
 refine ol_nil ?_
 refine cw_seq ?_
 refine cw_seq ?_
 refine cw_region ?_
 refine ol_val (v := (pt G4 1)) (xr_fieldAddr (p := 0) (q := 1) rfl fl110_1 rfl) rfl rfl rfl ?_
 refine ol_val (v := (pt G4 1)) (xr_fieldAddr (p := 1) (q := 0) rfl fl108_0 rfl) rfl rfl rfl ?_
 refine ol_val (v := (pt G4 1)) (xr_fieldAddr (p := 1) (q := 0) rfl fl106_0 rfl) rfl rfl rfl ?_
 refine ol_val (v := .int .i64 a0.Tickets.Geometry.Blocks) (xr_load1 (v := .int .i64 a0.Tickets.Geometry.Blocks) rfl ag3 rfl (b5.seg 1 rfl rfl)) rfl rfl rfl ?_
 refine ol_val (v := (pt G4 1)) (xr_fieldAddr (p := 0) (q := 1) rfl fl110_1 rfl) rfl rfl rfl ?_
 refine ol_val (v := (pt G4 1)) (xr_fieldAddr (p := 1) (q := 0) rfl fl108_0 rfl) rfl rfl rfl ?_
 refine ol_val (v := (pt G4 2)) (xr_fieldAddr (p := 1) (q := 1) rfl fl106_1 rfl) rfl rfl rfl ?_
 refine ol_val (v := .int .i64 a0.Tickets.Geometry.Slots) (xr_load1 (v := .int .i64 a0.Tickets.Geometry.Slots) rfl ag3 rfl (b5.seg 2 rfl rfl)) rfl rfl rfl ?_
 refine ol_val (v := (pt G4 1)) (xr_fieldAddr (p := 0) (q := 1) rfl fl110_1 rfl) rfl rfl rfl ?_
 refine ol_val (v := (pt G4 1)) (xr_fieldAddr (p := 1) (q := 0) rfl fl108_0 rfl) rfl rfl rfl ?_
 refine ol_val (v := (pt G4 3)) (xr_fieldAddr (p := 1) (q := 2) rfl fl106_2 rfl) rfl rfl rfl ?_
 refine ol_val (v := .int .i64 a0.Tickets.Geometry.Gens) (xr_load1 (v := .int .i64 a0.Tickets.Geometry.Gens) rfl ag3 rfl (b5.seg 3 rfl rfl)) rfl rfl rfl ?_
 refine ol_val (v := (pt G4 1)) (xr_fieldAddr (p := 0) (q := 1) rfl fl110_1 rfl) rfl rfl rfl ?_
 refine ol_val (v := (pt G4 5)) (xr_fieldAddr (p := 1) (q := 4) rfl fl108_2 rfl) rfl rfl rfl ?_
 refine ol_val (v := .int .i64 a0.Tickets.High) (xr_load1 (v := .int .i64 a0.Tickets.High) rfl ag3 rfl (b5.seg 5 rfl rfl)) rfl rfl rfl ?_
 refine ol_val (v := (pt G4 1)) (xr_fieldAddr (p := 0) (q := 1) rfl fl110_1 rfl) rfl rfl rfl ?_
 refine ol_val (v := (pt G4 6)) (xr_fieldAddr (p := 1) (q := 5) rfl fl108_3 rfl) rfl rfl rfl ?_
 refine ol_val (v := .int .i64 a0.Tickets.Free) (xr_load1 (v := .int .i64 a0.Tickets.Free) rfl ag3 rfl (b5.seg 6 rfl rfl)) rfl rfl rfl ?_
 refine ol_val (v := aggV [Kd.seg (kA 5 (kI .i64)) (Arr.set (Arr.set (Arr.set (Arr.set (Arr.set (Arr.rep 5 (0 : Int)) 0 a0.Tickets.Geometry.Blocks) 1 a0.Tickets.Geometry.Slots) 2 a0.Tickets.Geometry.Gens) 3 a0.Tickets.High) 4 a0.Tickets.Free)]) (xr_buildA (vals := [(0, .int .i64 a0.Tickets.Geometry.Blocks), (1, .int .i64 a0.Tickets.Geometry.Slots), (2, .int .i64 a0.Tickets.Geometry.Gens), (3, .int .i64 a0.Tickets.High), (4, .int .i64 a0.Tickets.Free)]) (res := [Kd.seg (kA 5 (kI .i64)) (Arr.set (Arr.set (Arr.set (Arr.set (Arr.set (Arr.rep 5 (0 : Int)) 0 a0.Tickets.Geometry.Blocks) 1 a0.Tickets.Geometry.Slots) 2 a0.Tickets.Geometry.Gens) 3 a0.Tickets.High) 4 a0.Tickets.Free)]) rfl ⟨rfl, rfl, ⟨rfl, rfl, ⟨rfl, rfl, ⟨rfl, rfl, ⟨rfl, rfl, trivial⟩⟩⟩⟩⟩ Try.underlying193 ze193 sz3 (fl_cons (xs := Kd.enc (kI .i64) a0.Tickets.Geometry.Blocks) (cs' := cellsOf [Kd.seg (kA 5 (kI .i64)) (Arr.set (Arr.rep 5 (0 : Int)) 0 a0.Tickets.Geometry.Blocks)]) rfl rfl (Kd.len _ _) (Spl.seg_in (p := 0) (o := Int.toNat 0 * Kd.size (kI .i64) + 0) [Kd.seg (kA 5 (kI .i64)) (Arr.rep 5 (0 : Int))] 0 (Kd.seg (kA 5 (kI .i64)) (Arr.set (Arr.rep 5 (0 : Int)) 0 a0.Tickets.Geometry.Blocks)) rfl rfl (Spl.arr (K := (kI .i64)) (Arr.rep 5 (0 : Int)) 0 a0.Tickets.Geometry.Blocks (by decide) (by decide) (Spl.whole ((Kd.len _ _).trans (Kd.len _ _).symm)))) (fl_cons (xs := Kd.enc (kI .i64) a0.Tickets.Geometry.Slots) (cs' := cellsOf [Kd.seg (kA 5 (kI .i64)) (Arr.set (Arr.set (Arr.rep 5 (0 : Int)) 0 a0.Tickets.Geometry.Blocks) 1 a0.Tickets.Geometry.Slots)]) rfl rfl (Kd.len _ _) (Spl.seg_in (p := 0) (o := Int.toNat 1 * Kd.size (kI .i64) + 0) [Kd.seg (kA 5 (kI .i64)) (Arr.set (Arr.rep 5 (0 : Int)) 0 a0.Tickets.Geometry.Blocks)] 0 (Kd.seg (kA 5 (kI .i64)) (Arr.set (Arr.set (Arr.rep 5 (0 : Int)) 0 a0.Tickets.Geometry.Blocks) 1 a0.Tickets.Geometry.Slots)) rfl rfl (Spl.arr (K := (kI .i64)) (Arr.set (Arr.rep 5 (0 : Int)) 0 a0.Tickets.Geometry.Blocks) 1 a0.Tickets.Geometry.Slots (by decide) (by decide) (Spl.whole ((Kd.len _ _).trans (Kd.len _ _).symm)))) (fl_cons (xs := Kd.enc (kI .i64) a0.Tickets.Geometry.Gens) (cs' := cellsOf [Kd.seg (kA 5 (kI .i64)) (Arr.set (Arr.set (Arr.set (Arr.rep 5 (0 : Int)) 0 a0.Tickets.Geometry.Blocks) 1 a0.Tickets.Geometry.Slots) 2 a0.Tickets.Geometry.Gens)]) rfl rfl (Kd.len _ _) (Spl.seg_in (p := 0) (o := Int.toNat 2 * Kd.size (kI .i64) + 0) [Kd.seg (kA 5 (kI .i64)) (Arr.set (Arr.set (Arr.rep 5 (0 : Int)) 0 a0.Tickets.Geometry.Blocks) 1 a0.Tickets.Geometry.Slots)] 0 (Kd.seg (kA 5 (kI .i64)) (Arr.set (Arr.set (Arr.set (Arr.rep 5 (0 : Int)) 0 a0.Tickets.Geometry.Blocks) 1 a0.Tickets.Geometry.Slots) 2 a0.Tickets.Geometry.Gens)) rfl rfl (Spl.arr (K := (kI .i64)) (Arr.set (Arr.set (Arr.rep 5 (0 : Int)) 0 a0.Tickets.Geometry.Blocks) 1 a0.Tickets.Geometry.Slots) 2 a0.Tickets.Geometry.Gens (by decide) (by decide) (Spl.whole ((Kd.len _ _).trans (Kd.len _ _).symm)))) (fl_cons (xs := Kd.enc (kI .i64) a0.Tickets.High) (cs' := cellsOf [Kd.seg (kA 5 (kI .i64)) (Arr.set (Arr.set (Arr.set (Arr.set (Arr.rep 5 (0 : Int)) 0 a0.Tickets.Geometry.Blocks) 1 a0.Tickets.Geometry.Slots) 2 a0.Tickets.Geometry.Gens) 3 a0.Tickets.High)]) rfl rfl (Kd.len _ _) (Spl.seg_in (p := 0) (o := Int.toNat 3 * Kd.size (kI .i64) + 0) [Kd.seg (kA 5 (kI .i64)) (Arr.set (Arr.set (Arr.set (Arr.rep 5 (0 : Int)) 0 a0.Tickets.Geometry.Blocks) 1 a0.Tickets.Geometry.Slots) 2 a0.Tickets.Geometry.Gens)] 0 (Kd.seg (kA 5 (kI .i64)) (Arr.set (Arr.set (Arr.set (Arr.set (Arr.rep 5 (0 : Int)) 0 a0.Tickets.Geometry.Blocks) 1 a0.Tickets.Geometry.Slots) 2 a0.Tickets.Geometry.Gens) 3 a0.Tickets.High)) rfl rfl (Spl.arr (K := (kI .i64)) (Arr.set (Arr.set (Arr.set (Arr.rep 5 (0 : Int)) 0 a0.Tickets.Geometry.Blocks) 1 a0.Tickets.Geometry.Slots) 2 a0.Tickets.Geometry.Gens) 3 a0.Tickets.High (by decide) (by decide) (Spl.whole ((Kd.len _ _).trans (Kd.len _ _).symm)))) (fl_cons (xs := Kd.enc (kI .i64) a0.Tickets.Free) (cs' := cellsOf [Kd.seg (kA 5 (kI .i64)) (Arr.set (Arr.set (Arr.set (Arr.set (Arr.set (Arr.rep 5 (0 : Int)) 0 a0.Tickets.Geometry.Blocks) 1 a0.Tickets.Geometry.Slots) 2 a0.Tickets.Geometry.Gens) 3 a0.Tickets.High) 4 a0.Tickets.Free)]) rfl rfl (Kd.len _ _) (Spl.seg_in (p := 0) (o := Int.toNat 4 * Kd.size (kI .i64) + 0) [Kd.seg (kA 5 (kI .i64)) (Arr.set (Arr.set (Arr.set (Arr.set (Arr.rep 5 (0 : Int)) 0 a0.Tickets.Geometry.Blocks) 1 a0.Tickets.Geometry.Slots) 2 a0.Tickets.Geometry.Gens) 3 a0.Tickets.High)] 0 (Kd.seg (kA 5 (kI .i64)) (Arr.set (Arr.set (Arr.set (Arr.set (Arr.set (Arr.rep 5 (0 : Int)) 0 a0.Tickets.Geometry.Blocks) 1 a0.Tickets.Geometry.Slots) 2 a0.Tickets.Geometry.Gens) 3 a0.Tickets.High) 4 a0.Tickets.Free)) rfl rfl (Spl.arr (K := (kI .i64)) (Arr.set (Arr.set (Arr.set (Arr.set (Arr.rep 5 (0 : Int)) 0 a0.Tickets.Geometry.Blocks) 1 a0.Tickets.Geometry.Slots) 2 a0.Tickets.Geometry.Gens) 3 a0.Tickets.High) 4 a0.Tickets.Free (by decide) (by decide) (Spl.whole ((Kd.len _ _).trans (Kd.len _ _).symm)))) fl_nil)))))) rfl rfl rfl ?_
 refine ol_val (v := .int .i64 0) (xr_move rfl rfl) rfl rfl rfl ?_
 refine ol_nil ?_
 obtain ⟨e29, l30, h31⟩ := bs h
 refine cw_mid (fun ρ' w' => ∃ v32 : Value, ∃ o33 : Own (kI .u8) 5 w' w.heap.size v32 e29, ρ' 1 = (pt G4 0) ∧ ρ' 4 = v32 ∧ Blk w' G4 110 [(sI a0.Epoch), (sI a0.Tickets.Geometry.Blocks), (sI a0.Tickets.Geometry.Slots), (sI a0.Tickets.Geometry.Gens), (sI a0.Tickets.Top), (sI a0.Tickets.High), (sI a0.Tickets.Free), (sI a0.Dir), Seg.cell V0_0 R0_0.one] ∧ Gr w w') ?_ ?_
 ·refine cw_block ?_
  refine cw_round (fun (s28 : (List Int) × Int) ρ' w' => ∃ v35 : Value, ∃ o36 : Own (kI .u8) 5 w' w.heap.size v35 s28.1, ρ' 1 = (pt G4 0) ∧ ρ' 4 = v35 ∧ ρ' 35 = aggV [Kd.seg (kA 5 (kI .i64)) (Arr.set (Arr.set (Arr.set (Arr.set (Arr.set (Arr.rep 5 (0 : Int)) 0 a0.Tickets.Geometry.Blocks) 1 a0.Tickets.Geometry.Slots) 2 a0.Tickets.Geometry.Gens) 3 a0.Tickets.High) 4 a0.Tickets.Free)] ∧ ρ' 36 = .int .i64 s28.2 ∧ Blk w' G4 110 [(sI a0.Epoch), (sI a0.Tickets.Geometry.Blocks), (sI a0.Tickets.Geometry.Slots), (sI a0.Tickets.Geometry.Gens), (sI a0.Tickets.Top), (sI a0.Tickets.High), (sI a0.Tickets.Free), (sI a0.Dir), Seg.cell V0_0 R0_0.one] ∧ Gr w w') l30 ?_ ?_
  ·skip
   exact ⟨u23, o24, rfl, rfl, rfl, rfl, b5, fB⟩
  rintro s28 x40 ρ38 w39 ⟨v35, o36, e1, e4, e35, e36, b5, fB⟩ h
  unfold super_Put.s0 at h
  refine cw_seq ?_
  refine cw_region ?_
  refine ol_val (v := .bool (decide (s28.2 < 5))) (xr_lss rfl e36 rfl) rfl rfl rfl ?_
  refine ol_nil ?_
  refine cw_seq ?_
  rcases is h with ⟨c41, h⟩ | ⟨c41, h⟩
  ·refine cw_condT rfl c41 ?_
   refine cw_skip ?_
   refine cw_seq ?_
   refine cw_block ?_
   refine cw_seq ?_
   refine cw_region ?_
   obtain ⟨g42, h⟩ := gs h
   refine ol_val (v := .int .i64 (Arr.get (Arr.set (Arr.set (Arr.set (Arr.set (Arr.set (Arr.rep 5 (0 : Int)) 0 a0.Tickets.Geometry.Blocks) 1 a0.Tickets.Geometry.Slots) 2 a0.Tickets.Geometry.Gens) 3 a0.Tickets.High) 4 a0.Tickets.Free) s28.2)) (xr_indexArr1 (K := (kI .i64)) (a := (Arr.set (Arr.set (Arr.set (Arr.set (Arr.set (Arr.rep 5 (0 : Int)) 0 a0.Tickets.Geometry.Blocks) 1 a0.Tickets.Geometry.Slots) 2 a0.Tickets.Geometry.Gens) 3 a0.Tickets.High) 4 a0.Tickets.Free)) (v := .int .i64 (Arr.get (Arr.set (Arr.set (Arr.set (Arr.set (Arr.set (Arr.rep 5 (0 : Int)) 0 a0.Tickets.Geometry.Blocks) 1 a0.Tickets.Geometry.Slots) 2 a0.Tickets.Geometry.Gens) 3 a0.Tickets.High) 4 a0.Tickets.Free) s28.2)) rfl Try.underlying193 ag3 sz3 e35 e36 rfl g42.1 g42.2 rfl) rfl rfl rfl ?_
   refine ol_val (v := .int .i64 (Arr.get (Arr.set (Arr.set (Arr.set (Arr.set (Arr.set (Arr.rep 5 (0 : Int)) 0 a0.Tickets.Geometry.Blocks) 1 a0.Tickets.Geometry.Slots) 2 a0.Tickets.Geometry.Gens) 3 a0.Tickets.High) 4 a0.Tickets.Free) s28.2)) (xr_assign rfl rfl) rfl rfl rfl ?_
   refine ol_nil ?_
   refine cw_region ?_
   refine ol_val (v := v35) (xr_move rfl e4) rfl rfl rfl ?_
   refine ol_val (v := .int .i64 (Arr.get (Arr.set (Arr.set (Arr.set (Arr.set (Arr.set (Arr.rep 5 (0 : Int)) 0 a0.Tickets.Geometry.Blocks) 1 a0.Tickets.Geometry.Slots) 2 a0.Tickets.Geometry.Gens) 3 a0.Tickets.High) 4 a0.Tickets.Free) s28.2)) (xr_move rfl rfl) rfl rfl rfl ?_
   refine ol_val (v := .int .u64 (IntKind.u64.wrap (Arr.get (Arr.set (Arr.set (Arr.set (Arr.set (Arr.set (Arr.rep 5 (0 : Int)) 0 a0.Tickets.Geometry.Blocks) 1 a0.Tickets.Geometry.Slots) 2 a0.Tickets.Geometry.Gens) 3 a0.Tickets.High) 4 a0.Tickets.Free) s28.2))) (xr_conv rfl Try.underlying3 Try.underlying22 rfl) rfl rfl rfl ?_
   obtain ⟨t43, k44, h⟩ := bs h
   refine ol_op (opv_call rfl cal128 (ac rfl (ac rfl an)) (octet_Lay.ok fu _ (IntKind.u64.wrap (Arr.get (Arr.set (Arr.set (Arr.set (Arr.set (Arr.set (Arr.rep 5 (0 : Int)) 0 a0.Tickets.Geometry.Blocks) 1 a0.Tickets.Geometry.Slots) 2 a0.Tickets.Geometry.Gens) 3 a0.Tickets.High) 4 a0.Tickets.Free) s28.2)) 4 _ k44)) rfl rfl rfl ?_
   rintro u45 w49 ⟨_, o46, rfl, q48⟩
   have a50 := OffV.call o36 o46
   have o46 := Own.base o46 fB.size
   have b5 := b5.gr q48
   have o36 := o36.gr q48
   have fB := fB.gr q48
   obtain ⟨g55, h⟩ := gs h
   have f57 := off_ty b5 o36 (by decide)
   have f58 := o36.geO
   refine ol_op (opv_append (K := (kI .u8)) rfl Try.underlying43 el5 rfl rfl rfl rfl rfl o36 o46.rd g55 fB.size) rfl rfl rfl ?_
   rintro v51 w59 ⟨o52, q53, n54⟩
   have b5 := b5.wrO q53 f57
   have fB := fB.wrO q53 f58
   refine ol_val (v := v51) (xr_assign rfl rfl) rfl rfl rfl ?_
   refine ol_nil ?_
   refine blk_i ?_
   refine cw_region ?_
   refine ol_val (v := .int .i64 (IntKind.i64.wrap (s28.2 + 1))) (xr_add rfl e36 rfl) rfl rfl rfl ?_
   refine ol_val (v := .int .i64 (IntKind.i64.wrap (s28.2 + 1))) (xr_move rfl rfl) rfl rfl rfl ?_
   refine ol_nil ?_
   obtain rfl := Option.some.inj h
   refine lp_in ?_
   exact ⟨v51, o52, e1, rfl, e35, rfl, b5, fB⟩
  refine cw_condF rfl c41 ?_
  refine cw_exit ?_
  repeat (first | with_reducible refine thn_e ?_ | with_reducible refine blk_e rfl ?_)
  obtain rfl := Option.some.inj h
  refine lp_exit ?_
  rintro rfl
  refine thn_x ?_
  exact ⟨v35, o36, e1, e4, b5, fB⟩
 rintro ρ60 w61 ⟨v32, o33, e1, e4, b5, fB⟩
 have h := h31
 refine cw_seq ?_
 refine cw_seq ?_
 refine cw_region ?_
 refine ol_val (v := (pt G4 1)) (xr_fieldAddr (p := 0) (q := 1) rfl fl110_1 e1) rfl rfl rfl ?_
 refine ol_val (v := (pt G4 4)) (xr_fieldAddr (p := 1) (q := 3) rfl fl108_1 rfl) rfl rfl rfl ?_
 refine ol_val (v := .int .i64 a0.Tickets.Top) (xr_load1 (v := .int .i64 a0.Tickets.Top) rfl ag3 rfl (b5.seg 4 rfl rfl)) rfl rfl rfl ?_
 refine ol_val (v := (pt G4 7)) (xr_fieldAddr (p := 0) (q := 7) rfl fl110_2 e1) rfl rfl rfl ?_
 refine ol_val (v := .int .i64 a0.Dir) (xr_load1 (v := .int .i64 a0.Dir) rfl ag3 rfl (b5.seg 7 rfl rfl)) rfl rfl rfl ?_
 refine ol_op (opv_buildSlice (K := (kI .i64)) (xs := [a0.Tickets.Top, a0.Dir]) (vals := [.int .i64 a0.Tickets.Top, .int .i64 a0.Dir]) rfl Try.underlying25 el3 rfl rfl ⟨rfl, rfl, ⟨rfl, rfl, trivial⟩⟩ rfl rfl rfl fB.size) rfl rfl rfl ?_
 rintro v62 w67 ⟨o64, q63, z65⟩
 have b5 := b5.gr q63
 have o33 := o33.gr q63
 have fB := fB.gr q63
 refine ol_val (v := (pt G4 8)) (xr_fieldAddr (p := 0) (q := 8) rfl fl110_3 e1) rfl rfl rfl ?_
 refine ol_val (v := V0_0) (xr_load1 (v := V0_0) rfl ag25 rfl (b5.seg 8 rfl rfl)) rfl rfl rfl ?_
 obtain ⟨g72, h⟩ := gs h
 have f74 := off_ty b5 o64 (by decide)
 have f75 := OffV.ty o33 o64 (by decide)
 have f76 := o64.geO
 refine ol_op (opv_append (K := (kI .i64)) rfl Try.underlying25 el3 rfl rfl rfl rfl rfl o64 (R0_0.gr fB) g72 fB.size) rfl rfl rfl ?_
 rintro v68 w77 ⟨o69, q70, n71⟩
 have b5 := b5.wrO q70 f74
 have o33 := o33.wrV q70 f75
 have fB := fB.wrO q70 f76
 refine ol_val (v := .int .i64 (List.length ([a0.Tickets.Top, a0.Dir] ++ a0.Charts) : Int)) (xr_lenR rfl Try.underlying25 rfl o69.rd) rfl rfl rfl ?_
 refine ol_val (v := .int .i64 0) (xr_move rfl rfl) rfl rfl rfl ?_
 refine ol_nil ?_
 obtain ⟨e79, l80, h81⟩ := bs h
 refine cw_mid (fun ρ' w' => ∃ v82 : Value, ∃ o83 : Own (kI .u8) 5 w' w.heap.size v82 e79, ρ' 1 = (pt G4 0) ∧ ρ' 4 = v82 ∧ Blk w' G4 110 [(sI a0.Epoch), (sI a0.Tickets.Geometry.Blocks), (sI a0.Tickets.Geometry.Slots), (sI a0.Tickets.Geometry.Gens), (sI a0.Tickets.Top), (sI a0.Tickets.High), (sI a0.Tickets.Free), (sI a0.Dir), Seg.cell V0_0 R0_0.one] ∧ Gr w w') ?_ ?_
 ·refine cw_block ?_
  refine cw_round (fun (s78 : (List Int) × Int) ρ' w' => ∃ v85 : Value, ∃ o69 : Own (kI .i64) 3 w' w.heap.size v68 ([a0.Tickets.Top, a0.Dir] ++ a0.Charts), ∃ o86 : Own (kI .u8) 5 w' w.heap.size v85 s78.1, ρ' 1 = (pt G4 0) ∧ ρ' 4 = v85 ∧ ρ' 53 = v68 ∧ ρ' 54 = .int .i64 (List.length ([a0.Tickets.Top, a0.Dir] ++ a0.Charts) : Int) ∧ ρ' 55 = .int .i64 s78.2 ∧ Blk w' G4 110 [(sI a0.Epoch), (sI a0.Tickets.Geometry.Blocks), (sI a0.Tickets.Geometry.Slots), (sI a0.Tickets.Geometry.Gens), (sI a0.Tickets.Top), (sI a0.Tickets.High), (sI a0.Tickets.Free), (sI a0.Dir), Seg.cell V0_0 R0_0.one] ∧ Gr w w') l80 ?_ ?_
  ·skip
   exact ⟨v32, o69, o33, e1, e4, rfl, rfl, rfl, b5, fB⟩
  rintro s78 x90 ρ88 w89 ⟨v85, o69, o86, e1, e4, e53, e54, e55, b5, fB⟩ h
  unfold super_Put.s1 at h
  refine cw_seq ?_
  refine cw_region ?_
  refine ol_val (v := .bool (decide (s78.2 < (List.length ([a0.Tickets.Top, a0.Dir] ++ a0.Charts) : Int)))) (xr_lss rfl e55 e54) rfl rfl rfl ?_
  refine ol_nil ?_
  refine cw_seq ?_
  rcases is h with ⟨c91, h⟩ | ⟨c91, h⟩
  ·refine cw_condT rfl c91 ?_
   refine cw_skip ?_
   refine cw_seq ?_
   refine cw_block ?_
   refine cw_seq ?_
   refine cw_region ?_
   obtain ⟨g92, h⟩ := gs h
   refine ol_val (v := (pt ((sb v68)) (so v68 + Int.toNat s78.2 * 1))) (xr_indexR (K := (kI .i64)) (v := v68) rfl Try.underlying25 sz3 e53 o69.rd e55 g92.1 g92.2) rfl rfl rfl ?_
   refine ol_val (v := .int .i64 (ix ([a0.Tickets.Top, a0.Dir] ++ a0.Charts) s78.2)) (xr_load1 (v := .int .i64 (ix ([a0.Tickets.Top, a0.Dir] ++ a0.Charts) s78.2)) rfl ag3 rfl (o69.rd.elem g92.1 g92.2)) rfl rfl rfl ?_
   refine ol_val (v := .int .i64 (ix ([a0.Tickets.Top, a0.Dir] ++ a0.Charts) s78.2)) (xr_assign rfl rfl) rfl rfl rfl ?_
   refine ol_nil ?_
   refine cw_region ?_
   refine ol_val (v := v85) (xr_move rfl e4) rfl rfl rfl ?_
   refine ol_val (v := .int .i64 (ix ([a0.Tickets.Top, a0.Dir] ++ a0.Charts) s78.2)) (xr_move rfl rfl) rfl rfl rfl ?_
   refine ol_val (v := .int .u64 (IntKind.u64.wrap (ix ([a0.Tickets.Top, a0.Dir] ++ a0.Charts) s78.2))) (xr_conv rfl Try.underlying3 Try.underlying22 rfl) rfl rfl rfl ?_
   obtain ⟨t93, k94, h⟩ := bs h
   refine ol_op (opv_call rfl cal128 (ac rfl (ac rfl an)) (octet_Lay.ok fu _ (IntKind.u64.wrap (ix ([a0.Tickets.Top, a0.Dir] ++ a0.Charts) s78.2)) 2 _ k94)) rfl rfl rfl ?_
   rintro u95 w99 ⟨_, o96, rfl, q98⟩
   have a100 := OffV.call o86 o96
   have o96 := Own.base o96 fB.size
   have b5 := b5.gr q98
   have o69 := o69.gr q98
   have o86 := o86.gr q98
   have fB := fB.gr q98
   obtain ⟨g105, h⟩ := gs h
   have f107 := off_ty b5 o86 (by decide)
   have f108 := OffV.ty o69 o86 (by decide)
   have f109 := o86.geO
   refine ol_op (opv_append (K := (kI .u8)) rfl Try.underlying43 el5 rfl rfl rfl rfl rfl o86 o96.rd g105 fB.size) rfl rfl rfl ?_
   rintro v101 w110 ⟨o102, q103, n104⟩
   have b5 := b5.wrO q103 f107
   have o69 := o69.wrV q103 f108
   have fB := fB.wrO q103 f109
   refine ol_val (v := v101) (xr_assign rfl rfl) rfl rfl rfl ?_
   refine ol_nil ?_
   refine blk_i ?_
   refine cw_region ?_
   refine ol_val (v := .int .i64 (IntKind.i64.wrap (s78.2 + 1))) (xr_add rfl e55 rfl) rfl rfl rfl ?_
   refine ol_val (v := .int .i64 (IntKind.i64.wrap (s78.2 + 1))) (xr_move rfl rfl) rfl rfl rfl ?_
   refine ol_nil ?_
   obtain rfl := Option.some.inj h
   refine lp_in ?_
   exact ⟨v101, o69, o102, e1, rfl, e53, e54, rfl, b5, fB⟩
  refine cw_condF rfl c91 ?_
  refine cw_exit ?_
  repeat (first | with_reducible refine thn_e ?_ | with_reducible refine blk_e rfl ?_)
  obtain rfl := Option.some.inj h
  refine lp_exit ?_
  rintro rfl
  refine thn_x ?_
  exact ⟨v85, o86, e1, e4, b5, fB⟩
 rintro ρ111 w112 ⟨v82, o83, e1, e4, b5, fB⟩
 have h := h81
 refine cw_seq ?_
 refine cw_region ?_
 refine ol_val (v := (pt G4 8)) (xr_fieldAddr (p := 0) (q := 8) rfl fl110_3 e1) rfl rfl rfl ?_
 refine ol_val (v := V0_0) (xr_load1 (v := V0_0) rfl ag25 rfl (b5.seg 8 rfl rfl)) rfl rfl rfl ?_
 refine ol_val (v := .int .i64 (List.length a0.Charts : Int)) (xr_lenR rfl Try.underlying25 rfl (R0_0.gr fB)) rfl rfl rfl ?_
 refine ol_val (v := v82) (xr_move rfl e4) rfl rfl rfl ?_
 obtain ⟨t113, k114, h⟩ := bs h
 refine ol_op (opv_call rfl cal140 (ac rfl (ac rfl (ac rfl an))) (block_Seal.ok fu _ 7 (List.length a0.Charts : Int) e79 v82 (o83.rd) _ k114)) rfl rfl rfl ?_
 rintro _ w119 ⟨u115, o116, rfl, q118⟩
 have o116 := Own.base o116 fB.size
 have fB := fB.gr q118
 refine ol_val (v := u115) (xr_extract rfl rfl rfl) rfl rfl rfl ?_
 refine ol_val (v := .bool t113.2) (xr_extract rfl rfl rfl) rfl rfl rfl ?_
 refine ol_val (v := u115) (xr_assign rfl rfl) rfl rfl rfl ?_
 refine ol_val (v := .bool t113.2) (xr_assign rfl rfl) rfl rfl rfl ?_
 refine ol_nil ?_
 refine cw_ret ?_
 repeat (first | with_reducible refine thn_r ?_ | with_reducible refine blk_r ?_)
 obtain rfl := Option.some.inj h
 refine fin_ret2 Try.results120 rfl rfl ?_
 exact ⟨_, rfl, u115, o116, rfl, fB⟩
def pmem_plan_next__i0.f (fu : Nat) (a0 : S_pmem_plan) : Option (Int × S_pmem_plan) := (if (decide ((List.length a0.list : Int) = 0)) = true then some ((-1), a0) else (if 0 ≤ a0.at_ ∧ a0.at_ < (List.length a0.list : Int) then (if (List.length a0.list : Int) ≠ 0 then some ((ix a0.list a0.at_), (⟨a0.list, (Int.tmod (IntKind.i64.wrap (a0.at_ + 1)) (List.length a0.list : Int))⟩ : S_pmem_plan)) else none) else none))
theorem pmem_plan_next__i0.ok (fu : Nat) (w : World) (a0 : S_pmem_plan) (G_0 : Nat) (T_0 : TypeId) (X_0 Y_0 : List Value) (V0_0 : Value) (R0_0 : Rd (kI .i64) w V0_0 a0.list) (N0_0 : OffR V0_0 a0.list G_0) (b_0 : SubB w G_0 T_0 X_0 [Seg.cell V0_0 R0_0.one, (sI a0.at_)] Y_0) (r : Int × S_pmem_plan) (h : pmem_plan_next__i0.f fu a0 = some r) :
  Calls Try.prog 123 (([(pt G_0 (List.length X_0))] : List Value).toArray) w (fun e w' => ∃ v, e = .returned v ∧ v = .int .i64 r.1 ∧ SubB w' G_0 T_0 X_0 [Seg.cell V0_0 R0_0.one, (sI r.2.at_)] Y_0 ∧ Fr (fun j => j = G_0) w w') := by
 unfold pmem_plan_next__i0.f at h
 have fB : Fr (fun j => j = G_0) w w := Fr.refl _ _
 refine calls_cw Try.func123 rfl Try.ntmps123 rfl ?_
 refine cw_seq ?_
 refine cw_region ?_
 refine ol_val (v := .int .i64 0) (xr_assign rfl rfl) rfl rfl rfl ?_
 refine ol_nil ?_
 refine cw_seq ?_
 refine cw_seq ?_
 refine cw_region ?_
 refine ol_val (v := (pt G_0 (List.length X_0))) (xr_move rfl rfl) rfl rfl rfl ?_
 refine ol_val (v := (pt G_0 (List.length X_0))) (xr_nilCheck rfl rfl) rfl rfl rfl ?_
 refine ol_val (v := (pt G_0 (List.length X_0 + 0))) (xr_fieldAddr (p := List.length X_0) (q := 0) rfl fl137_0 rfl) rfl rfl rfl ?_
 refine ol_val (v := V0_0) (xr_load1 (v := V0_0) rfl ag25 rfl (b_0.seg 0 rfl rfl)) rfl rfl rfl ?_
 refine ol_val (v := .int .i64 (List.length a0.list : Int)) (xr_lenR rfl Try.underlying25 rfl R0_0) rfl rfl rfl ?_
 refine ol_val (v := .bool (decide ((List.length a0.list : Int) = 0))) (xr_eqI rfl Try.underlying3 rfl rfl rfl) rfl rfl rfl ?_
 refine ol_nil ?_
 rcases is h with ⟨c1, h⟩ | ⟨c1, h⟩
 ·refine cw_condT rfl c1 ?_
  refine cw_seq ?_
  refine cw_region ?_
  refine ol_val (v := .int .i64 (-1)) (xr_assign rfl rfl) rfl rfl rfl ?_
  refine ol_nil ?_
  refine cw_ret ?_
  repeat (first | with_reducible refine thn_r ?_ | with_reducible refine blk_r ?_)
  obtain rfl := Option.some.inj h
  refine fin_ret1 Try.results123 rfl ?_
  exact ⟨_, rfl, rfl, b_0, fB⟩
 refine cw_condF rfl c1 ?_
 refine cw_skip ?_
 refine cw_seq ?_
 refine cw_drawL 8 [fun vz wz => vz = ((pt G_0 (List.length X_0)) : Value), fun vz wz => vz = ((pt G_0 (List.length X_0)) : Value), fun vz wz => vz = ((pt G_0 (List.length X_0 + 0)) : Value), fun vz wz => vz = (V0_0 : Value), fun vz wz => vz = ((pt G_0 (List.length X_0)) : Value), fun vz wz => vz = ((pt G_0 (List.length X_0)) : Value), fun vz wz => vz = ((pt G_0 (List.length X_0 + 1)) : Value), fun vz wz => vz = (.int .i64 a0.at_ : Value)] mo rfl ⟨fun _ _ _ h _ => h, fun _ _ _ h _ => h, fun _ _ _ h _ => h, fun _ _ _ h _ => h, fun _ _ _ h _ => h, fun _ _ _ h _ => h, fun _ _ _ h _ => h, fun _ _ _ h _ => h, trivial⟩ ?_ ?_
 ·refine ⟨?_, ?_, ?_, ?_, ?_, ?_, ?_, ?_, trivial⟩
  ·intro ρz wz hz hk hd
   exact sk_val (v := (pt G_0 (List.length X_0))) (xr_move rfl ((hk 0 rfl).trans rfl)) rfl rfl
  ·intro ρz wz hz hk hd
   exact sk_val (v := (pt G_0 (List.length X_0))) (xr_nilCheck rfl (hd 0 rfl 10 rfl)) rfl rfl
  ·intro ρz wz hz hk hd
   exact sk_val (v := (pt G_0 (List.length X_0 + 0))) (xr_fieldAddr (p := List.length X_0) (q := 0) rfl fl137_0 (hd 1 rfl 11 rfl)) rfl rfl
  ·intro ρz wz hz hk hd
   exact sk_val (v := V0_0) (xr_load1 (v := V0_0) rfl ag25 (hd 2 rfl 12 rfl) ((b_0.gr hz).seg 0 rfl rfl)) rfl rfl
  ·intro ρz wz hz hk hd
   exact sk_val (v := (pt G_0 (List.length X_0))) (xr_move rfl ((hk 0 rfl).trans rfl)) rfl rfl
  ·intro ρz wz hz hk hd
   exact sk_val (v := (pt G_0 (List.length X_0))) (xr_nilCheck rfl (hd 4 rfl 14 rfl)) rfl rfl
  ·intro ρz wz hz hk hd
   exact sk_val (v := (pt G_0 (List.length X_0 + 1))) (xr_fieldAddr (p := List.length X_0) (q := 1) rfl fl137_1 (hd 5 rfl 15 rfl)) rfl rfl
  intro ρz wz hz hk hd
  exact sk_val (v := .int .i64 a0.at_) (xr_load1 (v := .int .i64 a0.at_) rfl ag3 (hd 6 rfl 16 rfl) ((b_0.gr hz).seg 1 rfl rfl)) rfl rfl
 intro ρ2 w3 q4 hk hd
 have e0 := (hk 0 rfl).trans rfl
 have e13 := hd 3 rfl 13 rfl
 have e17 := hd 7 rfl 17 rfl
 have b_0 := b_0.gr q4
 have R0_0 := R0_0.gr q4
 have fB := fB.gr q4
 obtain ⟨g5, h⟩ := gs h
 refine ol_val (v := (pt ((sb V0_0)) (so V0_0 + Int.toNat a0.at_ * 1))) (xr_indexR (K := (kI .i64)) (v := V0_0) rfl Try.underlying25 sz3 e13 R0_0 e17 g5.1 g5.2) rfl rfl rfl ?_
 refine ol_val (v := .int .i64 (ix a0.list a0.at_)) (xr_load1 (v := .int .i64 (ix a0.list a0.at_)) rfl ag3 rfl (R0_0.elem g5.1 g5.2)) rfl rfl rfl ?_
 refine ol_val (v := .int .i64 (ix a0.list a0.at_)) (xr_assign rfl rfl) rfl rfl rfl ?_
 refine ol_nil ?_
 refine cw_seq ?_
 obtain ⟨g6, h⟩ := gs h
 refine cw_drawL 12 [fun vz wz => vz = ((pt G_0 (List.length X_0)) : Value), fun vz wz => vz = ((pt G_0 (List.length X_0)) : Value), fun vz wz => vz = ((pt G_0 (List.length X_0)) : Value), fun vz wz => vz = ((pt G_0 (List.length X_0 + 1)) : Value), fun vz wz => vz = (.int .i64 a0.at_ : Value), fun vz wz => vz = (.int .i64 (IntKind.i64.wrap (a0.at_ + 1)) : Value), fun vz wz => vz = ((pt G_0 (List.length X_0)) : Value), fun vz wz => vz = ((pt G_0 (List.length X_0)) : Value), fun vz wz => vz = ((pt G_0 (List.length X_0 + 0)) : Value), fun vz wz => vz = (V0_0 : Value), fun vz wz => vz = (.int .i64 (List.length a0.list : Int) : Value), fun vz wz => vz = (.int .i64 (Int.tmod (IntKind.i64.wrap (a0.at_ + 1)) (List.length a0.list : Int)) : Value)] mo rfl ⟨fun _ _ _ h _ => h, fun _ _ _ h _ => h, fun _ _ _ h _ => h, fun _ _ _ h _ => h, fun _ _ _ h _ => h, fun _ _ _ h _ => h, fun _ _ _ h _ => h, fun _ _ _ h _ => h, fun _ _ _ h _ => h, fun _ _ _ h _ => h, fun _ _ _ h _ => h, fun _ _ _ h _ => h, trivial⟩ ?_ ?_
 ·refine ⟨?_, ?_, ?_, ?_, ?_, ?_, ?_, ?_, ?_, ?_, ?_, ?_, trivial⟩
  ·intro ρz wz hz hk hd
   exact sk_val (v := (pt G_0 (List.length X_0))) (xr_move rfl ((hk 0 rfl).trans e0)) rfl rfl
  ·intro ρz wz hz hk hd
   exact sk_val (v := (pt G_0 (List.length X_0))) (xr_move rfl ((hk 0 rfl).trans e0)) rfl rfl
  ·intro ρz wz hz hk hd
   exact sk_val (v := (pt G_0 (List.length X_0))) (xr_nilCheck rfl (hd 1 rfl 21 rfl)) rfl rfl
  ·intro ρz wz hz hk hd
   exact sk_val (v := (pt G_0 (List.length X_0 + 1))) (xr_fieldAddr (p := List.length X_0) (q := 1) rfl fl137_1 (hd 2 rfl 22 rfl)) rfl rfl
  ·intro ρz wz hz hk hd
   exact sk_val (v := .int .i64 a0.at_) (xr_load1 (v := .int .i64 a0.at_) rfl ag3 (hd 3 rfl 23 rfl) ((b_0.gr hz).seg 1 rfl rfl)) rfl rfl
  ·intro ρz wz hz hk hd
   exact sk_val (v := .int .i64 (IntKind.i64.wrap (a0.at_ + 1))) (xr_add rfl (hd 4 rfl 24 rfl) rfl) rfl rfl
  ·intro ρz wz hz hk hd
   exact sk_val (v := (pt G_0 (List.length X_0))) (xr_move rfl ((hk 0 rfl).trans e0)) rfl rfl
  ·intro ρz wz hz hk hd
   exact sk_val (v := (pt G_0 (List.length X_0))) (xr_nilCheck rfl (hd 6 rfl 26 rfl)) rfl rfl
  ·intro ρz wz hz hk hd
   exact sk_val (v := (pt G_0 (List.length X_0 + 0))) (xr_fieldAddr (p := List.length X_0) (q := 0) rfl fl137_0 (hd 7 rfl 27 rfl)) rfl rfl
  ·intro ρz wz hz hk hd
   exact sk_val (v := V0_0) (xr_load1 (v := V0_0) rfl ag25 (hd 8 rfl 28 rfl) ((b_0.gr hz).seg 0 rfl rfl)) rfl rfl
  ·intro ρz wz hz hk hd
   exact sk_val (v := .int .i64 (List.length a0.list : Int)) (xr_lenR rfl Try.underlying25 (hd 9 rfl 29 rfl) (R0_0.gr hz)) rfl rfl
  intro ρz wz hz hk hd
  exact sk_val (xr_rem rfl (hd 5 rfl 25 rfl) (hd 10 rfl 30 rfl) g6) rfl rfl
 intro ρ7 w8 q9 hk hd
 have e3 := (hk 3 rfl).trans rfl
 have e20 := hd 0 rfl 20 rfl
 have e31 := hd 11 rfl 31 rfl
 have b_0 := b_0.gr q9
 have R0_0 := R0_0.gr q9
 have fB := fB.gr q9
 refine ol_val (v := (pt G_0 (List.length X_0))) (xr_nilCheck rfl e20) rfl rfl rfl ?_
 refine ol_val (v := (pt G_0 (List.length X_0 + 1))) (xr_fieldAddr (p := List.length X_0) (q := 1) rfl fl137_1 rfl) rfl rfl rfl ?_
 refine ol_op0 (opv_storeSub (ss' := [Seg.cell V0_0 R0_0.one, (sI (Int.tmod (IntKind.i64.wrap (a0.at_ + 1)) (List.length a0.list : Int)))]) (xs := cellsOf [(sI (Int.tmod (IntKind.i64.wrap (a0.at_ + 1)) (List.length a0.list : Int)))]) rfl sz3 rfl e31 rfl (len_cellsOf _) (one_cellsOf _) b_0 (Spl.segs _ 1 1 [(sI (Int.tmod (IntKind.i64.wrap (a0.at_ + 1)) (List.length a0.list : Int)))] rfl rfl)) rfl rfl ?_
 rintro _ w11 ⟨b_0, q10⟩
 have R0_0 := R0_0.wr q10 N0_0
 have fB := fB.wrS q10 rfl
 refine ol_nil ?_
 refine cw_seq ?_
 refine cw_region ?_
 refine ol_val (v := .int .i64 (ix a0.list a0.at_)) (xr_move rfl e3) rfl rfl rfl ?_
 refine ol_val (v := .int .i64 (ix a0.list a0.at_)) (xr_assign rfl rfl) rfl rfl rfl ?_
 refine ol_nil ?_
 refine cw_ret ?_
 repeat (first | with_reducible refine thn_r ?_ | with_reducible refine blk_r ?_)
 obtain rfl := Option.some.inj h
 refine fin_ret1 Try.results123 rfl ?_
 exact ⟨_, rfl, rfl, b_0, fB⟩
def pmem_Device_step.f (fu : Nat) (a0 : S_pmem_Device) : Option S_pmem_Device := ((pmem_plan_next__i0.f fu a0.plan).bind fun t11 => (((if (if (decide (t11.1 ≥ 0)) = true then (decide ((List.length a0.cells : Int) > 0)) else false) = true then (if (List.length a0.cells : Int) ≠ 0 then (if 0 ≤ (Int.tmod t11.1 (List.length a0.cells : Int)) ∧ (Int.tmod t11.1 (List.length a0.cells : Int)) < (List.length a0.cells : Int) then ((pmem_cell_keep__i0.f fu (ix a0.cells (Int.tmod t11.1 (List.length a0.cells : Int))) ((ix a0.cells (Int.tmod t11.1 (List.length a0.cells : Int))).stored)).bind fun t35 => some ((List.set a0.cells (Int.toNat (Int.tmod t11.1 (List.length a0.cells : Int))) t35))) else none) else none) else some (a0.cells)) : Option (List S_pmem_cell)).bind fun x20 => (((if a0.armed = true then some ((decide ((IntKind.i64.wrap (a0.left - 1)) = 0)), (IntKind.i64.wrap (a0.left - 1))) else some (a0.off, a0.left)) : Option (Bool × Int)).bind fun x45 => some ((⟨x20, (⟨a0.plan.list, t11.2.at_⟩ : S_pmem_plan), x45.1, a0.armed, x45.2, (IntKind.i64.wrap (a0.steps + 1))⟩ : S_pmem_Device)))))
theorem pmem_Device_step.ok (fu : Nat) (w : World) (a0 : S_pmem_Device) (G_0 : Nat) (V0_0 : Value) (O0_0 : Own k_pmem_cell 142 w 0 V0_0 a0.cells) (V0_1 : Value) (O0_1 : Own (kI .i64) 3 w 0 V0_1 a0.plan.list) (b_0 : Blk w G_0 139 [Seg.cell V0_0 O0_0.one, Seg.cell V0_1 O0_1.one, (sI a0.plan.at_), Seg.cell (.bool a0.off), Seg.cell (.bool a0.armed), (sI a0.left), (sI a0.steps)]) (r : S_pmem_Device) (h : pmem_Device_step.f fu a0 = some r) :
  Calls Try.prog 84 (([(pt G_0 0)] : List Value).toArray) w (fun e w' => ∃ v, e = .returned v ∧ ∃ u1 : Value, ∃ u4 : Value, ∃ o2 : Own k_pmem_cell 142 w' 0 u1 r.cells, ∃ m3 : ∀ g, Value.ownBlock u1 = some g → w.heap.size ≤ g ∨ (g = G_0 ∨ some g = Value.ownBlock V0_0 ∨ some g = Value.ownBlock V0_1), ∃ o5 : Own (kI .i64) 3 w' 0 u4 r.plan.list, ∃ m6 : ∀ g, Value.ownBlock u4 = some g → w.heap.size ≤ g ∨ (g = G_0 ∨ some g = Value.ownBlock V0_0 ∨ some g = Value.ownBlock V0_1), v = .tuple #[] ∧ Blk w' G_0 139 [Seg.cell u1 o2.one, Seg.cell u4 o5.one, (sI r.plan.at_), Seg.cell (.bool r.off), Seg.cell (.bool r.armed), (sI r.left), (sI r.steps)] ∧ Fr (fun j => j = G_0 ∨ some j = Value.ownBlock V0_0 ∨ some j = Value.ownBlock V0_1) w w') := by
 unfold pmem_Device_step.f at h
 have fB : Fr (fun j => j = G_0 ∨ some j = Value.ownBlock V0_0 ∨ some j = Value.ownBlock V0_1) w w := Fr.refl _ _
 have M0_0 : ∀ g, Value.ownBlock V0_0 = some g → w.heap.size ≤ g ∨ (g = G_0 ∨ some g = Value.ownBlock V0_0 ∨ some g = Value.ownBlock V0_1) := fun g hg => .inr (.inr (.inl hg.symm))
 have M0_1 : ∀ g, Value.ownBlock V0_1 = some g → w.heap.size ≤ g ∨ (g = G_0 ∨ some g = Value.ownBlock V0_0 ∨ some g = Value.ownBlock V0_1) := fun g hg => .inr (.inr (.inr hg.symm))
 refine calls_cw Try.func84 rfl Try.ntmps84 rfl ?_
 refine cw_seq ?_
 refine cw_region ?_
 refine ol_val (v := (pt G_0 0)) (xr_move rfl rfl) rfl rfl rfl ?_
 refine ol_val (v := (pt G_0 0)) (xr_nilCheck rfl rfl) rfl rfl rfl ?_
 refine ol_val (v := (pt G_0 6)) (xr_fieldAddr (p := 0) (q := 6) rfl fl139_5 rfl) rfl rfl rfl ?_
 refine ol_val (v := .int .i64 a0.steps) (xr_load1 (v := .int .i64 a0.steps) rfl ag3 rfl (b_0.seg 6 rfl rfl)) rfl rfl rfl ?_
 refine ol_val (v := .int .i64 (IntKind.i64.wrap (a0.steps + 1))) (xr_add rfl rfl rfl) rfl rfl rfl ?_
 refine ol_val (v := (pt G_0 0)) (xr_nilCheck rfl rfl) rfl rfl rfl ?_
 refine ol_val (v := (pt G_0 6)) (xr_fieldAddr (p := 0) (q := 6) rfl fl139_5 rfl) rfl rfl rfl ?_
 have f8 := off_ty b_0 O0_0 (by decide)
 have f9 := off_ty b_0 O0_1 (by decide)
 refine ol_op0 (opv_store (ss' := [Seg.cell V0_0 O0_0.one, Seg.cell V0_1 O0_1.one, (sI a0.plan.at_), Seg.cell (.bool a0.off), Seg.cell (.bool a0.armed), (sI a0.left), (sI (IntKind.i64.wrap (a0.steps + 1)))]) (xs := cellsOf [(sI (IntKind.i64.wrap (a0.steps + 1)))]) rfl sz3 rfl rfl rfl (len_cellsOf _) (one_cellsOf _) b_0 (Spl.segs _ 6 1 [(sI (IntKind.i64.wrap (a0.steps + 1)))] rfl rfl)) rfl rfl ?_
 rintro _ w10 ⟨b_0, q7⟩
 have O0_0 := O0_0.wr q7 f8
 have O0_1 := O0_1.wr q7 f9
 have fB := fB.wrS q7 (.inl rfl)
 refine ol_nil ?_
 refine cw_seq ?_
 refine cw_seq ?_
 refine cw_region ?_
 refine ol_val (v := (pt G_0 0)) (xr_move rfl rfl) rfl rfl rfl ?_
 refine ol_val (v := (pt G_0 0)) (xr_nilCheck rfl rfl) rfl rfl rfl ?_
 refine ol_val (v := (pt G_0 1)) (xr_fieldAddr (p := 0) (q := 1) rfl fl139_1 rfl) rfl rfl rfl ?_
 obtain ⟨t11, k12, h⟩ := bs h
 have f15 := off_ty b_0 O0_0 (by decide)
 have f16 := off_ty b_0 O0_1 (by decide)
 refine ol_op (opv_call rfl cal123 (ac (ptrE (q := List.length (cellsOf [Seg.cell V0_0 O0_0.one])) rfl (len_cellsOf _)) an) (pmem_plan_next__i0.ok fu _ a0.plan G_0 139 (cellsOf [Seg.cell V0_0 O0_0.one]) _ V0_1 O0_1.rd (OffR.own O0_1 (off_ty b_0 O0_1 (by decide))) (b_0.sub 1 2) _ k12)) rfl rfl rfl ?_
 rintro _ w17 ⟨rfl, b14, q13⟩
 have b_0 : Blk w17 G_0 139 [Seg.cell V0_0 O0_0.one, Seg.cell V0_1 O0_1.one, (sI t11.2.at_), Seg.cell (.bool a0.off), Seg.cell (.bool a0.armed), (sI a0.left), (sI (IntKind.i64.wrap (a0.steps + 1)))] := Blk.unsub (pre := [Seg.cell V0_0 O0_0.one]) (mid := [Seg.cell V0_1 O0_1.one, (sI t11.2.at_)]) (post := [Seg.cell (.bool a0.off), Seg.cell (.bool a0.armed), (sI a0.left), (sI (IntKind.i64.wrap (a0.steps + 1)))]) b14
 have O0_0 := O0_0.wr q13 f15
 have O0_1 := O0_1.wr q13 f16
 have fB := fB.wrS q13 (.inl rfl)
 refine ol_val (v := .int .i64 t11.1) (xr_assign rfl rfl) rfl rfl rfl ?_
 refine ol_nil ?_
 refine cw_seq ?_
 refine cw_mid (fun ρ' w' => ρ' 0 = (pt G_0 0) ∧ ρ' 2 = .int .i64 t11.1 ∧ ρ' 24 = .bool (if (decide (t11.1 ≥ 0)) = true then (decide ((List.length a0.cells : Int) > 0)) else false) ∧ w17 = w') ?_ ?_
 ·skip
  refine cw_region ?_
  refine ol_val (v := .int .i64 t11.1) (xr_move rfl rfl) rfl rfl rfl ?_
  refine ol_val (v := .bool (decide (t11.1 ≥ 0))) (xr_geq rfl rfl rfl) rfl rfl rfl ?_
  refine ol_val (v := .bool (decide (t11.1 ≥ 0))) (xr_move rfl rfl) rfl rfl rfl ?_
  rcases bt (decide (t11.1 ≥ 0)) with c18 | c18
  ·skip
   refine ol_gval (v := (pt G_0 0)) (xr_move rfl rfl) rfl rfl rfl rfl rfl c18 ?_
   refine ol_gval (v := (pt G_0 0)) (xr_nilCheck rfl rfl) rfl rfl rfl rfl rfl c18 ?_
   refine ol_gval (v := (pt G_0 0)) (xr_fieldAddr (p := 0) (q := 0) rfl fl139_0 rfl) rfl rfl rfl rfl rfl c18 ?_
   refine ol_gval (v := V0_0) (xr_load1 (v := V0_0) rfl ag135 rfl (b_0.seg 0 rfl rfl)) rfl rfl rfl rfl rfl c18 ?_
   refine ol_gval (v := .int .i64 (List.length a0.cells : Int)) (xr_lenR rfl Try.underlying135 rfl O0_0.rd) rfl rfl rfl rfl rfl c18 ?_
   refine ol_gval (v := .bool (decide ((List.length a0.cells : Int) > 0))) (xr_gtr rfl rfl rfl) rfl rfl rfl rfl rfl c18 ?_
   refine ol_val (v := .bool (decide ((List.length a0.cells : Int) > 0))) (xr_pickT rfl rfl c18 rfl) rfl rfl rfl ?_
   refine ol_nil ?_
   refine thn_i ?_
   exact ⟨rfl, rfl, (rfl).trans (congrArg (fun z => (.bool z : Value)) (show (decide ((List.length a0.cells : Int) > 0)) = (if (decide (t11.1 ≥ 0)) = true then (decide ((List.length a0.cells : Int) > 0)) else false) from by rw [ite_t c18])), rfl⟩
  refine ol_gskip rfl rfl rfl rfl rfl c18 ?_
  refine ol_gskip rfl rfl rfl rfl rfl c18 ?_
  refine ol_gskip rfl rfl rfl rfl rfl c18 ?_
  refine ol_gskip rfl rfl rfl rfl rfl c18 ?_
  refine ol_gskip rfl rfl rfl rfl rfl c18 ?_
  refine ol_gskip rfl rfl rfl rfl rfl c18 ?_
  refine ol_val (v := .bool false) (xr_pickF rfl rfl c18 rfl) rfl rfl rfl ?_
  refine ol_nil ?_
  refine thn_i ?_
  exact ⟨rfl, rfl, (rfl).trans (congrArg (fun z => (.bool z : Value)) (show false = (if (decide (t11.1 ≥ 0)) = true then (decide ((List.length a0.cells : Int) > 0)) else false) from by rw [ite_f c18])), rfl⟩
 rintro ρ19 _ ⟨e0, e2, e24, rfl⟩
 obtain ⟨x20, j21, h22⟩ := bs h
 refine cw_mid (fun ρ' w' => ∃ O0_0 : Own k_pmem_cell 142 w' 0 V0_0 x20, ∃ O0_1 : Own (kI .i64) 3 w' 0 V0_1 a0.plan.list, ρ' 0 = (pt G_0 0) ∧ Blk w' G_0 139 [Seg.cell V0_0 O0_0.one, Seg.cell V0_1 O0_1.one, (sI t11.2.at_), Seg.cell (.bool a0.off), Seg.cell (.bool a0.armed), (sI a0.left), (sI (IntKind.i64.wrap (a0.steps + 1)))] ∧ Fr (fun j => j = G_0 ∨ some j = Value.ownBlock V0_0 ∨ some j = Value.ownBlock V0_1) w w') ?_ ?_
 ·have h := j21
  rcases is h with ⟨c23, h⟩ | ⟨c23, h⟩
  ·refine cw_condT e24 c23 ?_
   refine cw_seq ?_
   obtain ⟨g24, h⟩ := gs h
   refine cw_drawL 11 [fun vz wz => vz = ((pt G_0 0) : Value), fun vz wz => vz = ((pt G_0 0) : Value), fun vz wz => vz = ((pt G_0 0) : Value), fun vz wz => vz = (V0_0 : Value), fun vz wz => vz = (.int .i64 t11.1 : Value), fun vz wz => vz = ((pt G_0 0) : Value), fun vz wz => vz = ((pt G_0 0) : Value), fun vz wz => vz = ((pt G_0 0) : Value), fun vz wz => vz = (V0_0 : Value), fun vz wz => vz = (.int .i64 (List.length a0.cells : Int) : Value), fun vz wz => vz = (.int .i64 (Int.tmod t11.1 (List.length a0.cells : Int)) : Value)] mo rfl ⟨fun _ _ _ h _ => h, fun _ _ _ h _ => h, fun _ _ _ h _ => h, fun _ _ _ h _ => h, fun _ _ _ h _ => h, fun _ _ _ h _ => h, fun _ _ _ h _ => h, fun _ _ _ h _ => h, fun _ _ _ h _ => h, fun _ _ _ h _ => h, fun _ _ _ h _ => h, trivial⟩ ?_ ?_
   ·refine ⟨?_, ?_, ?_, ?_, ?_, ?_, ?_, ?_, ?_, ?_, ?_, trivial⟩
    ·intro ρz wz hz hk hd
     exact sk_val (v := (pt G_0 0)) (xr_move rfl ((hk 0 rfl).trans e0)) rfl rfl
    ·intro ρz wz hz hk hd
     exact sk_val (v := (pt G_0 0)) (xr_nilCheck rfl (hd 0 rfl 25 rfl)) rfl rfl
    ·intro ρz wz hz hk hd
     exact sk_val (v := (pt G_0 0)) (xr_fieldAddr (p := 0) (q := 0) rfl fl139_0 (hd 1 rfl 26 rfl)) rfl rfl
    ·intro ρz wz hz hk hd
     exact sk_val (v := V0_0) (xr_load1 (v := V0_0) rfl ag135 (hd 2 rfl 27 rfl) ((b_0.gr hz).seg 0 rfl rfl)) rfl rfl
    ·intro ρz wz hz hk hd
     exact sk_val (v := .int .i64 t11.1) (xr_move rfl ((hk 2 rfl).trans e2)) rfl rfl
    ·intro ρz wz hz hk hd
     exact sk_val (v := (pt G_0 0)) (xr_move rfl ((hk 0 rfl).trans e0)) rfl rfl
    ·intro ρz wz hz hk hd
     exact sk_val (v := (pt G_0 0)) (xr_nilCheck rfl (hd 5 rfl 30 rfl)) rfl rfl
    ·intro ρz wz hz hk hd
     exact sk_val (v := (pt G_0 0)) (xr_fieldAddr (p := 0) (q := 0) rfl fl139_0 (hd 6 rfl 31 rfl)) rfl rfl
    ·intro ρz wz hz hk hd
     exact sk_val (v := V0_0) (xr_load1 (v := V0_0) rfl ag135 (hd 7 rfl 32 rfl) ((b_0.gr hz).seg 0 rfl rfl)) rfl rfl
    ·intro ρz wz hz hk hd
     exact sk_val (v := .int .i64 (List.length a0.cells : Int)) (xr_lenR rfl Try.underlying135 (hd 8 rfl 33 rfl) (O0_0.gr hz).rd) rfl rfl
    intro ρz wz hz hk hd
    exact sk_val (v := .int .i64 (Int.tmod t11.1 (List.length a0.cells : Int))) (xr_rem rfl (hd 4 rfl 29 rfl) (hd 9 rfl 34 rfl) g24) rfl rfl
   intro ρ25 w26 q27 hk hd
   have e0 := (hk 0 rfl).trans e0
   have e28 := hd 3 rfl 28 rfl
   have e35 := hd 10 rfl 35 rfl
   have b_0 := b_0.gr q27
   have O0_0 := O0_0.gr q27
   have O0_1 := O0_1.gr q27
   have fB := fB.gr q27
   obtain ⟨g28, h⟩ := gs h
   refine ol_val (v := (pt ((sb V0_0)) (so V0_0 + Int.toNat (Int.tmod t11.1 (List.length a0.cells : Int)) * 4))) (xr_indexR (K := k_pmem_cell) (v := V0_0) rfl Try.underlying135 sz142 e28 O0_0.rd e35 g28.1 g28.2) rfl rfl rfl ?_
   refine ol_val (v := (pt ((sb V0_0)) (so V0_0 + Int.toNat (Int.tmod t11.1 (List.length a0.cells : Int)) * 4))) (xr_assign rfl rfl) rfl rfl rfl ?_
   refine ol_nil ?_
   refine cw_region ?_
   refine ol_val (v := (pt ((sb V0_0)) (so V0_0 + Int.toNat (Int.tmod t11.1 (List.length a0.cells : Int)) * 4))) (xr_move rfl rfl) rfl rfl rfl ?_
   refine ol_val (v := (pt ((sb V0_0)) (so V0_0 + Int.toNat (Int.tmod t11.1 (List.length a0.cells : Int)) * 4))) (xr_move rfl rfl) rfl rfl rfl ?_
   refine ol_val (v := (pt ((sb V0_0)) (so V0_0 + Int.toNat (Int.tmod t11.1 (List.length a0.cells : Int)) * 4))) (xr_nilCheck rfl rfl) rfl rfl rfl ?_
   refine ol_val (v := (pt ((sb V0_0)) (so V0_0 + Int.toNat (Int.tmod t11.1 (List.length a0.cells : Int)) * 4 + 1))) (xr_fieldAddr (p := so V0_0 + Int.toNat (Int.tmod t11.1 (List.length a0.cells : Int)) * 4) (q := 1) rfl fl142_1 rfl) rfl rfl rfl ?_
   refine ol_val (v := .int .u64 ((ix a0.cells (Int.tmod t11.1 (List.length a0.cells : Int))).stored)) (xr_load1 (v := .int .u64 ((ix a0.cells (Int.tmod t11.1 (List.length a0.cells : Int))).stored)) rfl ag22 rfl (At.segs (ss := segs_pmem_cell (ix a0.cells (Int.tmod t11.1 (List.length a0.cells : Int)))) (O0_0.rd.elem g28.1 g28.2) 1 1 rfl)) rfl rfl rfl ?_
   obtain ⟨t35, k36, h⟩ := bs h
   have f39 := off_ty b_0 O0_0 (by decide)
   have f40 := OffV.ty O0_1 O0_0 (by decide)
   obtain ⟨X29, Y30, h31, h32, b33, k34⟩ := Own.sub (K := k_pmem_cell) (i := (Int.tmod t11.1 (List.length a0.cells : Int))) (ss := [Seg.cell (.int .u64 ((ix a0.cells (Int.tmod t11.1 (List.length a0.cells : Int))).lasts)), Seg.cell (.int .u64 ((ix a0.cells (Int.tmod t11.1 (List.length a0.cells : Int))).stored)), Seg.cell (.int .u64 ((ix a0.cells (Int.tmod t11.1 (List.length a0.cells : Int))).sent)), Seg.cell (.bool ((ix a0.cells (Int.tmod t11.1 (List.length a0.cells : Int))).flushed))]) O0_0 g28.1 g28.2 rfl
   refine ol_op (opv_call rfl cal85 (ac (ptrE (q := List.length X29) rfl h31) (ac rfl an)) (pmem_cell_keep__i0.ok fu _ (ix a0.cells (Int.tmod t11.1 (List.length a0.cells : Int))) (sb V0_0) 142 X29 Y30 b33 ((ix a0.cells (Int.tmod t11.1 (List.length a0.cells : Int))).stored) _ k36)) rfl rfl rfl ?_
   rintro _ w42 ⟨rfl, b38, q37⟩
   have O0_0 := k34 _ t35 [Seg.cell (.int .u64 t35.lasts), Seg.cell (.int .u64 t35.stored), Seg.cell (.int .u64 t35.sent), Seg.cell (.bool t35.flushed)] rfl b38
   have q37 := fr_own q37 h32
   have b_0 := b_0.wrO q37 f39
   have O0_1 := O0_1.wrV q37 f40
   have fB := fB.wrM q37 M0_0
   refine ol_nil ?_
   obtain rfl := Option.some.inj h
   refine thn_i ?_
   exact ⟨O0_0, O0_1, e0, b_0, fB⟩
  refine cw_condF e24 c23 ?_
  refine cw_skip ?_
  obtain rfl := Option.some.inj h
  refine thn_i ?_
  exact ⟨O0_0, O0_1, e0, b_0, fB⟩
 rintro ρ43 w44 ⟨O0_0, O0_1, e0, b_0, fB⟩
 have h := h22
 refine cw_seq ?_
 refine cw_region ?_
 refine ol_val (v := (pt G_0 0)) (xr_move rfl e0) rfl rfl rfl ?_
 refine ol_val (v := (pt G_0 0)) (xr_nilCheck rfl rfl) rfl rfl rfl ?_
 refine ol_val (v := (pt G_0 4)) (xr_fieldAddr (p := 0) (q := 4) rfl fl139_3 rfl) rfl rfl rfl ?_
 refine ol_val (v := .bool a0.armed) (xr_load1 (v := .bool a0.armed) rfl ag4 rfl (b_0.seg 4 rfl rfl)) rfl rfl rfl ?_
 refine ol_nil ?_
 obtain ⟨x45, j46, h47⟩ := bs h
 refine cw_mid (fun ρ' w' => ∃ O0_0 : Own k_pmem_cell 142 w' 0 V0_0 x20, ∃ O0_1 : Own (kI .i64) 3 w' 0 V0_1 a0.plan.list, Blk w' G_0 139 [Seg.cell V0_0 O0_0.one, Seg.cell V0_1 O0_1.one, (sI t11.2.at_), Seg.cell (.bool x45.1), Seg.cell (.bool a0.armed), (sI x45.2), (sI (IntKind.i64.wrap (a0.steps + 1)))] ∧ Fr (fun j => j = G_0 ∨ some j = Value.ownBlock V0_0 ∨ some j = Value.ownBlock V0_1) w w') ?_ ?_
 ·have h := j46
  rcases is h with ⟨c48, h⟩ | ⟨c48, h⟩
  ·refine cw_condT rfl c48 ?_
   refine cw_seq ?_
   refine cw_region ?_
   refine ol_val (v := (pt G_0 0)) (xr_move rfl e0) rfl rfl rfl ?_
   refine ol_val (v := (pt G_0 0)) (xr_nilCheck rfl rfl) rfl rfl rfl ?_
   refine ol_val (v := (pt G_0 5)) (xr_fieldAddr (p := 0) (q := 5) rfl fl139_4 rfl) rfl rfl rfl ?_
   refine ol_val (v := .int .i64 a0.left) (xr_load1 (v := .int .i64 a0.left) rfl ag3 rfl (b_0.seg 5 rfl rfl)) rfl rfl rfl ?_
   refine ol_val (v := .int .i64 (IntKind.i64.wrap (a0.left - 1))) (xr_sub rfl rfl rfl) rfl rfl rfl ?_
   refine ol_val (v := (pt G_0 0)) (xr_nilCheck rfl rfl) rfl rfl rfl ?_
   refine ol_val (v := (pt G_0 5)) (xr_fieldAddr (p := 0) (q := 5) rfl fl139_4 rfl) rfl rfl rfl ?_
   have f50 := off_ty b_0 O0_0 (by decide)
   have f51 := off_ty b_0 O0_1 (by decide)
   refine ol_op0 (opv_store (ss' := [Seg.cell V0_0 O0_0.one, Seg.cell V0_1 O0_1.one, (sI t11.2.at_), Seg.cell (.bool a0.off), Seg.cell (.bool a0.armed), (sI (IntKind.i64.wrap (a0.left - 1))), (sI (IntKind.i64.wrap (a0.steps + 1)))]) (xs := cellsOf [(sI (IntKind.i64.wrap (a0.left - 1)))]) rfl sz3 rfl rfl rfl (len_cellsOf _) (one_cellsOf _) b_0 (Spl.segs _ 5 1 [(sI (IntKind.i64.wrap (a0.left - 1)))] rfl rfl)) rfl rfl ?_
   rintro _ w52 ⟨b_0, q49⟩
   have O0_0 := O0_0.wr q49 f50
   have O0_1 := O0_1.wr q49 f51
   have fB := fB.wrS q49 (.inl rfl)
   refine ol_nil ?_
   refine cw_region ?_
   refine ol_val (v := (pt G_0 0)) (xr_move rfl e0) rfl rfl rfl ?_
   refine ol_val (v := (pt G_0 0)) (xr_move rfl e0) rfl rfl rfl ?_
   refine ol_val (v := (pt G_0 0)) (xr_nilCheck rfl rfl) rfl rfl rfl ?_
   refine ol_val (v := (pt G_0 5)) (xr_fieldAddr (p := 0) (q := 5) rfl fl139_4 rfl) rfl rfl rfl ?_
   refine ol_val (v := .int .i64 (IntKind.i64.wrap (a0.left - 1))) (xr_load1 (v := .int .i64 (IntKind.i64.wrap (a0.left - 1))) rfl ag3 rfl (b_0.seg 5 rfl rfl)) rfl rfl rfl ?_
   refine ol_val (v := .bool (decide ((IntKind.i64.wrap (a0.left - 1)) = 0))) (xr_eqI rfl Try.underlying3 rfl rfl rfl) rfl rfl rfl ?_
   refine ol_val (v := (pt G_0 0)) (xr_nilCheck rfl rfl) rfl rfl rfl ?_
   refine ol_val (v := (pt G_0 3)) (xr_fieldAddr (p := 0) (q := 3) rfl fl139_2 rfl) rfl rfl rfl ?_
   have f54 := off_ty b_0 O0_0 (by decide)
   have f55 := off_ty b_0 O0_1 (by decide)
   refine ol_op0 (opv_store (ss' := [Seg.cell V0_0 O0_0.one, Seg.cell V0_1 O0_1.one, (sI t11.2.at_), Seg.cell (.bool (decide ((IntKind.i64.wrap (a0.left - 1)) = 0))), Seg.cell (.bool a0.armed), (sI (IntKind.i64.wrap (a0.left - 1))), (sI (IntKind.i64.wrap (a0.steps + 1)))]) (xs := cellsOf [Seg.cell (.bool (decide ((IntKind.i64.wrap (a0.left - 1)) = 0)))]) rfl sz4 rfl rfl rfl (len_cellsOf _) (one_cellsOf _) b_0 (Spl.segs _ 3 1 [Seg.cell (.bool (decide ((IntKind.i64.wrap (a0.left - 1)) = 0)))] rfl rfl)) rfl rfl ?_
   rintro _ w56 ⟨b_0, q53⟩
   have O0_0 := O0_0.wr q53 f54
   have O0_1 := O0_1.wr q53 f55
   have fB := fB.wrS q53 (.inl rfl)
   refine ol_nil ?_
   obtain rfl := Option.some.inj h
   refine thn_i ?_
   exact ⟨O0_0, O0_1, b_0, fB⟩
  refine cw_condF rfl c48 ?_
  refine cw_skip ?_
  obtain rfl := Option.some.inj h
  refine thn_i ?_
  exact ⟨O0_0, O0_1, b_0, fB⟩
 rintro ρ57 w58 ⟨O0_0, O0_1, b_0, fB⟩
 have h := h47
 obtain rfl := Option.some.inj h
 refine fin_end0 Try.results84 ?_
 exact ⟨_, rfl, V0_0, V0_1, O0_0, M0_0, O0_1, M0_1, rfl, b_0, fB⟩
def pmem_Device_Fence.s0 (fu : Nat) (a0 : S_pmem_Device) : (Int × (List S_pmem_cell)) → Option (Sum (List S_pmem_cell) (Int × (List S_pmem_cell))) := fun s12 => (if (decide (s12.1 < (List.length a0.cells : Int))) = true then (if 0 ≤ s12.1 ∧ s12.1 < (List.length s12.2 : Int) then (((if (ix s12.2 s12.1).flushed = true then ((pmem_cell_keep__i0.f fu (ix s12.2 s12.1) ((ix s12.2 s12.1).sent)).bind fun t31 => some ((List.set s12.2 (Int.toNat s12.1) t31))) else some (s12.2)) : Option (List S_pmem_cell)).bind fun x21 => some (Sum.inr ((IntKind.i64.wrap (s12.1 + 1)), x21))) else none) else some (Sum.inl (s12.2)))
def pmem_Device_Fence.f (fu : Nat) (a0 : S_pmem_Device) : Option (Int × S_pmem_Device) := ((pmem_Device_may.f fu a0 0 1).bind fun t7 => (if (!decide (t7 = 0)) = true then some (t7, a0) else ((loopM (pmem_Device_Fence.s0 fu a0) fu (0, a0.cells)).bind fun e13 => ((pmem_Device_step.f fu (⟨e13, a0.plan, a0.off, a0.armed, a0.left, a0.steps⟩ : S_pmem_Device)).bind fun t43 => some (0, t43)))))
theorem pmem_Device_Fence.ok (fu : Nat) (w : World) (a0 : S_pmem_Device) (G_0 : Nat) (V0_0 : Value) (O0_0 : Own k_pmem_cell 142 w 0 V0_0 a0.cells) (V0_1 : Value) (O0_1 : Own (kI .i64) 3 w 0 V0_1 a0.plan.list) (b_0 : Blk w G_0 139 [Seg.cell V0_0 O0_0.one, Seg.cell V0_1 O0_1.one, (sI a0.plan.at_), Seg.cell (.bool a0.off), Seg.cell (.bool a0.armed), (sI a0.left), (sI a0.steps)]) (r : Int × S_pmem_Device) (h : pmem_Device_Fence.f fu a0 = some r) :
  Calls Try.prog 30 (([(pt G_0 0)] : List Value).toArray) w (fun e w' => ∃ v, e = .returned v ∧ ∃ u1 : Value, ∃ u4 : Value, ∃ o2 : Own k_pmem_cell 142 w' 0 u1 r.2.cells, ∃ m3 : ∀ g, Value.ownBlock u1 = some g → w.heap.size ≤ g ∨ (g = G_0 ∨ some g = Value.ownBlock V0_0 ∨ some g = Value.ownBlock V0_1), ∃ o5 : Own (kI .i64) 3 w' 0 u4 r.2.plan.list, ∃ m6 : ∀ g, Value.ownBlock u4 = some g → w.heap.size ≤ g ∨ (g = G_0 ∨ some g = Value.ownBlock V0_0 ∨ some g = Value.ownBlock V0_1), v = .int .i64 r.1 ∧ Blk w' G_0 139 [Seg.cell u1 o2.one, Seg.cell u4 o5.one, (sI r.2.plan.at_), Seg.cell (.bool r.2.off), Seg.cell (.bool r.2.armed), (sI r.2.left), (sI r.2.steps)] ∧ Fr (fun j => j = G_0 ∨ some j = Value.ownBlock V0_0 ∨ some j = Value.ownBlock V0_1) w w') := by
 unfold pmem_Device_Fence.f at h
 have fB : Fr (fun j => j = G_0 ∨ some j = Value.ownBlock V0_0 ∨ some j = Value.ownBlock V0_1) w w := Fr.refl _ _
 have M0_0 : ∀ g, Value.ownBlock V0_0 = some g → w.heap.size ≤ g ∨ (g = G_0 ∨ some g = Value.ownBlock V0_0 ∨ some g = Value.ownBlock V0_1) := fun g hg => .inr (.inr (.inl hg.symm))
 have M0_1 : ∀ g, Value.ownBlock V0_1 = some g → w.heap.size ≤ g ∨ (g = G_0 ∨ some g = Value.ownBlock V0_0 ∨ some g = Value.ownBlock V0_1) := fun g hg => .inr (.inr (.inr hg.symm))
 refine calls_cw Try.func30 rfl Try.ntmps30 rfl ?_
 refine cw_seq ?_
 refine cw_region ?_
 refine ol_val (v := .int .i64 0) (xr_assign rfl rfl) rfl rfl rfl ?_
 refine ol_nil ?_
 refine cw_seq ?_
 refine cw_seq ?_
 refine cw_region ?_
 refine ol_val (v := (pt G_0 0)) (xr_move rfl rfl) rfl rfl rfl ?_
 obtain ⟨t7, k8, h⟩ := bs h
 refine ol_op (opv_call rfl cal83 (ac rfl (ac rfl (ac rfl an))) (pmem_Device_may.ok fu _ a0 G_0 V0_0 (O0_0.rd) V0_1 (O0_1.rd) b_0 0 1 _ k8)) rfl rfl rfl ?_
 rintro _ w10 ⟨rfl, q9⟩
 have b_0 := b_0.gr q9
 have O0_0 := O0_0.gr q9
 have O0_1 := O0_1.gr q9
 have fB := fB.gr q9
 refine ol_val (v := .int .i64 t7) (xr_assign rfl rfl) rfl rfl rfl ?_
 refine ol_nil ?_
 refine cw_seq ?_
 refine cw_region ?_
 refine ol_val (v := .int .i64 t7) (xr_move rfl rfl) rfl rfl rfl ?_
 refine ol_val (v := .bool (!decide (t7 = 0))) (xr_neI rfl Try.underlying31 rfl rfl rfl) rfl rfl rfl ?_
 refine ol_nil ?_
 rcases is h with ⟨c11, h⟩ | ⟨c11, h⟩
 ·refine cw_condT rfl c11 ?_
  refine cw_seq ?_
  refine cw_region ?_
  refine ol_val (v := .int .i64 t7) (xr_move rfl rfl) rfl rfl rfl ?_
  refine ol_val (v := .int .i64 t7) (xr_assign rfl rfl) rfl rfl rfl ?_
  refine ol_nil ?_
  refine cw_ret ?_
  repeat (first | with_reducible refine thn_r ?_ | with_reducible refine blk_r ?_)
  obtain rfl := Option.some.inj h
  refine fin_ret1 Try.results30 rfl ?_
  exact ⟨_, rfl, V0_0, V0_1, O0_0, M0_0, O0_1, M0_1, rfl, b_0, fB⟩
 refine cw_condF rfl c11 ?_
 refine cw_skip ?_
 refine cw_seq ?_
 refine cw_seq ?_
 refine cw_region ?_
 refine ol_val (v := (pt G_0 0)) (xr_move rfl rfl) rfl rfl rfl ?_
 refine ol_val (v := (pt G_0 0)) (xr_nilCheck rfl rfl) rfl rfl rfl ?_
 refine ol_val (v := (pt G_0 0)) (xr_fieldAddr (p := 0) (q := 0) rfl fl139_0 rfl) rfl rfl rfl ?_
 refine ol_val (v := V0_0) (xr_load1 (v := V0_0) rfl ag135 rfl (b_0.seg 0 rfl rfl)) rfl rfl rfl ?_
 refine ol_val (v := .int .i64 (List.length a0.cells : Int)) (xr_lenR rfl Try.underlying135 rfl O0_0.rd) rfl rfl rfl ?_
 refine ol_val (v := .int .i64 0) (xr_move rfl rfl) rfl rfl rfl ?_
 refine ol_nil ?_
 obtain ⟨e13, l14, h15⟩ := bs h
 refine cw_mid (fun ρ' w' => ∃ O0_0 : Own k_pmem_cell 142 w' 0 V0_0 e13, ∃ O0_1 : Own (kI .i64) 3 w' 0 V0_1 a0.plan.list, ρ' 0 = (pt G_0 0) ∧ Blk w' G_0 139 [Seg.cell V0_0 O0_0.one, Seg.cell V0_1 O0_1.one, (sI a0.plan.at_), Seg.cell (.bool a0.off), Seg.cell (.bool a0.armed), (sI a0.left), (sI a0.steps)] ∧ Fr (fun j => j = G_0 ∨ some j = Value.ownBlock V0_0 ∨ some j = Value.ownBlock V0_1) w w') ?_ ?_
 ·refine cw_block ?_
  refine cw_round (fun (s12 : Int × (List S_pmem_cell)) ρ' w' => ∃ O0_0 : Own k_pmem_cell 142 w' 0 V0_0 s12.2, ∃ O0_1 : Own (kI .i64) 3 w' 0 V0_1 a0.plan.list, ρ' 0 = (pt G_0 0) ∧ ρ' 15 = .int .i64 (List.length a0.cells : Int) ∧ ρ' 16 = .int .i64 s12.1 ∧ Blk w' G_0 139 [Seg.cell V0_0 O0_0.one, Seg.cell V0_1 O0_1.one, (sI a0.plan.at_), Seg.cell (.bool a0.off), Seg.cell (.bool a0.armed), (sI a0.left), (sI a0.steps)] ∧ Fr (fun j => j = G_0 ∨ some j = Value.ownBlock V0_0 ∨ some j = Value.ownBlock V0_1) w w') l14 ?_ ?_
  ·skip
   exact ⟨O0_0, O0_1, rfl, rfl, rfl, b_0, fB⟩
  rintro s12 x18 ρ16 w17 ⟨O0_0, O0_1, e0, e15, e16, b_0, fB⟩ h
  unfold pmem_Device_Fence.s0 at h
  refine cw_seq ?_
  refine cw_region ?_
  refine ol_val (v := .bool (decide (s12.1 < (List.length a0.cells : Int)))) (xr_lss rfl e16 e15) rfl rfl rfl ?_
  refine ol_nil ?_
  refine cw_seq ?_
  rcases is h with ⟨c19, h⟩ | ⟨c19, h⟩
  ·refine cw_condT rfl c19 ?_
   refine cw_skip ?_
   refine cw_seq ?_
   refine cw_block ?_
   refine cw_seq ?_
   refine cw_region ?_
   refine ol_val (v := .int .i64 s12.1) (xr_move rfl e16) rfl rfl rfl ?_
   refine ol_val (v := .int .i64 s12.1) (xr_assign rfl rfl) rfl rfl rfl ?_
   refine ol_nil ?_
   refine cw_seq ?_
   refine cw_region ?_
   refine ol_val (v := (pt G_0 0)) (xr_move rfl e0) rfl rfl rfl ?_
   refine ol_val (v := (pt G_0 0)) (xr_nilCheck rfl rfl) rfl rfl rfl ?_
   refine ol_val (v := (pt G_0 0)) (xr_fieldAddr (p := 0) (q := 0) rfl fl139_0 rfl) rfl rfl rfl ?_
   refine ol_val (v := V0_0) (xr_load1 (v := V0_0) rfl ag135 rfl (b_0.seg 0 rfl rfl)) rfl rfl rfl ?_
   refine ol_val (v := .int .i64 s12.1) (xr_move rfl rfl) rfl rfl rfl ?_
   obtain ⟨g20, h⟩ := gs h
   refine ol_val (v := (pt ((sb V0_0)) (so V0_0 + Int.toNat s12.1 * 4))) (xr_indexR (K := k_pmem_cell) (v := V0_0) rfl Try.underlying135 sz142 rfl O0_0.rd rfl g20.1 g20.2) rfl rfl rfl ?_
   refine ol_val (v := (pt ((sb V0_0)) (so V0_0 + Int.toNat s12.1 * 4))) (xr_assign rfl rfl) rfl rfl rfl ?_
   refine ol_nil ?_
   refine cw_seq ?_
   refine cw_region ?_
   refine ol_val (v := (pt ((sb V0_0)) (so V0_0 + Int.toNat s12.1 * 4))) (xr_move rfl rfl) rfl rfl rfl ?_
   refine ol_val (v := (pt ((sb V0_0)) (so V0_0 + Int.toNat s12.1 * 4))) (xr_nilCheck rfl rfl) rfl rfl rfl ?_
   refine ol_val (v := (pt ((sb V0_0)) (so V0_0 + Int.toNat s12.1 * 4 + 3))) (xr_fieldAddr (p := so V0_0 + Int.toNat s12.1 * 4) (q := 3) rfl fl142_3 rfl) rfl rfl rfl ?_
   refine ol_val (v := .bool ((ix s12.2 s12.1).flushed)) (xr_load1 (v := .bool ((ix s12.2 s12.1).flushed)) rfl ag4 rfl (At.segs (ss := segs_pmem_cell (ix s12.2 s12.1)) (O0_0.rd.elem g20.1 g20.2) 3 1 rfl)) rfl rfl rfl ?_
   refine ol_nil ?_
   obtain ⟨x21, j22, h23⟩ := bs h
   refine cw_mid (fun ρ' w' => ∃ O0_0 : Own k_pmem_cell 142 w' 0 V0_0 x21, ∃ O0_1 : Own (kI .i64) 3 w' 0 V0_1 a0.plan.list, ρ' 0 = (pt G_0 0) ∧ ρ' 15 = .int .i64 (List.length a0.cells : Int) ∧ ρ' 16 = .int .i64 s12.1 ∧ Blk w' G_0 139 [Seg.cell V0_0 O0_0.one, Seg.cell V0_1 O0_1.one, (sI a0.plan.at_), Seg.cell (.bool a0.off), Seg.cell (.bool a0.armed), (sI a0.left), (sI a0.steps)] ∧ Fr (fun j => j = G_0 ∨ some j = Value.ownBlock V0_0 ∨ some j = Value.ownBlock V0_1) w w') ?_ ?_
   ·have h := j22
    rcases is h with ⟨c24, h⟩ | ⟨c24, h⟩
    ·refine cw_condT rfl c24 ?_
     refine cw_region ?_
     refine ol_val (v := (pt ((sb V0_0)) (so V0_0 + Int.toNat s12.1 * 4))) (xr_move rfl rfl) rfl rfl rfl ?_
     refine ol_val (v := (pt ((sb V0_0)) (so V0_0 + Int.toNat s12.1 * 4))) (xr_move rfl rfl) rfl rfl rfl ?_
     refine ol_val (v := (pt ((sb V0_0)) (so V0_0 + Int.toNat s12.1 * 4))) (xr_nilCheck rfl rfl) rfl rfl rfl ?_
     refine ol_val (v := (pt ((sb V0_0)) (so V0_0 + Int.toNat s12.1 * 4 + 2))) (xr_fieldAddr (p := so V0_0 + Int.toNat s12.1 * 4) (q := 2) rfl fl142_2 rfl) rfl rfl rfl ?_
     refine ol_val (v := .int .u64 ((ix s12.2 s12.1).sent)) (xr_load1 (v := .int .u64 ((ix s12.2 s12.1).sent)) rfl ag22 rfl (At.segs (ss := segs_pmem_cell (ix s12.2 s12.1)) (O0_0.rd.elem g20.1 g20.2) 2 1 rfl)) rfl rfl rfl ?_
     obtain ⟨t31, k32, h⟩ := bs h
     have f35 := off_ty b_0 O0_0 (by decide)
     have f36 := OffV.ty O0_1 O0_0 (by decide)
     obtain ⟨X25, Y26, h27, h28, b29, k30⟩ := Own.sub (K := k_pmem_cell) (i := s12.1) (ss := [Seg.cell (.int .u64 ((ix s12.2 s12.1).lasts)), Seg.cell (.int .u64 ((ix s12.2 s12.1).stored)), Seg.cell (.int .u64 ((ix s12.2 s12.1).sent)), Seg.cell (.bool ((ix s12.2 s12.1).flushed))]) O0_0 g20.1 g20.2 rfl
     refine ol_op (opv_call rfl cal85 (ac (ptrE (q := List.length X25) rfl h27) (ac rfl an)) (pmem_cell_keep__i0.ok fu _ (ix s12.2 s12.1) (sb V0_0) 142 X25 Y26 b29 ((ix s12.2 s12.1).sent) _ k32)) rfl rfl rfl ?_
     rintro _ w38 ⟨rfl, b34, q33⟩
     have O0_0 := k30 _ t31 [Seg.cell (.int .u64 t31.lasts), Seg.cell (.int .u64 t31.stored), Seg.cell (.int .u64 t31.sent), Seg.cell (.bool t31.flushed)] rfl b34
     have q33 := fr_own q33 h28
     have b_0 := b_0.wrO q33 f35
     have O0_1 := O0_1.wrV q33 f36
     have fB := fB.wrM q33 M0_0
     refine ol_nil ?_
     obtain rfl := Option.some.inj h
     refine thn_i ?_
     exact ⟨O0_0, O0_1, e0, e15, e16, b_0, fB⟩
    refine cw_condF rfl c24 ?_
    refine cw_skip ?_
    obtain rfl := Option.some.inj h
    refine thn_i ?_
    exact ⟨O0_0, O0_1, e0, e15, e16, b_0, fB⟩
   rintro ρ39 w40 ⟨O0_0, O0_1, e0, e15, e16, b_0, fB⟩
   have h := h23
   refine blk_i ?_
   refine cw_region ?_
   refine ol_val (v := .int .i64 (IntKind.i64.wrap (s12.1 + 1))) (xr_add rfl e16 rfl) rfl rfl rfl ?_
   refine ol_val (v := .int .i64 (IntKind.i64.wrap (s12.1 + 1))) (xr_move rfl rfl) rfl rfl rfl ?_
   refine ol_nil ?_
   obtain rfl := Option.some.inj h
   refine lp_in ?_
   exact ⟨O0_0, O0_1, e0, e15, rfl, b_0, fB⟩
  refine cw_condF rfl c19 ?_
  refine cw_exit ?_
  repeat (first | with_reducible refine thn_e ?_ | with_reducible refine blk_e rfl ?_)
  obtain rfl := Option.some.inj h
  refine lp_exit ?_
  rintro rfl
  refine thn_x ?_
  exact ⟨O0_0, O0_1, e0, b_0, fB⟩
 rintro ρ41 w42 ⟨O0_0, O0_1, e0, b_0, fB⟩
 have h := h15
 refine cw_seq ?_
 refine cw_region ?_
 refine ol_val (v := (pt G_0 0)) (xr_move rfl e0) rfl rfl rfl ?_
 obtain ⟨t43, k44, h⟩ := bs h
 have c54 : ∀ k, (k = G_0 ∨ some k = Value.ownBlock V0_0 ∨ some k = Value.ownBlock V0_1) → (w.heap.size ≤ k ∨ (k = G_0 ∨ some k = Value.ownBlock V0_0 ∨ some k = Value.ownBlock V0_1)) := (cv_or (cv_eq (.inr (.inl rfl))) (cv_or (cv_own M0_0) (cv_own M0_1)))
 refine ol_op (opv_call rfl cal84 (ac rfl an) (pmem_Device_step.ok fu _ (⟨e13, a0.plan, a0.off, a0.armed, a0.left, a0.steps⟩ : S_pmem_Device) G_0 V0_0 (Own.base O0_0 (Nat.zero_le _)) V0_1 (Own.base O0_1 (Nat.zero_le _)) b_0 _ k44)) rfl rfl rfl ?_
 rintro _ w55 ⟨u46, u50, o47, m48, o51, m52, rfl, b_0, q45⟩
 have m48 : ∀ g, Value.ownBlock u46 = some g → w.heap.size ≤ g ∨ (g = G_0 ∨ some g = Value.ownBlock V0_0 ∨ some g = Value.ownBlock V0_1) := fun g hg => (m48 g hg).elim (fun x => .inl (Nat.le_trans fB.size x)) (c54 g)
 have m52 : ∀ g, Value.ownBlock u50 = some g → w.heap.size ≤ g ∨ (g = G_0 ∨ some g = Value.ownBlock V0_0 ∨ some g = Value.ownBlock V0_1) := fun g hg => (m52 g hg).elim (fun x => .inl (Nat.le_trans fB.size x)) (c54 g)
 have fB := fB.call q45 c54
 refine ol_nil ?_
 refine cw_seq ?_
 refine cw_region ?_
 refine ol_val (v := .int .i64 0) (xr_assign rfl rfl) rfl rfl rfl ?_
 refine ol_nil ?_
 refine cw_ret ?_
 repeat (first | with_reducible refine thn_r ?_ | with_reducible refine blk_r ?_)
 obtain rfl := Option.some.inj h
 refine fin_ret1 Try.results30 rfl ?_
 exact ⟨_, rfl, u46, u50, o47, m48, o51, m52, rfl, b_0, fB⟩
def press_Sure.f (fu : Nat) (a0 : S_pmem_Device) : Option (Int × S_pmem_Device) := ((pmem_Device_Fence.f fu a0).bind fun t7 => some (t7.1, t7.2))
theorem press_Sure.ok (fu : Nat) (w : World) (a0 : S_pmem_Device) (G_0 : Nat) (V0_0 : Value) (O0_0 : Own k_pmem_cell 142 w 0 V0_0 a0.cells) (V0_1 : Value) (O0_1 : Own (kI .i64) 3 w 0 V0_1 a0.plan.list) (b_0 : Blk w G_0 139 [Seg.cell V0_0 O0_0.one, Seg.cell V0_1 O0_1.one, (sI a0.plan.at_), Seg.cell (.bool a0.off), Seg.cell (.bool a0.armed), (sI a0.left), (sI a0.steps)]) (r : Int × S_pmem_Device) (h : press_Sure.f fu a0 = some r) :
  Calls Try.prog 54 (([(pt G_0 0)] : List Value).toArray) w (fun e w' => ∃ v, e = .returned v ∧ ∃ u1 : Value, ∃ u4 : Value, ∃ o2 : Own k_pmem_cell 142 w' 0 u1 r.2.cells, ∃ m3 : ∀ g, Value.ownBlock u1 = some g → w.heap.size ≤ g ∨ (g = G_0 ∨ some g = Value.ownBlock V0_0 ∨ some g = Value.ownBlock V0_1), ∃ o5 : Own (kI .i64) 3 w' 0 u4 r.2.plan.list, ∃ m6 : ∀ g, Value.ownBlock u4 = some g → w.heap.size ≤ g ∨ (g = G_0 ∨ some g = Value.ownBlock V0_0 ∨ some g = Value.ownBlock V0_1), v = .int .i64 r.1 ∧ Blk w' G_0 139 [Seg.cell u1 o2.one, Seg.cell u4 o5.one, (sI r.2.plan.at_), Seg.cell (.bool r.2.off), Seg.cell (.bool r.2.armed), (sI r.2.left), (sI r.2.steps)] ∧ Fr (fun j => j = G_0 ∨ some j = Value.ownBlock V0_0 ∨ some j = Value.ownBlock V0_1) w w') := by
 unfold press_Sure.f at h
 have fB : Fr (fun j => j = G_0 ∨ some j = Value.ownBlock V0_0 ∨ some j = Value.ownBlock V0_1) w w := Fr.refl _ _
 have M0_0 : ∀ g, Value.ownBlock V0_0 = some g → w.heap.size ≤ g ∨ (g = G_0 ∨ some g = Value.ownBlock V0_0 ∨ some g = Value.ownBlock V0_1) := fun g hg => .inr (.inr (.inl hg.symm))
 have M0_1 : ∀ g, Value.ownBlock V0_1 = some g → w.heap.size ≤ g ∨ (g = G_0 ∨ some g = Value.ownBlock V0_0 ∨ some g = Value.ownBlock V0_1) := fun g hg => .inr (.inr (.inr hg.symm))
 refine calls_cw Try.func54 rfl Try.ntmps54 rfl ?_
 refine cw_seq ?_
 refine cw_region ?_
 refine ol_val (v := .int .i64 0) (xr_assign rfl rfl) rfl rfl rfl ?_
 refine ol_nil ?_
 refine cw_seq ?_
 refine cw_seq ?_
 refine cw_region ?_
 refine ol_val (v := (pt G_0 0)) (xr_move rfl rfl) rfl rfl rfl ?_
 refine ol_val (v := .bool false) (xr_eqP (b := false) rfl Try.underlying30 rfl rfl (by simp) (by simp)) rfl rfl rfl ?_
 refine ol_nil ?_
 refine cw_condF rfl rfl ?_
 refine cw_skip ?_
 refine cw_seq ?_
 refine cw_region ?_
 refine ol_val (v := (pt G_0 0)) (xr_move rfl rfl) rfl rfl rfl ?_
 obtain ⟨t7, k8, h⟩ := bs h
 have c18 : ∀ k, (k = G_0 ∨ some k = Value.ownBlock V0_0 ∨ some k = Value.ownBlock V0_1) → (w.heap.size ≤ k ∨ (k = G_0 ∨ some k = Value.ownBlock V0_0 ∨ some k = Value.ownBlock V0_1)) := (cv_or (cv_eq (.inr (.inl rfl))) (cv_or (cv_own M0_0) (cv_own M0_1)))
 refine ol_op (opv_call rfl cal30 (ac rfl an) (pmem_Device_Fence.ok fu _ a0 G_0 V0_0 (Own.base O0_0 (Nat.zero_le _)) V0_1 (Own.base O0_1 (Nat.zero_le _)) b_0 _ k8)) rfl rfl rfl ?_
 rintro _ w19 ⟨u10, u14, o11, m12, o15, m16, rfl, b_0, q9⟩
 have m12 : ∀ g, Value.ownBlock u10 = some g → w.heap.size ≤ g ∨ (g = G_0 ∨ some g = Value.ownBlock V0_0 ∨ some g = Value.ownBlock V0_1) := fun g hg => (m12 g hg).elim (fun x => .inl (Nat.le_trans fB.size x)) (c18 g)
 have m16 : ∀ g, Value.ownBlock u14 = some g → w.heap.size ≤ g ∨ (g = G_0 ∨ some g = Value.ownBlock V0_0 ∨ some g = Value.ownBlock V0_1) := fun g hg => (m16 g hg).elim (fun x => .inl (Nat.le_trans fB.size x)) (c18 g)
 have fB := fB.call q9 c18
 refine ol_val (v := .int .i64 t7.1) (xr_assign rfl rfl) rfl rfl rfl ?_
 refine ol_nil ?_
 refine cw_ret ?_
 repeat (first | with_reducible refine thn_r ?_ | with_reducible refine blk_r ?_)
 obtain rfl := Option.some.inj h
 refine fin_ret1 Try.results54 rfl ?_
 exact ⟨_, rfl, u10, u14, o11, m12, o15, m16, rfl, b_0, fB⟩
def pmem_Device_Store.f (fu : Nat) (a0 : S_pmem_Device) (a1 : Int) (a2 : Int) : Option (Int × S_pmem_Device) := ((pmem_Device_may.f fu a0 a1 (List.length a0.cells : Int)).bind fun t7 => (if (!decide (t7 = 0)) = true then some (t7, a0) else (if 0 ≤ a1 ∧ a1 < (List.length a0.cells : Int) then ((pmem_Device_step.f fu (⟨(List.set a0.cells (Int.toNat a1) (⟨(ix a0.cells a1).lasts, a2, (ix a0.cells a1).sent, (ix a0.cells a1).flushed⟩ : S_pmem_cell)), a0.plan, a0.off, a0.armed, a0.left, a0.steps⟩ : S_pmem_Device)).bind fun t18 => some (0, t18)) else none)))
theorem pmem_Device_Store.ok (fu : Nat) (w : World) (a0 : S_pmem_Device) (G_0 : Nat) (V0_0 : Value) (O0_0 : Own k_pmem_cell 142 w 0 V0_0 a0.cells) (V0_1 : Value) (O0_1 : Own (kI .i64) 3 w 0 V0_1 a0.plan.list) (b_0 : Blk w G_0 139 [Seg.cell V0_0 O0_0.one, Seg.cell V0_1 O0_1.one, (sI a0.plan.at_), Seg.cell (.bool a0.off), Seg.cell (.bool a0.armed), (sI a0.left), (sI a0.steps)]) (a1 : Int) (a2 : Int) (r : Int × S_pmem_Device) (h : pmem_Device_Store.f fu a0 a1 a2 = some r) :
  Calls Try.prog 28 (([(pt G_0 0), .int .i64 a1, .int .u64 a2] : List Value).toArray) w (fun e w' => ∃ v, e = .returned v ∧ ∃ u1 : Value, ∃ u4 : Value, ∃ o2 : Own k_pmem_cell 142 w' 0 u1 r.2.cells, ∃ m3 : ∀ g, Value.ownBlock u1 = some g → w.heap.size ≤ g ∨ (g = G_0 ∨ some g = Value.ownBlock V0_0 ∨ some g = Value.ownBlock V0_1), ∃ o5 : Own (kI .i64) 3 w' 0 u4 r.2.plan.list, ∃ m6 : ∀ g, Value.ownBlock u4 = some g → w.heap.size ≤ g ∨ (g = G_0 ∨ some g = Value.ownBlock V0_0 ∨ some g = Value.ownBlock V0_1), v = .int .i64 r.1 ∧ Blk w' G_0 139 [Seg.cell u1 o2.one, Seg.cell u4 o5.one, (sI r.2.plan.at_), Seg.cell (.bool r.2.off), Seg.cell (.bool r.2.armed), (sI r.2.left), (sI r.2.steps)] ∧ Fr (fun j => j = G_0 ∨ some j = Value.ownBlock V0_0 ∨ some j = Value.ownBlock V0_1) w w') := by
 unfold pmem_Device_Store.f at h
 have fB : Fr (fun j => j = G_0 ∨ some j = Value.ownBlock V0_0 ∨ some j = Value.ownBlock V0_1) w w := Fr.refl _ _
 have M0_0 : ∀ g, Value.ownBlock V0_0 = some g → w.heap.size ≤ g ∨ (g = G_0 ∨ some g = Value.ownBlock V0_0 ∨ some g = Value.ownBlock V0_1) := fun g hg => .inr (.inr (.inl hg.symm))
 have M0_1 : ∀ g, Value.ownBlock V0_1 = some g → w.heap.size ≤ g ∨ (g = G_0 ∨ some g = Value.ownBlock V0_0 ∨ some g = Value.ownBlock V0_1) := fun g hg => .inr (.inr (.inr hg.symm))
 refine calls_cw Try.func28 rfl Try.ntmps28 rfl ?_
 refine cw_seq ?_
 refine cw_region ?_
 refine ol_val (v := .int .i64 0) (xr_assign rfl rfl) rfl rfl rfl ?_
 refine ol_nil ?_
 refine cw_seq ?_
 refine cw_seq ?_
 refine cw_region ?_
 refine ol_val (v := (pt G_0 0)) (xr_move rfl rfl) rfl rfl rfl ?_
 refine ol_val (v := .int .i64 a1) (xr_move rfl rfl) rfl rfl rfl ?_
 refine ol_val (v := (pt G_0 0)) (xr_move rfl rfl) rfl rfl rfl ?_
 refine ol_val (v := (pt G_0 0)) (xr_nilCheck rfl rfl) rfl rfl rfl ?_
 refine ol_val (v := (pt G_0 0)) (xr_fieldAddr (p := 0) (q := 0) rfl fl139_0 rfl) rfl rfl rfl ?_
 refine ol_val (v := V0_0) (xr_load1 (v := V0_0) rfl ag135 rfl (b_0.seg 0 rfl rfl)) rfl rfl rfl ?_
 refine ol_val (v := .int .i64 (List.length a0.cells : Int)) (xr_lenR rfl Try.underlying135 rfl O0_0.rd) rfl rfl rfl ?_
 obtain ⟨t7, k8, h⟩ := bs h
 refine ol_op (opv_call rfl cal83 (ac rfl (ac rfl (ac rfl an))) (pmem_Device_may.ok fu _ a0 G_0 V0_0 (O0_0.rd) V0_1 (O0_1.rd) b_0 a1 (List.length a0.cells : Int) _ k8)) rfl rfl rfl ?_
 rintro _ w10 ⟨rfl, q9⟩
 have b_0 := b_0.gr q9
 have O0_0 := O0_0.gr q9
 have O0_1 := O0_1.gr q9
 have fB := fB.gr q9
 refine ol_val (v := .int .i64 t7) (xr_assign rfl rfl) rfl rfl rfl ?_
 refine ol_nil ?_
 refine cw_seq ?_
 refine cw_region ?_
 refine ol_val (v := .int .i64 t7) (xr_move rfl rfl) rfl rfl rfl ?_
 refine ol_val (v := .bool (!decide (t7 = 0))) (xr_neI rfl Try.underlying31 rfl rfl rfl) rfl rfl rfl ?_
 refine ol_nil ?_
 rcases is h with ⟨c11, h⟩ | ⟨c11, h⟩
 ·refine cw_condT rfl c11 ?_
  refine cw_seq ?_
  refine cw_region ?_
  refine ol_val (v := .int .i64 t7) (xr_move rfl rfl) rfl rfl rfl ?_
  refine ol_val (v := .int .i64 t7) (xr_assign rfl rfl) rfl rfl rfl ?_
  refine ol_nil ?_
  refine cw_ret ?_
  repeat (first | with_reducible refine thn_r ?_ | with_reducible refine blk_r ?_)
  obtain rfl := Option.some.inj h
  refine fin_ret1 Try.results28 rfl ?_
  exact ⟨_, rfl, V0_0, V0_1, O0_0, M0_0, O0_1, M0_1, rfl, b_0, fB⟩
 refine cw_condF rfl c11 ?_
 refine cw_skip ?_
 refine cw_seq ?_
 refine cw_region ?_
 refine ol_val (v := (pt G_0 0)) (xr_move rfl rfl) rfl rfl rfl ?_
 refine ol_val (v := (pt G_0 0)) (xr_nilCheck rfl rfl) rfl rfl rfl ?_
 refine ol_val (v := (pt G_0 0)) (xr_fieldAddr (p := 0) (q := 0) rfl fl139_0 rfl) rfl rfl rfl ?_
 refine ol_val (v := V0_0) (xr_load1 (v := V0_0) rfl ag135 rfl (b_0.seg 0 rfl rfl)) rfl rfl rfl ?_
 refine ol_val (v := .int .i64 a1) (xr_move rfl rfl) rfl rfl rfl ?_
 refine ol_val (v := .int .u64 a2) (xr_move rfl rfl) rfl rfl rfl ?_
 obtain ⟨g12, h⟩ := gs h
 refine ol_val (v := (pt ((sb V0_0)) (so V0_0 + Int.toNat a1 * 4))) (xr_indexR (K := k_pmem_cell) (v := V0_0) rfl Try.underlying135 sz142 rfl O0_0.rd rfl g12.1 g12.2) rfl rfl rfl ?_
 refine ol_val (v := (pt ((sb V0_0)) (so V0_0 + Int.toNat a1 * 4 + 1))) (xr_fieldAddr (p := so V0_0 + Int.toNat a1 * 4) (q := 1) rfl fl142_1 rfl) rfl rfl rfl ?_
 have f14 := off_ty b_0 O0_0 (by decide)
 have f15 := OffV.ty O0_1 O0_0 (by decide)
 refine ol_op0 (opv_storeRow (z := (⟨(ix a0.cells a1).lasts, a2, (ix a0.cells a1).sent, (ix a0.cells a1).flushed⟩ : S_pmem_cell)) (xs := cellsOf [Seg.cell (.int .u64 a2)]) rfl sz22 rfl rfl rfl (len_cellsOf _) (one_cellsOf _) O0_0 g12.1 g12.2 (Spl.segs (segs_pmem_cell (ix a0.cells a1)) 1 1 [Seg.cell (.int .u64 a2)] rfl rfl) rfl) rfl rfl ?_
 rintro _ w17 ⟨O0_0, q13⟩
 have b_0 := b_0.wrO q13 f14
 have O0_1 := O0_1.wrV q13 f15
 have fB := fB.wrM q13 M0_0
 refine ol_nil ?_
 refine cw_seq ?_
 refine cw_region ?_
 refine ol_val (v := (pt G_0 0)) (xr_move rfl rfl) rfl rfl rfl ?_
 obtain ⟨t18, k19, h⟩ := bs h
 have c29 : ∀ k, (k = G_0 ∨ some k = Value.ownBlock V0_0 ∨ some k = Value.ownBlock V0_1) → (w.heap.size ≤ k ∨ (k = G_0 ∨ some k = Value.ownBlock V0_0 ∨ some k = Value.ownBlock V0_1)) := (cv_or (cv_eq (.inr (.inl rfl))) (cv_or (cv_own M0_0) (cv_own M0_1)))
 refine ol_op (opv_call rfl cal84 (ac rfl an) (pmem_Device_step.ok fu _ (⟨(List.set a0.cells (Int.toNat a1) (⟨(ix a0.cells a1).lasts, a2, (ix a0.cells a1).sent, (ix a0.cells a1).flushed⟩ : S_pmem_cell)), a0.plan, a0.off, a0.armed, a0.left, a0.steps⟩ : S_pmem_Device) G_0 V0_0 (Own.base O0_0 (Nat.zero_le _)) V0_1 (Own.base O0_1 (Nat.zero_le _)) b_0 _ k19)) rfl rfl rfl ?_
 rintro _ w30 ⟨u21, u25, o22, m23, o26, m27, rfl, b_0, q20⟩
 have m23 : ∀ g, Value.ownBlock u21 = some g → w.heap.size ≤ g ∨ (g = G_0 ∨ some g = Value.ownBlock V0_0 ∨ some g = Value.ownBlock V0_1) := fun g hg => (m23 g hg).elim (fun x => .inl (Nat.le_trans fB.size x)) (c29 g)
 have m27 : ∀ g, Value.ownBlock u25 = some g → w.heap.size ≤ g ∨ (g = G_0 ∨ some g = Value.ownBlock V0_0 ∨ some g = Value.ownBlock V0_1) := fun g hg => (m27 g hg).elim (fun x => .inl (Nat.le_trans fB.size x)) (c29 g)
 have fB := fB.call q20 c29
 refine ol_nil ?_
 refine cw_seq ?_
 refine cw_region ?_
 refine ol_val (v := .int .i64 0) (xr_assign rfl rfl) rfl rfl rfl ?_
 refine ol_nil ?_
 refine cw_ret ?_
 repeat (first | with_reducible refine thn_r ?_ | with_reducible refine blk_r ?_)
 obtain rfl := Option.some.inj h
 refine fin_ret1 Try.results28 rfl ?_
 exact ⟨_, rfl, u21, u25, o22, m23, o26, m27, rfl, b_0, fB⟩
def pmem_Device_Flush.s0 (fu : Nat) (a1 : Int) : (Int × (List S_pmem_cell)) → Option (Sum (List S_pmem_cell) (Int × (List S_pmem_cell))) := fun s16 => (if (decide (s16.1 < 8)) = true then (if 0 ≤ (IntKind.i64.wrap ((IntKind.i64.wrap (a1 * 8)) + s16.1)) ∧ (IntKind.i64.wrap ((IntKind.i64.wrap (a1 * 8)) + s16.1)) < (List.length s16.2 : Int) then some (Sum.inr ((IntKind.i64.wrap (s16.1 + 1)), (List.set (List.set s16.2 (Int.toNat (IntKind.i64.wrap ((IntKind.i64.wrap (a1 * 8)) + s16.1))) (⟨(ix s16.2 (IntKind.i64.wrap ((IntKind.i64.wrap (a1 * 8)) + s16.1))).lasts, (ix s16.2 (IntKind.i64.wrap ((IntKind.i64.wrap (a1 * 8)) + s16.1))).stored, (ix s16.2 (IntKind.i64.wrap ((IntKind.i64.wrap (a1 * 8)) + s16.1))).stored, (ix s16.2 (IntKind.i64.wrap ((IntKind.i64.wrap (a1 * 8)) + s16.1))).flushed⟩ : S_pmem_cell)) (Int.toNat (IntKind.i64.wrap ((IntKind.i64.wrap (a1 * 8)) + s16.1))) (⟨(ix (List.set s16.2 (Int.toNat (IntKind.i64.wrap ((IntKind.i64.wrap (a1 * 8)) + s16.1))) (⟨(ix s16.2 (IntKind.i64.wrap ((IntKind.i64.wrap (a1 * 8)) + s16.1))).lasts, (ix s16.2 (IntKind.i64.wrap ((IntKind.i64.wrap (a1 * 8)) + s16.1))).stored, (ix s16.2 (IntKind.i64.wrap ((IntKind.i64.wrap (a1 * 8)) + s16.1))).stored, (ix s16.2 (IntKind.i64.wrap ((IntKind.i64.wrap (a1 * 8)) + s16.1))).flushed⟩ : S_pmem_cell)) (IntKind.i64.wrap ((IntKind.i64.wrap (a1 * 8)) + s16.1))).lasts, (ix (List.set s16.2 (Int.toNat (IntKind.i64.wrap ((IntKind.i64.wrap (a1 * 8)) + s16.1))) (⟨(ix s16.2 (IntKind.i64.wrap ((IntKind.i64.wrap (a1 * 8)) + s16.1))).lasts, (ix s16.2 (IntKind.i64.wrap ((IntKind.i64.wrap (a1 * 8)) + s16.1))).stored, (ix s16.2 (IntKind.i64.wrap ((IntKind.i64.wrap (a1 * 8)) + s16.1))).stored, (ix s16.2 (IntKind.i64.wrap ((IntKind.i64.wrap (a1 * 8)) + s16.1))).flushed⟩ : S_pmem_cell)) (IntKind.i64.wrap ((IntKind.i64.wrap (a1 * 8)) + s16.1))).stored, (ix (List.set s16.2 (Int.toNat (IntKind.i64.wrap ((IntKind.i64.wrap (a1 * 8)) + s16.1))) (⟨(ix s16.2 (IntKind.i64.wrap ((IntKind.i64.wrap (a1 * 8)) + s16.1))).lasts, (ix s16.2 (IntKind.i64.wrap ((IntKind.i64.wrap (a1 * 8)) + s16.1))).stored, (ix s16.2 (IntKind.i64.wrap ((IntKind.i64.wrap (a1 * 8)) + s16.1))).stored, (ix s16.2 (IntKind.i64.wrap ((IntKind.i64.wrap (a1 * 8)) + s16.1))).flushed⟩ : S_pmem_cell)) (IntKind.i64.wrap ((IntKind.i64.wrap (a1 * 8)) + s16.1))).sent, true⟩ : S_pmem_cell)))) else none) else some (Sum.inl (s16.2)))
def pmem_Device_Flush.f (fu : Nat) (a0 : S_pmem_Device) (a1 : Int) : Option (Int × S_pmem_Device) := ((pmem_Device_Lines.f fu a0).bind fun t7 => ((pmem_Device_may.f fu a0 a1 t7).bind fun t11 => (if (!decide (t11 = 0)) = true then some (t11, a0) else ((loopM (pmem_Device_Flush.s0 fu a1) fu (0, a0.cells)).bind fun e17 => ((pmem_Device_step.f fu (⟨e17, a0.plan, a0.off, a0.armed, a0.left, a0.steps⟩ : S_pmem_Device)).bind fun t37 => some (0, t37))))))
theorem pmem_Device_Flush.ok (fu : Nat) (w : World) (a0 : S_pmem_Device) (G_0 : Nat) (V0_0 : Value) (O0_0 : Own k_pmem_cell 142 w 0 V0_0 a0.cells) (V0_1 : Value) (O0_1 : Own (kI .i64) 3 w 0 V0_1 a0.plan.list) (b_0 : Blk w G_0 139 [Seg.cell V0_0 O0_0.one, Seg.cell V0_1 O0_1.one, (sI a0.plan.at_), Seg.cell (.bool a0.off), Seg.cell (.bool a0.armed), (sI a0.left), (sI a0.steps)]) (a1 : Int) (r : Int × S_pmem_Device) (h : pmem_Device_Flush.f fu a0 a1 = some r) :
  Calls Try.prog 29 (([(pt G_0 0), .int .i64 a1] : List Value).toArray) w (fun e w' => ∃ v, e = .returned v ∧ ∃ u1 : Value, ∃ u4 : Value, ∃ o2 : Own k_pmem_cell 142 w' 0 u1 r.2.cells, ∃ m3 : ∀ g, Value.ownBlock u1 = some g → w.heap.size ≤ g ∨ (g = G_0 ∨ some g = Value.ownBlock V0_0 ∨ some g = Value.ownBlock V0_1), ∃ o5 : Own (kI .i64) 3 w' 0 u4 r.2.plan.list, ∃ m6 : ∀ g, Value.ownBlock u4 = some g → w.heap.size ≤ g ∨ (g = G_0 ∨ some g = Value.ownBlock V0_0 ∨ some g = Value.ownBlock V0_1), v = .int .i64 r.1 ∧ Blk w' G_0 139 [Seg.cell u1 o2.one, Seg.cell u4 o5.one, (sI r.2.plan.at_), Seg.cell (.bool r.2.off), Seg.cell (.bool r.2.armed), (sI r.2.left), (sI r.2.steps)] ∧ Fr (fun j => j = G_0 ∨ some j = Value.ownBlock V0_0 ∨ some j = Value.ownBlock V0_1) w w') := by
 unfold pmem_Device_Flush.f at h
 have fB : Fr (fun j => j = G_0 ∨ some j = Value.ownBlock V0_0 ∨ some j = Value.ownBlock V0_1) w w := Fr.refl _ _
 have M0_0 : ∀ g, Value.ownBlock V0_0 = some g → w.heap.size ≤ g ∨ (g = G_0 ∨ some g = Value.ownBlock V0_0 ∨ some g = Value.ownBlock V0_1) := fun g hg => .inr (.inr (.inl hg.symm))
 have M0_1 : ∀ g, Value.ownBlock V0_1 = some g → w.heap.size ≤ g ∨ (g = G_0 ∨ some g = Value.ownBlock V0_0 ∨ some g = Value.ownBlock V0_1) := fun g hg => .inr (.inr (.inr hg.symm))
 refine calls_cw Try.func29 rfl Try.ntmps29 rfl ?_
 refine cw_seq ?_
 refine cw_region ?_
 refine ol_val (v := .int .i64 0) (xr_assign rfl rfl) rfl rfl rfl ?_
 refine ol_nil ?_
 refine cw_seq ?_
 refine cw_seq ?_
 refine cw_region ?_
 refine ol_val (v := (pt G_0 0)) (xr_move rfl rfl) rfl rfl rfl ?_
 refine ol_val (v := .int .i64 a1) (xr_move rfl rfl) rfl rfl rfl ?_
 refine ol_val (v := (pt G_0 0)) (xr_move rfl rfl) rfl rfl rfl ?_
 obtain ⟨t7, k8, h⟩ := bs h
 refine ol_op (opv_call rfl cal43 (ac rfl an) (pmem_Device_Lines.ok fu _ a0 G_0 V0_0 (O0_0.rd) V0_1 (O0_1.rd) b_0 _ k8)) rfl rfl rfl ?_
 rintro _ w10 ⟨rfl, q9⟩
 have b_0 := b_0.gr q9
 have O0_0 := O0_0.gr q9
 have O0_1 := O0_1.gr q9
 have fB := fB.gr q9
 obtain ⟨t11, k12, h⟩ := bs h
 refine ol_op (opv_call rfl cal83 (ac rfl (ac rfl (ac rfl an))) (pmem_Device_may.ok fu _ a0 G_0 V0_0 (O0_0.rd) V0_1 (O0_1.rd) b_0 a1 t7 _ k12)) rfl rfl rfl ?_
 rintro _ w14 ⟨rfl, q13⟩
 have b_0 := b_0.gr q13
 have O0_0 := O0_0.gr q13
 have O0_1 := O0_1.gr q13
 have fB := fB.gr q13
 refine ol_val (v := .int .i64 t11) (xr_assign rfl rfl) rfl rfl rfl ?_
 refine ol_nil ?_
 refine cw_seq ?_
 refine cw_region ?_
 refine ol_val (v := .int .i64 t11) (xr_move rfl rfl) rfl rfl rfl ?_
 refine ol_val (v := .bool (!decide (t11 = 0))) (xr_neI rfl Try.underlying31 rfl rfl rfl) rfl rfl rfl ?_
 refine ol_nil ?_
 rcases is h with ⟨c15, h⟩ | ⟨c15, h⟩
 ·refine cw_condT rfl c15 ?_
  refine cw_seq ?_
  refine cw_region ?_
  refine ol_val (v := .int .i64 t11) (xr_move rfl rfl) rfl rfl rfl ?_
  refine ol_val (v := .int .i64 t11) (xr_assign rfl rfl) rfl rfl rfl ?_
  refine ol_nil ?_
  refine cw_ret ?_
  repeat (first | with_reducible refine thn_r ?_ | with_reducible refine blk_r ?_)
  obtain rfl := Option.some.inj h
  refine fin_ret1 Try.results29 rfl ?_
  exact ⟨_, rfl, V0_0, V0_1, O0_0, M0_0, O0_1, M0_1, rfl, b_0, fB⟩
 refine cw_condF rfl c15 ?_
 refine cw_skip ?_
 refine cw_seq ?_
 refine cw_seq ?_
 refine cw_region ?_
 refine ol_val (v := .int .i64 0) (xr_move rfl rfl) rfl rfl rfl ?_
 refine ol_nil ?_
 obtain ⟨e17, l18, h19⟩ := bs h
 refine cw_mid (fun ρ' w' => ∃ O0_0 : Own k_pmem_cell 142 w' 0 V0_0 e17, ∃ O0_1 : Own (kI .i64) 3 w' 0 V0_1 a0.plan.list, ρ' 0 = (pt G_0 0) ∧ Blk w' G_0 139 [Seg.cell V0_0 O0_0.one, Seg.cell V0_1 O0_1.one, (sI a0.plan.at_), Seg.cell (.bool a0.off), Seg.cell (.bool a0.armed), (sI a0.left), (sI a0.steps)] ∧ Fr (fun j => j = G_0 ∨ some j = Value.ownBlock V0_0 ∨ some j = Value.ownBlock V0_1) w w') ?_ ?_
 ·refine cw_block ?_
  refine cw_round (fun (s16 : Int × (List S_pmem_cell)) ρ' w' => ∃ O0_0 : Own k_pmem_cell 142 w' 0 V0_0 s16.2, ∃ O0_1 : Own (kI .i64) 3 w' 0 V0_1 a0.plan.list, ρ' 0 = (pt G_0 0) ∧ ρ' 1 = .int .i64 a1 ∧ ρ' 16 = .int .i64 s16.1 ∧ Blk w' G_0 139 [Seg.cell V0_0 O0_0.one, Seg.cell V0_1 O0_1.one, (sI a0.plan.at_), Seg.cell (.bool a0.off), Seg.cell (.bool a0.armed), (sI a0.left), (sI a0.steps)] ∧ Fr (fun j => j = G_0 ∨ some j = Value.ownBlock V0_0 ∨ some j = Value.ownBlock V0_1) w w') l18 ?_ ?_
  ·skip
   exact ⟨O0_0, O0_1, rfl, rfl, rfl, b_0, fB⟩
  rintro s16 x22 ρ20 w21 ⟨O0_0, O0_1, e0, e1, e16, b_0, fB⟩ h
  unfold pmem_Device_Flush.s0 at h
  refine cw_seq ?_
  refine cw_region ?_
  refine ol_val (v := .bool (decide (s16.1 < 8))) (xr_lss rfl e16 rfl) rfl rfl rfl ?_
  refine ol_nil ?_
  refine cw_seq ?_
  rcases is h with ⟨c23, h⟩ | ⟨c23, h⟩
  ·refine cw_condT rfl c23 ?_
   refine cw_skip ?_
   refine cw_seq ?_
   refine cw_block ?_
   refine cw_seq ?_
   refine cw_region ?_
   refine ol_val (v := .int .i64 s16.1) (xr_move rfl e16) rfl rfl rfl ?_
   refine ol_val (v := .int .i64 s16.1) (xr_assign rfl rfl) rfl rfl rfl ?_
   refine ol_nil ?_
   refine cw_seq ?_
   refine cw_region ?_
   refine ol_val (v := (pt G_0 0)) (xr_move rfl e0) rfl rfl rfl ?_
   refine ol_val (v := (pt G_0 0)) (xr_nilCheck rfl rfl) rfl rfl rfl ?_
   refine ol_val (v := (pt G_0 0)) (xr_fieldAddr (p := 0) (q := 0) rfl fl139_0 rfl) rfl rfl rfl ?_
   refine ol_val (v := V0_0) (xr_load1 (v := V0_0) rfl ag135 rfl (b_0.seg 0 rfl rfl)) rfl rfl rfl ?_
   refine ol_val (v := .int .i64 a1) (xr_move rfl e1) rfl rfl rfl ?_
   refine ol_val (v := .int .i64 (IntKind.i64.wrap (a1 * 8))) (xr_mul rfl rfl rfl) rfl rfl rfl ?_
   refine ol_val (v := .int .i64 s16.1) (xr_move rfl rfl) rfl rfl rfl ?_
   refine ol_val (v := .int .i64 (IntKind.i64.wrap ((IntKind.i64.wrap (a1 * 8)) + s16.1))) (xr_add rfl rfl rfl) rfl rfl rfl ?_
   obtain ⟨g24, h⟩ := gs h
   refine ol_val (v := (pt ((sb V0_0)) (so V0_0 + Int.toNat (IntKind.i64.wrap ((IntKind.i64.wrap (a1 * 8)) + s16.1)) * 4))) (xr_indexR (K := k_pmem_cell) (v := V0_0) rfl Try.underlying135 sz142 rfl O0_0.rd rfl g24.1 g24.2) rfl rfl rfl ?_
   refine ol_val (v := (pt ((sb V0_0)) (so V0_0 + Int.toNat (IntKind.i64.wrap ((IntKind.i64.wrap (a1 * 8)) + s16.1)) * 4))) (xr_assign rfl rfl) rfl rfl rfl ?_
   refine ol_nil ?_
   refine cw_region ?_
   refine ol_val (v := (pt ((sb V0_0)) (so V0_0 + Int.toNat (IntKind.i64.wrap ((IntKind.i64.wrap (a1 * 8)) + s16.1)) * 4))) (xr_move rfl rfl) rfl rfl rfl ?_
   refine ol_val (v := (pt ((sb V0_0)) (so V0_0 + Int.toNat (IntKind.i64.wrap ((IntKind.i64.wrap (a1 * 8)) + s16.1)) * 4))) (xr_move rfl rfl) rfl rfl rfl ?_
   refine ol_val (v := (pt ((sb V0_0)) (so V0_0 + Int.toNat (IntKind.i64.wrap ((IntKind.i64.wrap (a1 * 8)) + s16.1)) * 4))) (xr_move rfl rfl) rfl rfl rfl ?_
   refine ol_val (v := (pt ((sb V0_0)) (so V0_0 + Int.toNat (IntKind.i64.wrap ((IntKind.i64.wrap (a1 * 8)) + s16.1)) * 4))) (xr_nilCheck rfl rfl) rfl rfl rfl ?_
   refine ol_val (v := (pt ((sb V0_0)) (so V0_0 + Int.toNat (IntKind.i64.wrap ((IntKind.i64.wrap (a1 * 8)) + s16.1)) * 4 + 1))) (xr_fieldAddr (p := so V0_0 + Int.toNat (IntKind.i64.wrap ((IntKind.i64.wrap (a1 * 8)) + s16.1)) * 4) (q := 1) rfl fl142_1 rfl) rfl rfl rfl ?_
   refine ol_val (v := .int .u64 ((ix s16.2 (IntKind.i64.wrap ((IntKind.i64.wrap (a1 * 8)) + s16.1))).stored)) (xr_load1 (v := .int .u64 ((ix s16.2 (IntKind.i64.wrap ((IntKind.i64.wrap (a1 * 8)) + s16.1))).stored)) rfl ag22 rfl (At.segs (ss := segs_pmem_cell (ix s16.2 (IntKind.i64.wrap ((IntKind.i64.wrap (a1 * 8)) + s16.1)))) (O0_0.rd.elem g24.1 g24.2) 1 1 rfl)) rfl rfl rfl ?_
   refine ol_val (v := (pt ((sb V0_0)) (so V0_0 + Int.toNat (IntKind.i64.wrap ((IntKind.i64.wrap (a1 * 8)) + s16.1)) * 4))) (xr_nilCheck rfl rfl) rfl rfl rfl ?_
   refine ol_val (v := (pt ((sb V0_0)) (so V0_0 + Int.toNat (IntKind.i64.wrap ((IntKind.i64.wrap (a1 * 8)) + s16.1)) * 4 + 2))) (xr_fieldAddr (p := so V0_0 + Int.toNat (IntKind.i64.wrap ((IntKind.i64.wrap (a1 * 8)) + s16.1)) * 4) (q := 2) rfl fl142_2 rfl) rfl rfl rfl ?_
   have f26 := off_ty b_0 O0_0 (by decide)
   have f27 := OffV.ty O0_1 O0_0 (by decide)
   refine ol_op0 (opv_storeRow (z := (⟨(ix s16.2 (IntKind.i64.wrap ((IntKind.i64.wrap (a1 * 8)) + s16.1))).lasts, (ix s16.2 (IntKind.i64.wrap ((IntKind.i64.wrap (a1 * 8)) + s16.1))).stored, (ix s16.2 (IntKind.i64.wrap ((IntKind.i64.wrap (a1 * 8)) + s16.1))).stored, (ix s16.2 (IntKind.i64.wrap ((IntKind.i64.wrap (a1 * 8)) + s16.1))).flushed⟩ : S_pmem_cell)) (xs := cellsOf [Seg.cell (.int .u64 ((ix s16.2 (IntKind.i64.wrap ((IntKind.i64.wrap (a1 * 8)) + s16.1))).stored))]) rfl sz22 rfl rfl rfl (len_cellsOf _) (one_cellsOf _) O0_0 g24.1 g24.2 (Spl.segs (segs_pmem_cell (ix s16.2 (IntKind.i64.wrap ((IntKind.i64.wrap (a1 * 8)) + s16.1)))) 2 1 [Seg.cell (.int .u64 ((ix s16.2 (IntKind.i64.wrap ((IntKind.i64.wrap (a1 * 8)) + s16.1))).stored))] rfl rfl) rfl) rfl rfl ?_
   rintro _ w29 ⟨O0_0, q25⟩
   have b_0 := b_0.wrO q25 f26
   have O0_1 := O0_1.wrV q25 f27
   have fB := fB.wrM q25 M0_0
   refine ol_val (v := (pt ((sb V0_0)) (so V0_0 + Int.toNat (IntKind.i64.wrap ((IntKind.i64.wrap (a1 * 8)) + s16.1)) * 4))) (xr_nilCheck rfl rfl) rfl rfl rfl ?_
   refine ol_val (v := (pt ((sb V0_0)) (so V0_0 + Int.toNat (IntKind.i64.wrap ((IntKind.i64.wrap (a1 * 8)) + s16.1)) * 4 + 3))) (xr_fieldAddr (p := so V0_0 + Int.toNat (IntKind.i64.wrap ((IntKind.i64.wrap (a1 * 8)) + s16.1)) * 4) (q := 3) rfl fl142_3 rfl) rfl rfl rfl ?_
   have f31 := off_ty b_0 O0_0 (by decide)
   have f32 := OffV.ty O0_1 O0_0 (by decide)
   refine ol_op0 (opv_storeRow (z := (⟨(ix (List.set s16.2 (Int.toNat (IntKind.i64.wrap ((IntKind.i64.wrap (a1 * 8)) + s16.1))) (⟨(ix s16.2 (IntKind.i64.wrap ((IntKind.i64.wrap (a1 * 8)) + s16.1))).lasts, (ix s16.2 (IntKind.i64.wrap ((IntKind.i64.wrap (a1 * 8)) + s16.1))).stored, (ix s16.2 (IntKind.i64.wrap ((IntKind.i64.wrap (a1 * 8)) + s16.1))).stored, (ix s16.2 (IntKind.i64.wrap ((IntKind.i64.wrap (a1 * 8)) + s16.1))).flushed⟩ : S_pmem_cell)) (IntKind.i64.wrap ((IntKind.i64.wrap (a1 * 8)) + s16.1))).lasts, (ix (List.set s16.2 (Int.toNat (IntKind.i64.wrap ((IntKind.i64.wrap (a1 * 8)) + s16.1))) (⟨(ix s16.2 (IntKind.i64.wrap ((IntKind.i64.wrap (a1 * 8)) + s16.1))).lasts, (ix s16.2 (IntKind.i64.wrap ((IntKind.i64.wrap (a1 * 8)) + s16.1))).stored, (ix s16.2 (IntKind.i64.wrap ((IntKind.i64.wrap (a1 * 8)) + s16.1))).stored, (ix s16.2 (IntKind.i64.wrap ((IntKind.i64.wrap (a1 * 8)) + s16.1))).flushed⟩ : S_pmem_cell)) (IntKind.i64.wrap ((IntKind.i64.wrap (a1 * 8)) + s16.1))).stored, (ix (List.set s16.2 (Int.toNat (IntKind.i64.wrap ((IntKind.i64.wrap (a1 * 8)) + s16.1))) (⟨(ix s16.2 (IntKind.i64.wrap ((IntKind.i64.wrap (a1 * 8)) + s16.1))).lasts, (ix s16.2 (IntKind.i64.wrap ((IntKind.i64.wrap (a1 * 8)) + s16.1))).stored, (ix s16.2 (IntKind.i64.wrap ((IntKind.i64.wrap (a1 * 8)) + s16.1))).stored, (ix s16.2 (IntKind.i64.wrap ((IntKind.i64.wrap (a1 * 8)) + s16.1))).flushed⟩ : S_pmem_cell)) (IntKind.i64.wrap ((IntKind.i64.wrap (a1 * 8)) + s16.1))).sent, true⟩ : S_pmem_cell)) (xs := cellsOf [Seg.cell (.bool true)]) rfl sz4 rfl rfl rfl (len_cellsOf _) (one_cellsOf _) O0_0 g24.1 (by simpa only [List.length_set] using g24.2) (Spl.segs (segs_pmem_cell (ix (List.set s16.2 (Int.toNat (IntKind.i64.wrap ((IntKind.i64.wrap (a1 * 8)) + s16.1))) (⟨(ix s16.2 (IntKind.i64.wrap ((IntKind.i64.wrap (a1 * 8)) + s16.1))).lasts, (ix s16.2 (IntKind.i64.wrap ((IntKind.i64.wrap (a1 * 8)) + s16.1))).stored, (ix s16.2 (IntKind.i64.wrap ((IntKind.i64.wrap (a1 * 8)) + s16.1))).stored, (ix s16.2 (IntKind.i64.wrap ((IntKind.i64.wrap (a1 * 8)) + s16.1))).flushed⟩ : S_pmem_cell)) (IntKind.i64.wrap ((IntKind.i64.wrap (a1 * 8)) + s16.1)))) 3 1 [Seg.cell (.bool true)] rfl rfl) rfl) rfl rfl ?_
   rintro _ w34 ⟨O0_0, q30⟩
   have b_0 := b_0.wrO q30 f31
   have O0_1 := O0_1.wrV q30 f32
   have fB := fB.wrM q30 M0_0
   refine ol_nil ?_
   refine blk_i ?_
   refine cw_region ?_
   refine ol_val (v := .int .i64 (IntKind.i64.wrap (s16.1 + 1))) (xr_add rfl e16 rfl) rfl rfl rfl ?_
   refine ol_val (v := .int .i64 (IntKind.i64.wrap (s16.1 + 1))) (xr_move rfl rfl) rfl rfl rfl ?_
   refine ol_nil ?_
   obtain rfl := Option.some.inj h
   refine lp_in ?_
   exact ⟨O0_0, O0_1, e0, e1, rfl, b_0, fB⟩
  refine cw_condF rfl c23 ?_
  refine cw_exit ?_
  repeat (first | with_reducible refine thn_e ?_ | with_reducible refine blk_e rfl ?_)
  obtain rfl := Option.some.inj h
  refine lp_exit ?_
  rintro rfl
  refine thn_x ?_
  exact ⟨O0_0, O0_1, e0, b_0, fB⟩
 rintro ρ35 w36 ⟨O0_0, O0_1, e0, b_0, fB⟩
 have h := h19
 refine cw_seq ?_
 refine cw_region ?_
 refine ol_val (v := (pt G_0 0)) (xr_move rfl e0) rfl rfl rfl ?_
 obtain ⟨t37, k38, h⟩ := bs h
 have c48 : ∀ k, (k = G_0 ∨ some k = Value.ownBlock V0_0 ∨ some k = Value.ownBlock V0_1) → (w.heap.size ≤ k ∨ (k = G_0 ∨ some k = Value.ownBlock V0_0 ∨ some k = Value.ownBlock V0_1)) := (cv_or (cv_eq (.inr (.inl rfl))) (cv_or (cv_own M0_0) (cv_own M0_1)))
 refine ol_op (opv_call rfl cal84 (ac rfl an) (pmem_Device_step.ok fu _ (⟨e17, a0.plan, a0.off, a0.armed, a0.left, a0.steps⟩ : S_pmem_Device) G_0 V0_0 (Own.base O0_0 (Nat.zero_le _)) V0_1 (Own.base O0_1 (Nat.zero_le _)) b_0 _ k38)) rfl rfl rfl ?_
 rintro _ w49 ⟨u40, u44, o41, m42, o45, m46, rfl, b_0, q39⟩
 have m42 : ∀ g, Value.ownBlock u40 = some g → w.heap.size ≤ g ∨ (g = G_0 ∨ some g = Value.ownBlock V0_0 ∨ some g = Value.ownBlock V0_1) := fun g hg => (m42 g hg).elim (fun x => .inl (Nat.le_trans fB.size x)) (c48 g)
 have m46 : ∀ g, Value.ownBlock u44 = some g → w.heap.size ≤ g ∨ (g = G_0 ∨ some g = Value.ownBlock V0_0 ∨ some g = Value.ownBlock V0_1) := fun g hg => (m46 g hg).elim (fun x => .inl (Nat.le_trans fB.size x)) (c48 g)
 have fB := fB.call q39 c48
 refine ol_nil ?_
 refine cw_seq ?_
 refine cw_region ?_
 refine ol_val (v := .int .i64 0) (xr_assign rfl rfl) rfl rfl rfl ?_
 refine ol_nil ?_
 refine cw_ret ?_
 repeat (first | with_reducible refine thn_r ?_ | with_reducible refine blk_r ?_)
 obtain rfl := Option.some.inj h
 refine fin_ret1 Try.results29 rfl ?_
 exact ⟨_, rfl, u40, u44, o41, m42, o45, m46, rfl, b_0, fB⟩
def press_store.s0 (fu : Nat) (a1 : Int) (a2 : Int) (a3 : List Int) : (Int × (List S_pmem_cell) × (List Int) × Int × Bool × Bool × Int × Int) → Option (Sum (Sum (Int × S_pmem_Device) ((List S_pmem_cell) × (List Int) × Int × Bool × Bool × Int × Int)) (Int × (List S_pmem_cell) × (List Int) × Int × Bool × Bool × Int × Int)) := fun s7 => (if (decide (s7.1 < (List.length a3 : Int))) = true then (if 0 ≤ s7.1 ∧ s7.1 < (List.length a3 : Int) then ((pmem_Device_Store.f fu (⟨s7.2.1, (⟨s7.2.2.1, s7.2.2.2.1⟩ : S_pmem_plan), s7.2.2.2.2.1, s7.2.2.2.2.2.1, s7.2.2.2.2.2.2.1, s7.2.2.2.2.2.2.2⟩ : S_pmem_Device) (IntKind.i64.wrap ((IntKind.i64.wrap ((IntKind.i64.wrap (a1 * 8)) + a2)) + s7.1)) (ix a3 s7.1)).bind fun t35 => (if (!decide (t35.1 = 0)) = true then some (Sum.inl (Sum.inl (t35.1, t35.2))) else some (Sum.inr ((IntKind.i64.wrap (s7.1 + 1)), t35.2.cells, t35.2.plan.list, t35.2.plan.at_, t35.2.off, t35.2.armed, t35.2.left, t35.2.steps)))) else none) else some (Sum.inl (Sum.inr (s7.2.1, s7.2.2.1, s7.2.2.2.1, s7.2.2.2.2.1, s7.2.2.2.2.2.1, s7.2.2.2.2.2.2.1, s7.2.2.2.2.2.2.2))))
def press_store.f (fu : Nat) (a0 : S_pmem_Device) (a1 : Int) (a2 : Int) (a3 : List Int) : Option (Int × S_pmem_Device) := ((loopM (press_store.s0 fu a1 a2 a3) fu (0, a0.cells, a0.plan.list, a0.plan.at_, a0.off, a0.armed, a0.left, a0.steps)).bind fun e8 => match e8 with | Sum.inl p => some p | Sum.inr x11 => ((pmem_Device_Flush.f fu (⟨x11.1, (⟨x11.2.1, x11.2.2.1⟩ : S_pmem_plan), x11.2.2.2.1, x11.2.2.2.2.1, x11.2.2.2.2.2.1, x11.2.2.2.2.2.2⟩ : S_pmem_Device) a1).bind fun t54 => some (t54.1, t54.2)))
theorem press_store.ok (fu : Nat) (w : World) (a0 : S_pmem_Device) (G_0 : Nat) (V0_0 : Value) (O0_0 : Own k_pmem_cell 142 w 0 V0_0 a0.cells) (V0_1 : Value) (O0_1 : Own (kI .i64) 3 w 0 V0_1 a0.plan.list) (b_0 : Blk w G_0 139 [Seg.cell V0_0 O0_0.one, Seg.cell V0_1 O0_1.one, (sI a0.plan.at_), Seg.cell (.bool a0.off), Seg.cell (.bool a0.armed), (sI a0.left), (sI a0.steps)]) (a1 : Int) (a2 : Int) (a3 : List Int) (V3_0 : Value) (R3_0 : Rd (kI .u64) w V3_0 a3) (NR3_0_P0 : OffR V3_0 a3 G_0) (NR3_0_R0_0 : OffRV V3_0 a3 V0_0) (NR3_0_R0_1 : OffRV V3_0 a3 V0_1) (r : Int × S_pmem_Device) (h : press_store.f fu a0 a1 a2 a3 = some r) :
  Calls Try.prog 103 (([(pt G_0 0), .int .i64 a1, .int .i64 a2, V3_0] : List Value).toArray) w (fun e w' => ∃ v, e = .returned v ∧ ∃ u1 : Value, ∃ u4 : Value, ∃ o2 : Own k_pmem_cell 142 w' 0 u1 r.2.cells, ∃ m3 : ∀ g, Value.ownBlock u1 = some g → w.heap.size ≤ g ∨ (g = G_0 ∨ some g = Value.ownBlock V0_0 ∨ some g = Value.ownBlock V0_1), ∃ o5 : Own (kI .i64) 3 w' 0 u4 r.2.plan.list, ∃ m6 : ∀ g, Value.ownBlock u4 = some g → w.heap.size ≤ g ∨ (g = G_0 ∨ some g = Value.ownBlock V0_0 ∨ some g = Value.ownBlock V0_1), v = .int .i64 r.1 ∧ Blk w' G_0 139 [Seg.cell u1 o2.one, Seg.cell u4 o5.one, (sI r.2.plan.at_), Seg.cell (.bool r.2.off), Seg.cell (.bool r.2.armed), (sI r.2.left), (sI r.2.steps)] ∧ Fr (fun j => j = G_0 ∨ some j = Value.ownBlock V0_0 ∨ some j = Value.ownBlock V0_1) w w') := by
 unfold press_store.f at h
 have fB : Fr (fun j => j = G_0 ∨ some j = Value.ownBlock V0_0 ∨ some j = Value.ownBlock V0_1) w w := Fr.refl _ _
 have M0_0 : ∀ g, Value.ownBlock V0_0 = some g → w.heap.size ≤ g ∨ (g = G_0 ∨ some g = Value.ownBlock V0_0 ∨ some g = Value.ownBlock V0_1) := fun g hg => .inr (.inr (.inl hg.symm))
 have M0_1 : ∀ g, Value.ownBlock V0_1 = some g → w.heap.size ≤ g ∨ (g = G_0 ∨ some g = Value.ownBlock V0_0 ∨ some g = Value.ownBlock V0_1) := fun g hg => .inr (.inr (.inr hg.symm))
 refine calls_cw Try.func103 rfl Try.ntmps103 rfl ?_
 refine cw_seq ?_
 refine cw_region ?_
 refine ol_val (v := .int .i64 0) (xr_assign rfl rfl) rfl rfl rfl ?_
 refine ol_nil ?_
 refine cw_seq ?_
 refine cw_seq ?_
 refine cw_region ?_
 refine ol_val (v := V3_0) (xr_move rfl rfl) rfl rfl rfl ?_
 refine ol_val (v := .int .i64 (List.length a3 : Int)) (xr_lenR rfl Try.underlying46 rfl R3_0) rfl rfl rfl ?_
 refine ol_val (v := .int .i64 0) (xr_move rfl rfl) rfl rfl rfl ?_
 refine ol_nil ?_
 obtain ⟨e8, l9, h10⟩ := bs h
 refine cw_mid (fun ρ' w' => ∃ x11, e8 = Sum.inr x11 ∧ ∃ v12 : Value, ∃ v16 : Value, ∃ o13 : Own k_pmem_cell 142 w' 0 v12 x11.1, ∃ o17 : Own (kI .i64) 3 w' 0 v16 x11.2.1, ∃ m15 : ∀ g, Value.ownBlock v12 = some g → w.heap.size ≤ g ∨ (g = G_0 ∨ some g = Value.ownBlock V0_0 ∨ some g = Value.ownBlock V0_1), ∃ m19 : ∀ g, Value.ownBlock v16 = some g → w.heap.size ≤ g ∨ (g = G_0 ∨ some g = Value.ownBlock V0_0 ∨ some g = Value.ownBlock V0_1), ρ' 0 = (pt G_0 0) ∧ ρ' 1 = .int .i64 a1 ∧ Blk w' G_0 139 [Seg.cell v12 o13.one, Seg.cell v16 o17.one, (sI x11.2.2.1), Seg.cell (.bool x11.2.2.2.1), Seg.cell (.bool x11.2.2.2.2.1), (sI x11.2.2.2.2.2.1), (sI x11.2.2.2.2.2.2)] ∧ Fr (fun j => j = G_0 ∨ some j = Value.ownBlock V0_0 ∨ some j = Value.ownBlock V0_1) w w') ?_ ?_
 ·refine cw_block ?_
  refine cw_round (fun (s7 : Int × (List S_pmem_cell) × (List Int) × Int × Bool × Bool × Int × Int) ρ' w' => ∃ v20 : Value, ∃ v24 : Value, ∃ o21 : Own k_pmem_cell 142 w' 0 v20 s7.2.1, ∃ o25 : Own (kI .i64) 3 w' 0 v24 s7.2.2.1, ∃ m23 : ∀ g, Value.ownBlock v20 = some g → w.heap.size ≤ g ∨ (g = G_0 ∨ some g = Value.ownBlock V0_0 ∨ some g = Value.ownBlock V0_1), ∃ m27 : ∀ g, Value.ownBlock v24 = some g → w.heap.size ≤ g ∨ (g = G_0 ∨ some g = Value.ownBlock V0_0 ∨ some g = Value.ownBlock V0_1), ∃ R3_0 : Rd (kI .u64) w' V3_0 a3, OffRV V3_0 a3 v20 ∧ OffRV V3_0 a3 v24 ∧ ρ' 0 = (pt G_0 0) ∧ ρ' 1 = .int .i64 a1 ∧ ρ' 2 = .int .i64 a2 ∧ ρ' 12 = V3_0 ∧ ρ' 13 = .int .i64 (List.length a3 : Int) ∧ ρ' 14 = .int .i64 s7.1 ∧ Blk w' G_0 139 [Seg.cell v20 o21.one, Seg.cell v24 o25.one, (sI s7.2.2.2.1), Seg.cell (.bool s7.2.2.2.2.1), Seg.cell (.bool s7.2.2.2.2.2.1), (sI s7.2.2.2.2.2.2.1), (sI s7.2.2.2.2.2.2.2)] ∧ Fr (fun j => j = G_0 ∨ some j = Value.ownBlock V0_0 ∨ some j = Value.ownBlock V0_1) w w') l9 ?_ ?_
  ·skip
   exact ⟨V0_0, V0_1, O0_0, O0_1, M0_0, M0_1, R3_0, NR3_0_R0_0, NR3_0_R0_1, rfl, rfl, rfl, rfl, rfl, rfl, b_0, fB⟩
  rintro s7 x32 ρ30 w31 ⟨v20, v24, o21, o25, m23, m27, R3_0, a28, a29, e0, e1, e2, e12, e13, e14, b_0, fB⟩ h
  unfold press_store.s0 at h
  refine cw_seq ?_
  refine cw_region ?_
  refine ol_val (v := .bool (decide (s7.1 < (List.length a3 : Int)))) (xr_lss rfl e14 e13) rfl rfl rfl ?_
  refine ol_nil ?_
  refine cw_seq ?_
  rcases is h with ⟨c33, h⟩ | ⟨c33, h⟩
  ·refine cw_condT rfl c33 ?_
   refine cw_skip ?_
   refine cw_seq ?_
   refine cw_block ?_
   refine cw_seq ?_
   refine cw_region ?_
   refine ol_val (v := .int .i64 s7.1) (xr_move rfl e14) rfl rfl rfl ?_
   obtain ⟨g34, h⟩ := gs h
   refine ol_val (v := (pt ((sb V3_0)) (so V3_0 + Int.toNat s7.1 * 1))) (xr_indexR (K := (kI .u64)) (v := V3_0) rfl Try.underlying46 sz22 e12 R3_0 e14 g34.1 g34.2) rfl rfl rfl ?_
   refine ol_val (v := .int .u64 (ix a3 s7.1)) (xr_load1 (v := .int .u64 (ix a3 s7.1)) rfl ag22 rfl (R3_0.elem g34.1 g34.2)) rfl rfl rfl ?_
   refine ol_val (v := .int .i64 s7.1) (xr_assign rfl rfl) rfl rfl rfl ?_
   refine ol_val (v := .int .u64 (ix a3 s7.1)) (xr_assign rfl rfl) rfl rfl rfl ?_
   refine ol_nil ?_
   refine cw_seq ?_
   refine cw_region ?_
   refine ol_val (v := (pt G_0 0)) (xr_move rfl e0) rfl rfl rfl ?_
   refine ol_val (v := .int .i64 a1) (xr_move rfl e1) rfl rfl rfl ?_
   refine ol_val (v := .int .i64 (IntKind.i64.wrap (a1 * 8))) (xr_mul rfl rfl rfl) rfl rfl rfl ?_
   refine ol_val (v := .int .i64 a2) (xr_move rfl e2) rfl rfl rfl ?_
   refine ol_val (v := .int .i64 (IntKind.i64.wrap ((IntKind.i64.wrap (a1 * 8)) + a2))) (xr_add rfl rfl rfl) rfl rfl rfl ?_
   refine ol_val (v := .int .i64 s7.1) (xr_move rfl rfl) rfl rfl rfl ?_
   refine ol_val (v := .int .i64 (IntKind.i64.wrap ((IntKind.i64.wrap ((IntKind.i64.wrap (a1 * 8)) + a2)) + s7.1))) (xr_add rfl rfl rfl) rfl rfl rfl ?_
   refine ol_val (v := .int .u64 (ix a3 s7.1)) (xr_move rfl rfl) rfl rfl rfl ?_
   obtain ⟨t35, k36, h⟩ := bs h
   have f46 := (ro_or (ro_eq NR3_0_P0) (ro_or (ro_own a28) (ro_own a29)))
   have c47 : ∀ k, (k = G_0 ∨ some k = Value.ownBlock v20 ∨ some k = Value.ownBlock v24) → (w.heap.size ≤ k ∨ (k = G_0 ∨ some k = Value.ownBlock V0_0 ∨ some k = Value.ownBlock V0_1)) := (cv_or (cv_eq (.inr (.inl rfl))) (cv_or (cv_own m23) (cv_own m27)))
   refine ol_op (opv_call rfl cal28 (ac rfl (ac rfl (ac rfl an))) (pmem_Device_Store.ok fu _ (⟨s7.2.1, (⟨s7.2.2.1, s7.2.2.2.1⟩ : S_pmem_plan), s7.2.2.2.2.1, s7.2.2.2.2.2.1, s7.2.2.2.2.2.2.1, s7.2.2.2.2.2.2.2⟩ : S_pmem_Device) G_0 v20 (Own.base o21 (Nat.zero_le _)) v24 (Own.base o25 (Nat.zero_le _)) b_0 (IntKind.i64.wrap ((IntKind.i64.wrap ((IntKind.i64.wrap (a1 * 8)) + a2)) + s7.1)) (ix a3 s7.1) _ k36)) rfl rfl rfl ?_
   rintro _ w48 ⟨u38, u42, o39, m40, o43, m44, rfl, b_0, q37⟩
   have a49 := orv_new R3_0 rfl f46 m40
   have a50 := orv_new R3_0 rfl f46 m44
   have m40 : ∀ g, Value.ownBlock u38 = some g → w.heap.size ≤ g ∨ (g = G_0 ∨ some g = Value.ownBlock V0_0 ∨ some g = Value.ownBlock V0_1) := fun g hg => (m40 g hg).elim (fun x => .inl (Nat.le_trans fB.size x)) (c47 g)
   have m44 : ∀ g, Value.ownBlock u42 = some g → w.heap.size ≤ g ∨ (g = G_0 ∨ some g = Value.ownBlock V0_0 ∨ some g = Value.ownBlock V0_1) := fun g hg => (m44 g hg).elim (fun x => .inl (Nat.le_trans fB.size x)) (c47 g)
   have R3_0 := R3_0.fr q37 f46
   have fB := fB.call q37 c47
   refine ol_val (v := .int .i64 t35.1) (xr_assign rfl rfl) rfl rfl rfl ?_
   refine ol_nil ?_
   refine cw_seq ?_
   refine cw_region ?_
   refine ol_val (v := .int .i64 t35.1) (xr_move rfl rfl) rfl rfl rfl ?_
   refine ol_val (v := .bool (!decide (t35.1 = 0))) (xr_neI rfl Try.underlying31 rfl rfl rfl) rfl rfl rfl ?_
   refine ol_nil ?_
   rcases is h with ⟨c51, h⟩ | ⟨c51, h⟩
   ·refine cw_condT rfl c51 ?_
    refine cw_seq ?_
    refine cw_region ?_
    refine ol_val (v := .int .i64 t35.1) (xr_move rfl rfl) rfl rfl rfl ?_
    refine ol_val (v := .int .i64 t35.1) (xr_assign rfl rfl) rfl rfl rfl ?_
    refine ol_nil ?_
    refine cw_ret ?_
    repeat (first | with_reducible refine thn_r ?_ | with_reducible refine blk_r ?_)
    obtain rfl := Option.some.inj h
    refine lp_ret ?_
    rintro rfl
    repeat (first | with_reducible refine thn_r ?_ | with_reducible refine blk_r ?_)
    have h := h10
    obtain rfl := Option.some.inj h
    refine fin_ret1 Try.results103 rfl ?_
    exact ⟨_, rfl, u38, u42, o39, m40, o43, m44, rfl, b_0, fB⟩
   refine cw_condF rfl c51 ?_
   refine cw_skip ?_
   refine blk_i ?_
   refine cw_region ?_
   refine ol_val (v := .int .i64 (IntKind.i64.wrap (s7.1 + 1))) (xr_add rfl e14 rfl) rfl rfl rfl ?_
   refine ol_val (v := .int .i64 (IntKind.i64.wrap (s7.1 + 1))) (xr_move rfl rfl) rfl rfl rfl ?_
   refine ol_nil ?_
   obtain rfl := Option.some.inj h
   refine lp_in ?_
   exact ⟨u38, u42, o39, o43, m40, m44, R3_0, a49, a50, e0, e1, e2, e12, e13, rfl, b_0, fB⟩
  refine cw_condF rfl c33 ?_
  refine cw_exit ?_
  repeat (first | with_reducible refine thn_e ?_ | with_reducible refine blk_e rfl ?_)
  obtain rfl := Option.some.inj h
  refine lp_exit ?_
  rintro rfl
  refine thn_x ?_
  exact ⟨_, rfl, v20, v24, o21, o25, m23, m27, e0, e1, b_0, fB⟩
 rintro ρ52 w53 ⟨x11, rfl, v12, v16, o13, o17, m15, m19, e0, e1, b_0, fB⟩
 have h := h10
 refine cw_seq ?_
 refine cw_region ?_
 refine ol_val (v := (pt G_0 0)) (xr_move rfl e0) rfl rfl rfl ?_
 refine ol_val (v := .int .i64 a1) (xr_move rfl e1) rfl rfl rfl ?_
 obtain ⟨t54, k55, h⟩ := bs h
 have c65 : ∀ k, (k = G_0 ∨ some k = Value.ownBlock v12 ∨ some k = Value.ownBlock v16) → (w.heap.size ≤ k ∨ (k = G_0 ∨ some k = Value.ownBlock V0_0 ∨ some k = Value.ownBlock V0_1)) := (cv_or (cv_eq (.inr (.inl rfl))) (cv_or (cv_own m15) (cv_own m19)))
 refine ol_op (opv_call rfl cal29 (ac rfl (ac rfl an)) (pmem_Device_Flush.ok fu _ (⟨x11.1, (⟨x11.2.1, x11.2.2.1⟩ : S_pmem_plan), x11.2.2.2.1, x11.2.2.2.2.1, x11.2.2.2.2.2.1, x11.2.2.2.2.2.2⟩ : S_pmem_Device) G_0 v12 (Own.base o13 (Nat.zero_le _)) v16 (Own.base o17 (Nat.zero_le _)) b_0 a1 _ k55)) rfl rfl rfl ?_
 rintro _ w66 ⟨u57, u61, o58, m59, o62, m63, rfl, b_0, q56⟩
 have m59 : ∀ g, Value.ownBlock u57 = some g → w.heap.size ≤ g ∨ (g = G_0 ∨ some g = Value.ownBlock V0_0 ∨ some g = Value.ownBlock V0_1) := fun g hg => (m59 g hg).elim (fun x => .inl (Nat.le_trans fB.size x)) (c65 g)
 have m63 : ∀ g, Value.ownBlock u61 = some g → w.heap.size ≤ g ∨ (g = G_0 ∨ some g = Value.ownBlock V0_0 ∨ some g = Value.ownBlock V0_1) := fun g hg => (m63 g hg).elim (fun x => .inl (Nat.le_trans fB.size x)) (c65 g)
 have fB := fB.call q56 c65
 refine ol_val (v := .int .i64 t54.1) (xr_assign rfl rfl) rfl rfl rfl ?_
 refine ol_nil ?_
 refine cw_ret ?_
 repeat (first | with_reducible refine thn_r ?_ | with_reducible refine blk_r ?_)
 obtain rfl := Option.some.inj h
 refine fin_ret1 Try.results103 rfl ?_
 exact ⟨_, rfl, u57, u61, o58, m59, o62, m63, rfl, b_0, fB⟩
end Go.Proofs.Ytklhbaghbmndeaa
