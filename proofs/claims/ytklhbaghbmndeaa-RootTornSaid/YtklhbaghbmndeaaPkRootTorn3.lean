/- RootTorn: texts merged, part 3 of 8. The last part proves that the law RootTorn holds for every input. -/
import Derived.Test.YtklhbaghbmndeaaPkRootTorn2
set_option maxRecDepth 100000
set_option maxHeartbeats 4000000
set_option linter.unusedVariables false
set_option linter.unusedSimpArgs false
namespace Go.Proofs.Ytklhbaghbmndeaa
open Go Go.Xw
def crc_register.s0 (fu : Nat) (a0 : Arr 16 Int) (a2 : List Int) : (Int × Int) → Option (Sum Int (Int × Int)) := fun s1 => (if (decide (s1.2 < (List.length a2 : Int))) = true then (if 0 ≤ s1.2 ∧ s1.2 < (List.length a2 : Int) then (if 0 ≤ (bAnd .u32 (bXor .u32 s1.1 (IntKind.u32.wrap (ix a2 s1.2))) 15) ∧ (bAnd .u32 (bXor .u32 s1.1 (IntKind.u32.wrap (ix a2 s1.2))) 15) < 16 then (if 0 ≤ (bAnd .u32 (bXor .u32 (shR .u32 (bXor .u32 s1.1 (IntKind.u32.wrap (ix a2 s1.2))) 4) (Arr.get a0 (bAnd .u32 (bXor .u32 s1.1 (IntKind.u32.wrap (ix a2 s1.2))) 15))) 15) ∧ (bAnd .u32 (bXor .u32 (shR .u32 (bXor .u32 s1.1 (IntKind.u32.wrap (ix a2 s1.2))) 4) (Arr.get a0 (bAnd .u32 (bXor .u32 s1.1 (IntKind.u32.wrap (ix a2 s1.2))) 15))) 15) < 16 then some (Sum.inr ((bXor .u32 (shR .u32 (bXor .u32 (shR .u32 (bXor .u32 s1.1 (IntKind.u32.wrap (ix a2 s1.2))) 4) (Arr.get a0 (bAnd .u32 (bXor .u32 s1.1 (IntKind.u32.wrap (ix a2 s1.2))) 15))) 4) (Arr.get a0 (bAnd .u32 (bXor .u32 (shR .u32 (bXor .u32 s1.1 (IntKind.u32.wrap (ix a2 s1.2))) 4) (Arr.get a0 (bAnd .u32 (bXor .u32 s1.1 (IntKind.u32.wrap (ix a2 s1.2))) 15))) 15))), (IntKind.i64.wrap (s1.2 + 1)))) else none) else none) else none) else some (Sum.inl (s1.1)))
def crc_register.f (fu : Nat) (a0 : Arr 16 Int) (a1 : Int) (a2 : List Int) : Option Int := ((loopM (crc_register.s0 fu a0 a2) fu (a1, 0)).bind fun e2 => some (e2))
theorem crc_register.ok (fu : Nat) (w : World) (a0 : Arr 16 Int) (G_0 : Nat) (b_0 : Blk w G_0 205 [Kd.seg (kA 16 (kI .u32)) a0]) (a1 : Int) (a2 : List Int) (V2_0 : Value) (R2_0 : Rd (kI .u8) w V2_0 a2) (r : Int) (h : crc_register.f fu a0 a1 a2 = some r) :
  Calls Try.prog 155 (([(pt G_0 0), .int .u32 a1, V2_0] : List Value).toArray) w (fun e w' => ∃ v, e = .returned v ∧ v = .int .u32 r ∧ Gr w w') := by
 unfold crc_register.f at h
 have fB : Gr w w := Fr.refl _ _
 refine calls_cw Try.func155 rfl Try.ntmps155 rfl ?_
 refine cw_seq ?_
 refine cw_region ?_
 refine ol_val (v := .int .u32 0) (xr_assign rfl rfl) rfl rfl rfl ?_
 refine ol_nil ?_
 refine cw_seq ?_
 refine cw_seq ?_
 refine cw_region ?_
 refine ol_val (v := V2_0) (xr_move rfl rfl) rfl rfl rfl ?_
 refine ol_val (v := .int .i64 (List.length a2 : Int)) (xr_lenR rfl Try.underlying43 rfl (R2_0.gr fB)) rfl rfl rfl ?_
 refine ol_val (v := .int .i64 0) (xr_move rfl rfl) rfl rfl rfl ?_
 refine ol_nil ?_
 obtain ⟨e2, l3, h4⟩ := bs h
 refine cw_mid (fun ρ' w' => ρ' 1 = .int .u32 e2 ∧ Blk w' G_0 205 [Kd.seg (kA 16 (kI .u32)) a0] ∧ Gr w w') ?_ ?_
 ·refine cw_block ?_
  refine cw_round (fun (s1 : Int × Int) ρ' w' => ρ' 0 = (pt G_0 0) ∧ ρ' 1 = .int .u32 s1.1 ∧ ρ' 9 = V2_0 ∧ ρ' 10 = .int .i64 (List.length a2 : Int) ∧ ρ' 11 = .int .i64 s1.2 ∧ Blk w' G_0 205 [Kd.seg (kA 16 (kI .u32)) a0] ∧ Gr w w') l3 ?_ ?_
  ·skip
   exact ⟨rfl, rfl, rfl, rfl, rfl, b_0, fB⟩
  rintro s1 x7 ρ5 w6 ⟨e0, e1, e9, e10, e11, b_0, fB⟩ h
  unfold crc_register.s0 at h
  refine cw_seq ?_
  refine cw_region ?_
  refine ol_val (v := .bool (decide (s1.2 < (List.length a2 : Int)))) (xr_lss rfl e11 e10) rfl rfl rfl ?_
  refine ol_nil ?_
  refine cw_seq ?_
  rcases is h with ⟨c8, h⟩ | ⟨c8, h⟩
  ·refine cw_condT rfl c8 ?_
   refine cw_skip ?_
   refine cw_seq ?_
   refine cw_block ?_
   refine cw_seq ?_
   refine cw_region ?_
   obtain ⟨g9, h⟩ := gs h
   refine ol_val (v := (pt ((sb V2_0)) (so V2_0 + Int.toNat s1.2 * 1))) (xr_indexR (K := (kI .u8)) (v := V2_0) rfl Try.underlying43 sz5 e9 (R2_0.gr fB) e11 g9.1 g9.2) rfl rfl rfl ?_
   refine ol_val (v := .int .u8 (ix a2 s1.2)) (xr_load1 (v := .int .u8 (ix a2 s1.2)) rfl ag5 rfl ((R2_0.gr fB).elem g9.1 g9.2)) rfl rfl rfl ?_
   refine ol_val (v := .int .u8 (ix a2 s1.2)) (xr_assign rfl rfl) rfl rfl rfl ?_
   refine ol_nil ?_
   refine cw_seq ?_
   refine cw_region ?_
   refine ol_val (v := .int .u32 s1.1) (xr_move rfl e1) rfl rfl rfl ?_
   refine ol_val (v := .int .u8 (ix a2 s1.2)) (xr_move rfl rfl) rfl rfl rfl ?_
   refine ol_val (v := .int .u32 (IntKind.u32.wrap (ix a2 s1.2))) (xr_conv rfl Try.underlying5 Try.underlying191 rfl) rfl rfl rfl ?_
   refine ol_val (v := .int .u32 (bXor .u32 s1.1 (IntKind.u32.wrap (ix a2 s1.2)))) (xr_xor rfl rfl rfl) rfl rfl rfl ?_
   refine ol_val (v := .int .u32 (bXor .u32 s1.1 (IntKind.u32.wrap (ix a2 s1.2)))) (xr_assign rfl rfl) rfl rfl rfl ?_
   refine ol_nil ?_
   refine cw_seq ?_
   refine cw_region ?_
   refine ol_val (v := .int .u32 (bXor .u32 s1.1 (IntKind.u32.wrap (ix a2 s1.2)))) (xr_move rfl rfl) rfl rfl rfl ?_
   refine ol_val (v := .int .u32 (shR .u32 (bXor .u32 s1.1 (IntKind.u32.wrap (ix a2 s1.2))) 4)) (xr_shr rfl rfl rfl (by decide)) rfl rfl rfl ?_
   refine ol_val (v := (pt G_0 0)) (xr_move rfl e0) rfl rfl rfl ?_
   refine ol_val (v := .int .u32 (bXor .u32 s1.1 (IntKind.u32.wrap (ix a2 s1.2)))) (xr_move rfl rfl) rfl rfl rfl ?_
   refine ol_val (v := .int .u32 (bAnd .u32 (bXor .u32 s1.1 (IntKind.u32.wrap (ix a2 s1.2))) 15)) (xr_and rfl rfl rfl) rfl rfl rfl ?_
   refine ol_val (v := (pt G_0 0)) (xr_nilCheck rfl rfl) rfl rfl rfl ?_
   obtain ⟨g10, h⟩ := gs h
   refine ol_val (v := (pt G_0 (0 + Int.toNat (bAnd .u32 (bXor .u32 s1.1 (IntKind.u32.wrap (ix a2 s1.2))) 15) * 1))) (xr_indexA (p := 0) (s := 1) rfl Try.underlying205 sz191 rfl rfl g10.1 g10.2) rfl rfl rfl ?_
   refine ol_val (v := .int .u32 (Arr.get a0 (bAnd .u32 (bXor .u32 s1.1 (IntKind.u32.wrap (ix a2 s1.2))) 15))) (xr_load1 (v := .int .u32 (Arr.get a0 (bAnd .u32 (bXor .u32 s1.1 (IntKind.u32.wrap (ix a2 s1.2))) 15))) rfl ag191 rfl (At.arr (a := a0) (b_0.seg 0 rfl rfl) g10.1 g10.2)) rfl rfl rfl ?_
   refine ol_val (v := .int .u32 (bXor .u32 (shR .u32 (bXor .u32 s1.1 (IntKind.u32.wrap (ix a2 s1.2))) 4) (Arr.get a0 (bAnd .u32 (bXor .u32 s1.1 (IntKind.u32.wrap (ix a2 s1.2))) 15)))) (xr_xor rfl rfl rfl) rfl rfl rfl ?_
   refine ol_val (v := .int .u32 (bXor .u32 (shR .u32 (bXor .u32 s1.1 (IntKind.u32.wrap (ix a2 s1.2))) 4) (Arr.get a0 (bAnd .u32 (bXor .u32 s1.1 (IntKind.u32.wrap (ix a2 s1.2))) 15)))) (xr_assign rfl rfl) rfl rfl rfl ?_
   refine ol_nil ?_
   refine cw_region ?_
   refine ol_val (v := .int .u32 (bXor .u32 (shR .u32 (bXor .u32 s1.1 (IntKind.u32.wrap (ix a2 s1.2))) 4) (Arr.get a0 (bAnd .u32 (bXor .u32 s1.1 (IntKind.u32.wrap (ix a2 s1.2))) 15)))) (xr_move rfl rfl) rfl rfl rfl ?_
   refine ol_val (v := .int .u32 (shR .u32 (bXor .u32 (shR .u32 (bXor .u32 s1.1 (IntKind.u32.wrap (ix a2 s1.2))) 4) (Arr.get a0 (bAnd .u32 (bXor .u32 s1.1 (IntKind.u32.wrap (ix a2 s1.2))) 15))) 4)) (xr_shr rfl rfl rfl (by decide)) rfl rfl rfl ?_
   refine ol_val (v := (pt G_0 0)) (xr_move rfl e0) rfl rfl rfl ?_
   refine ol_val (v := .int .u32 (bXor .u32 (shR .u32 (bXor .u32 s1.1 (IntKind.u32.wrap (ix a2 s1.2))) 4) (Arr.get a0 (bAnd .u32 (bXor .u32 s1.1 (IntKind.u32.wrap (ix a2 s1.2))) 15)))) (xr_move rfl rfl) rfl rfl rfl ?_
   refine ol_val (v := .int .u32 (bAnd .u32 (bXor .u32 (shR .u32 (bXor .u32 s1.1 (IntKind.u32.wrap (ix a2 s1.2))) 4) (Arr.get a0 (bAnd .u32 (bXor .u32 s1.1 (IntKind.u32.wrap (ix a2 s1.2))) 15))) 15)) (xr_and rfl rfl rfl) rfl rfl rfl ?_
   refine ol_val (v := (pt G_0 0)) (xr_nilCheck rfl rfl) rfl rfl rfl ?_
   obtain ⟨g11, h⟩ := gs h
   refine ol_val (v := (pt G_0 (0 + Int.toNat (bAnd .u32 (bXor .u32 (shR .u32 (bXor .u32 s1.1 (IntKind.u32.wrap (ix a2 s1.2))) 4) (Arr.get a0 (bAnd .u32 (bXor .u32 s1.1 (IntKind.u32.wrap (ix a2 s1.2))) 15))) 15) * 1))) (xr_indexA (p := 0) (s := 1) rfl Try.underlying205 sz191 rfl rfl g11.1 g11.2) rfl rfl rfl ?_
   refine ol_val (v := .int .u32 (Arr.get a0 (bAnd .u32 (bXor .u32 (shR .u32 (bXor .u32 s1.1 (IntKind.u32.wrap (ix a2 s1.2))) 4) (Arr.get a0 (bAnd .u32 (bXor .u32 s1.1 (IntKind.u32.wrap (ix a2 s1.2))) 15))) 15))) (xr_load1 (v := .int .u32 (Arr.get a0 (bAnd .u32 (bXor .u32 (shR .u32 (bXor .u32 s1.1 (IntKind.u32.wrap (ix a2 s1.2))) 4) (Arr.get a0 (bAnd .u32 (bXor .u32 s1.1 (IntKind.u32.wrap (ix a2 s1.2))) 15))) 15))) rfl ag191 rfl (At.arr (a := a0) (b_0.seg 0 rfl rfl) g11.1 g11.2)) rfl rfl rfl ?_
   refine ol_val (v := .int .u32 (bXor .u32 (shR .u32 (bXor .u32 (shR .u32 (bXor .u32 s1.1 (IntKind.u32.wrap (ix a2 s1.2))) 4) (Arr.get a0 (bAnd .u32 (bXor .u32 s1.1 (IntKind.u32.wrap (ix a2 s1.2))) 15))) 4) (Arr.get a0 (bAnd .u32 (bXor .u32 (shR .u32 (bXor .u32 s1.1 (IntKind.u32.wrap (ix a2 s1.2))) 4) (Arr.get a0 (bAnd .u32 (bXor .u32 s1.1 (IntKind.u32.wrap (ix a2 s1.2))) 15))) 15)))) (xr_xor rfl rfl rfl) rfl rfl rfl ?_
   refine ol_val (v := .int .u32 (bXor .u32 (shR .u32 (bXor .u32 (shR .u32 (bXor .u32 s1.1 (IntKind.u32.wrap (ix a2 s1.2))) 4) (Arr.get a0 (bAnd .u32 (bXor .u32 s1.1 (IntKind.u32.wrap (ix a2 s1.2))) 15))) 4) (Arr.get a0 (bAnd .u32 (bXor .u32 (shR .u32 (bXor .u32 s1.1 (IntKind.u32.wrap (ix a2 s1.2))) 4) (Arr.get a0 (bAnd .u32 (bXor .u32 s1.1 (IntKind.u32.wrap (ix a2 s1.2))) 15))) 15)))) (xr_assign rfl rfl) rfl rfl rfl ?_
   refine ol_nil ?_
   refine blk_i ?_
   refine cw_region ?_
   refine ol_val (v := .int .i64 (IntKind.i64.wrap (s1.2 + 1))) (xr_add rfl e11 rfl) rfl rfl rfl ?_
   refine ol_val (v := .int .i64 (IntKind.i64.wrap (s1.2 + 1))) (xr_move rfl rfl) rfl rfl rfl ?_
   refine ol_nil ?_
   obtain rfl := Option.some.inj h
   refine lp_in ?_
   exact ⟨e0, rfl, e9, e10, rfl, b_0, fB⟩
  refine cw_condF rfl c8 ?_
  refine cw_exit ?_
  repeat (first | with_reducible refine thn_e ?_ | with_reducible refine blk_e rfl ?_)
  obtain rfl := Option.some.inj h
  refine lp_exit ?_
  rintro rfl
  refine thn_x ?_
  exact ⟨e1, b_0, fB⟩
 rintro ρ12 w13 ⟨e1, b_0, fB⟩
 have h := h4
 refine cw_seq ?_
 refine cw_region ?_
 refine ol_val (v := .int .u32 e2) (xr_move rfl e1) rfl rfl rfl ?_
 refine ol_val (v := .int .u32 e2) (xr_assign rfl rfl) rfl rfl rfl ?_
 refine ol_nil ?_
 refine cw_ret ?_
 repeat (first | with_reducible refine thn_r ?_ | with_reducible refine blk_r ?_)
 obtain rfl := Option.some.inj h
 refine fin_ret1 Try.results155 rfl ?_
 exact ⟨_, rfl, rfl, fB⟩
def crc_Sum.s0 (fu : Nat) (a0 : List (List Int)) (t1 : (Arr 16 Int)) : (Int × Int) → Option (Sum Int (Int × Int)) := fun s13 => (if (decide (s13.2 < (List.length a0 : Int))) = true then (if 0 ≤ s13.2 ∧ s13.2 < (List.length a0 : Int) then ((crc_register.f fu t1 s13.1 (ix a0 s13.2)).bind fun t23 => some (Sum.inr (t23, (IntKind.i64.wrap (s13.2 + 1))))) else none) else some (Sum.inl (s13.1)))
def crc_Sum.f (fu : Nat) (a0 : List (List Int)) : Option Int := ((crc_Table.f fu).bind fun t1 => ((loopM (crc_Sum.s0 fu a0 t1) fu (4294967295, 0)).bind fun e14 => some ((bXor .u32 e14 4294967295))))
theorem crc_Sum.ok (fu : Nat) (w : World) (a0 : List (List Int)) (V0_0 : Value) (R0_0 : Rds (kI .u8) w V0_0 a0) (r : Int) (h : crc_Sum.f fu a0 = some r) :
  Calls Try.prog 149 (([V0_0] : List Value).toArray) w (fun e w' => ∃ v, e = .returned v ∧ v = .int .u32 r ∧ Gr w w') := by
 unfold crc_Sum.f at h
 have fB : Gr w w := Fr.refl _ _
 refine calls_cw Try.func149 rfl Try.ntmps149 rfl ?_
 refine cw_seq ?_
 refine cw_region ?_
 refine ol_val (v := .int .u32 0) (xr_assign rfl rfl) rfl rfl rfl ?_
 refine ol_nil ?_
 refine cw_seq ?_
 refine cw_region ?_
 obtain ⟨t1, k2, h⟩ := bs h
 refine ol_op (opv_call rfl cal154 an (crc_Table.ok fu _ _ k2)) rfl rfl rfl ?_
 rintro _ w4 ⟨rfl, q3⟩
 have fB := fB.gr q3
 refine ol_op (opv_alloc (ss := [Kd.seg (kA 16 (kI .u32)) (Arr.rep 16 (0 : Int))]) rfl ze205 rfl) rfl rfl rfl ?_
 rintro _ w10 ⟨G5, rfl, b6, q7, z8⟩
 have z8 := Nat.le_trans fB.size z8
 have fB := fB.gr q7
 refine ol_op0 (opv_store (ss' := [Kd.seg (kA 16 (kI .u32)) t1]) (xs := cellsOf [Kd.seg (kA 16 (kI .u32)) t1]) rfl sz205 rfl rfl rfl (len_cellsOf _) (one_cellsOf _) b6 (Spl.segs _ 0 1 [Kd.seg (kA 16 (kI .u32)) t1] rfl rfl)) rfl rfl ?_
 rintro _ w12 ⟨b6, q11⟩
 have fB := fB.wr q11 z8
 refine ol_val (v := .int .u32 4294967295) (xr_assign rfl rfl) rfl rfl rfl ?_
 refine ol_nil ?_
 refine cw_seq ?_
 refine cw_seq ?_
 refine cw_region ?_
 refine ol_val (v := V0_0) (xr_move rfl rfl) rfl rfl rfl ?_
 refine ol_val (v := .int .i64 (List.length a0 : Int)) (xr_lenRs rfl Try.underlying100 rfl (R0_0.gr fB)) rfl rfl rfl ?_
 refine ol_val (v := .int .i64 0) (xr_move rfl rfl) rfl rfl rfl ?_
 refine ol_nil ?_
 obtain ⟨e14, l15, h16⟩ := bs h
 refine cw_mid (fun ρ' w' => ρ' 4 = .int .u32 e14 ∧ Gr w w') ?_ ?_
 ·refine cw_block ?_
  refine cw_round (fun (s13 : Int × Int) ρ' w' => ρ' 3 = (pt G5 0) ∧ ρ' 4 = .int .u32 s13.1 ∧ ρ' 8 = V0_0 ∧ ρ' 9 = .int .i64 (List.length a0 : Int) ∧ ρ' 10 = .int .i64 s13.2 ∧ Blk w' G5 205 [Kd.seg (kA 16 (kI .u32)) t1] ∧ Gr w w') l15 ?_ ?_
  ·skip
   exact ⟨rfl, rfl, rfl, rfl, rfl, b6, fB⟩
  rintro s13 x19 ρ17 w18 ⟨e3, e4, e8, e9, e10, b6, fB⟩ h
  unfold crc_Sum.s0 at h
  refine cw_seq ?_
  refine cw_region ?_
  refine ol_val (v := .bool (decide (s13.2 < (List.length a0 : Int)))) (xr_lss rfl e10 e9) rfl rfl rfl ?_
  refine ol_nil ?_
  refine cw_seq ?_
  rcases is h with ⟨c20, h⟩ | ⟨c20, h⟩
  ·refine cw_condT rfl c20 ?_
   refine cw_skip ?_
   refine cw_seq ?_
   refine cw_block ?_
   refine cw_seq ?_
   refine cw_region ?_
   obtain ⟨g21, h⟩ := gs h
   refine ol_val (v := (pt ((sb V0_0)) (so V0_0 + Int.toNat s13.2 * 1))) (xr_indexRs (v := V0_0) rfl Try.underlying100 sz43 e8 (R0_0.gr fB) e10 g21.1 g21.2) rfl rfl rfl ?_
   refine ol_val (v := inner w18 V0_0 s13.2) (xr_load1 (v := inner w18 V0_0 s13.2) rfl ag43 rfl ((R0_0.gr fB).elem g21.1 g21.2).1) rfl rfl rfl ?_
   have r22 : Rd (kI .u8) w18 (inner w18 V0_0 s13.2) (ix a0 s13.2) := ((R0_0.gr fB).elem g21.1 g21.2).2
   refine ol_val (v := inner w18 V0_0 s13.2) (xr_assign rfl rfl) rfl rfl rfl ?_
   refine ol_nil ?_
   refine cw_region ?_
   refine ol_val (v := .int .u32 s13.1) (xr_move rfl e4) rfl rfl rfl ?_
   refine ol_val (v := inner w18 V0_0 s13.2) (xr_move rfl rfl) rfl rfl rfl ?_
   obtain ⟨t23, k24, h⟩ := bs h
   refine ol_op (opv_call rfl cal155 (ac e3 (ac rfl (ac rfl an))) (crc_register.ok fu _ t1 G5 b6 s13.1 (ix a0 s13.2) (inner w18 V0_0 s13.2) (r22) _ k24)) rfl rfl rfl ?_
   rintro _ w26 ⟨rfl, q25⟩
   have b6 := b6.gr q25
   have fB := fB.gr q25
   refine ol_val (v := .int .u32 t23) (xr_assign rfl rfl) rfl rfl rfl ?_
   refine ol_nil ?_
   refine blk_i ?_
   refine cw_region ?_
   refine ol_val (v := .int .i64 (IntKind.i64.wrap (s13.2 + 1))) (xr_add rfl e10 rfl) rfl rfl rfl ?_
   refine ol_val (v := .int .i64 (IntKind.i64.wrap (s13.2 + 1))) (xr_move rfl rfl) rfl rfl rfl ?_
   refine ol_nil ?_
   obtain rfl := Option.some.inj h
   refine lp_in ?_
   exact ⟨e3, rfl, e8, e9, rfl, b6, fB⟩
  refine cw_condF rfl c20 ?_
  refine cw_exit ?_
  repeat (first | with_reducible refine thn_e ?_ | with_reducible refine blk_e rfl ?_)
  obtain rfl := Option.some.inj h
  refine lp_exit ?_
  rintro rfl
  refine thn_x ?_
  exact ⟨e4, fB⟩
 rintro ρ27 w28 ⟨e4, fB⟩
 have h := h16
 refine cw_seq ?_
 refine cw_region ?_
 refine ol_val (v := .int .u32 e14) (xr_move rfl e4) rfl rfl rfl ?_
 refine ol_val (v := .int .u32 (bXor .u32 e14 4294967295)) (xr_xor rfl rfl rfl) rfl rfl rfl ?_
 refine ol_val (v := .int .u32 (bXor .u32 e14 4294967295)) (xr_assign rfl rfl) rfl rfl rfl ?_
 refine ol_nil ?_
 refine cw_ret ?_
 repeat (first | with_reducible refine thn_r ?_ | with_reducible refine blk_r ?_)
 obtain rfl := Option.some.inj h
 refine fin_ret1 Try.results149 rfl ?_
 exact ⟨_, rfl, rfl, fB⟩
def crc_Fits.f (fu : Nat) (a0 : Int) (a1 : List (List Int)) : Option Bool := ((crc_Sum.f fu a1).bind fun t1 => some ((decide (t1 = a0))))
theorem crc_Fits.ok (fu : Nat) (w : World) (a0 : Int) (a1 : List (List Int)) (V1_0 : Value) (R1_0 : Rds (kI .u8) w V1_0 a1) (r : Bool) (h : crc_Fits.f fu a0 a1 = some r) :
  Calls Try.prog 150 (([.int .u32 a0, V1_0] : List Value).toArray) w (fun e w' => ∃ v, e = .returned v ∧ v = .bool r ∧ Gr w w') := by
 unfold crc_Fits.f at h
 have fB : Gr w w := Fr.refl _ _
 refine calls_cw Try.func150 rfl Try.ntmps150 rfl ?_
 refine cw_seq ?_
 refine cw_region ?_
 refine ol_val (v := .bool false) (xr_assign rfl rfl) rfl rfl rfl ?_
 refine ol_nil ?_
 refine cw_seq ?_
 refine cw_region ?_
 refine ol_val (v := V1_0) (xr_move rfl rfl) rfl rfl rfl ?_
 obtain ⟨t1, k2, h⟩ := bs h
 refine ol_op (opv_call rfl cal149 (ac rfl an) (crc_Sum.ok fu _ a1 V1_0 (R1_0.gr fB) _ k2)) rfl rfl rfl ?_
 rintro _ w4 ⟨rfl, q3⟩
 have fB := fB.gr q3
 refine ol_val (v := .int .u32 a0) (xr_move rfl rfl) rfl rfl rfl ?_
 refine ol_val (v := .bool (decide (t1 = a0))) (xr_eqI rfl Try.underlying191 rfl rfl rfl) rfl rfl rfl ?_
 refine ol_val (v := .bool (decide (t1 = a0))) (xr_assign rfl rfl) rfl rfl rfl ?_
 refine ol_nil ?_
 refine cw_ret ?_
 repeat (first | with_reducible refine thn_r ?_ | with_reducible refine blk_r ?_)
 obtain rfl := Option.some.inj h
 refine fin_ret1 Try.results150 rfl ?_
 exact ⟨_, rfl, rfl, fB⟩
def block_right.f (fu : Nat) (a0 : List Int) : Option Bool := (((if (decide ((List.length a0 : Int) = 64)) = true then (if (4 : Int) < (List.length a0 : Int) then (if (!decide ((ix a0 4) = 0)) = true then ((octet_Noughts.f fu a0 6 2).bind fun t8 => (if t8 = true then (if (4 : Int) ≤ (List.length a0 : Int) then ((octet_Read.f fu (cut a0 0 4)).bind fun t15 => (if (4 : Int) ≤ (List.length a0 : Int) then ((crc_Fits.f fu (IntKind.u32.wrap t15) [(cut a0 4 (List.length a0 : Int))]).bind fun t28 => some (t28)) else none)) else none) else some (false))) else some (false)) else none) else some (false)) : Option Bool).bind fun x1 => some (x1))
theorem block_right.ok (fu : Nat) (w : World) (a0 : List Int) (V0_0 : Value) (R0_0 : Rd (kI .u8) w V0_0 a0) (r : Bool) (h : block_right.f fu a0 = some r) :
  Calls Try.prog 141 (([V0_0] : List Value).toArray) w (fun e w' => ∃ v, e = .returned v ∧ v = .bool r ∧ Gr w w') := by
 unfold block_right.f at h
 have fB : Gr w w := Fr.refl _ _
 refine calls_cw Try.func141 rfl Try.ntmps141 rfl ?_
 refine cw_seq ?_
 refine cw_region ?_
 refine ol_val (v := .bool false) (xr_assign rfl rfl) rfl rfl rfl ?_
 refine ol_nil ?_
 refine cw_seq ?_
 obtain ⟨x1, j2, h⟩ := bs h
 refine cw_mid (fun ρ' w' => ρ' 2 = .bool x1 ∧ Gr w w') ?_ ?_
 ·skip
  refine rd_region mo ?_
  intro w3 q4
  have fB := fB.gr q4
  refine rd_seq (m := 0) (n := 14) rfl ?_
  refine ol_val (v := V0_0) (xr_move rfl rfl) rfl rfl rfl ?_
  refine ol_val (v := .int .i64 (List.length a0 : Int)) (xr_lenR rfl Try.underlying43 rfl (R0_0.gr fB)) rfl rfl rfl ?_
  refine ol_val (v := .bool (decide ((List.length a0 : Int) = 64))) (xr_eqI rfl Try.underlying3 rfl rfl rfl) rfl rfl rfl ?_
  refine ol_val (v := .bool (decide ((List.length a0 : Int) = 64))) (xr_move rfl rfl) rfl rfl rfl ?_
  rcases is j2 with ⟨c5, j2⟩ | ⟨c5, j2⟩
  ·skip
   refine ol_gval (v := V0_0) (xr_move rfl rfl) rfl rfl rfl rfl rfl c5 ?_
   obtain ⟨g6, j2⟩ := gs j2
   refine ol_gval (v := (pt ((sb V0_0)) (so V0_0 + Int.toNat 4 * 1))) (xr_indexR (K := (kI .u8)) (v := V0_0) rfl Try.underlying43 sz5 rfl (R0_0.gr fB) rfl (by decide) g6) rfl rfl rfl rfl rfl c5 ?_
   refine ol_gval (v := .int .u8 (ix a0 4)) (xr_load1 (v := .int .u8 (ix a0 4)) rfl ag5 rfl ((R0_0.gr fB).elem (by decide) g6)) rfl rfl rfl rfl rfl c5 ?_
   refine ol_gval (v := .bool (!decide ((ix a0 4) = 0))) (xr_neI rfl Try.underlying5 rfl rfl rfl) rfl rfl rfl rfl rfl c5 ?_
   refine ol_val (v := .bool (!decide ((ix a0 4) = 0))) (xr_pickT rfl rfl c5 rfl) rfl rfl rfl ?_
   refine ol_val (v := .bool (!decide ((ix a0 4) = 0))) (xr_move rfl rfl) rfl rfl rfl ?_
   rcases is j2 with ⟨c7, j2⟩ | ⟨c7, j2⟩
   ·skip
    refine ol_gval (v := V0_0) (xr_move rfl rfl) rfl rfl rfl rfl rfl c7 ?_
    obtain ⟨t8, k9, j2⟩ := bs j2
    refine ol_gop (opv_call rfl cal133 (ac rfl (ac rfl (ac rfl an))) (octet_Noughts.ok fu _ a0 V0_0 (R0_0.gr fB) 6 2 _ k9)) rfl rfl rfl rfl rfl c7 ?_
    rintro _ w11 ⟨rfl, q10⟩
    have fB := fB.gr q10
    refine ol_val (v := .bool t8) (xr_pickT rfl rfl c7 rfl) rfl rfl rfl ?_
    refine ol_val (v := .bool t8) (xr_move rfl rfl) rfl rfl rfl ?_
    refine ol_nilK ?_
    rcases is j2 with ⟨c12, j2⟩ | ⟨c12, j2⟩
    ·skip
     obtain ⟨g14, j2⟩ := gs j2
     obtain ⟨t15, k16, j2⟩ := bs j2
     obtain ⟨g19, j2⟩ := gs j2
     refine rd_drawL 14 21 [fun vz wz => vz = (V0_0 : Value), fun vz wz => ∃ r13 : Rd (kI .u8) wz (subv 1 V0_0 0 (Int.toNat 4)) (cut a0 0 4), vz = (subv 1 V0_0 0 (Int.toNat 4) : Value), fun vz wz => vz = (.int .u64 t15 : Value), fun vz wz => vz = (.int .u32 (IntKind.u32.wrap t15) : Value), fun vz wz => vz = (V0_0 : Value), fun vz wz => ∃ r18 : Rd (kI .u8) wz (subv 1 V0_0 (Int.toNat 4) (List.length a0)) (cut a0 4 (List.length a0 : Int)), vz = (subv 1 V0_0 (Int.toNat 4) (List.length a0) : Value), fun vz wz => ∃ v20 : Value, ∃ r22 : Rds (kI .u8) wz v20 [(cut a0 4 (List.length a0 : Int))], vz = (v20 : Value)] rfl ⟨fun _ _ _ h _ => h, fun _ _ _ ⟨r13, h⟩ q => ⟨r13.gr q, h⟩, fun _ _ _ h _ => h, fun _ _ _ h _ => h, fun _ _ _ h _ => h, fun _ _ _ ⟨r18, h⟩ q => ⟨r18.gr q, h⟩, fun _ _ _ ⟨v20, r22, h⟩ q => ⟨v20, r22.gr q, h⟩, trivial⟩ ?_ ?_
     ·refine ⟨?_, ?_, ?_, ?_, ?_, ?_, ?_, trivial⟩
      ·intro ρz wz hz hk hd
       exact sk_gval (v := V0_0) (xr_move rfl ((hk 0 rfl).trans rfl)) rfl rfl ((hk 16 rfl).trans rfl) c12 rfl
      ·intro ρz wz hz hk hd
       exact sk_gval (xr_slice_h (K := (kI .u8)) (v := V0_0) rfl Try.underlying43 sz5 (hd 14 rfl rfl 17 rfl) (R0_0.gr (fB.gr hz)) rfl (by decide) g14) rfl rfl ((hk 16 rfl).trans rfl) c12 ⟨(R0_0.gr (fB.gr hz)).cut (lo := 0) (hi := 4) (by decide) (by decide) g14, rfl⟩
      ·intro ρz wz hz hk hd
       obtain ⟨r13, d18⟩ := hd 15 rfl rfl 18 rfl
       refine sk_gop (opv_call rfl cal109 (ac d18 an) (octet_Read.ok fu _ (cut a0 0 4) (subv 1 V0_0 0 (Int.toNat 4)) (r13) _ k16)) rfl rfl ((hk 16 rfl).trans rfl) c12 ?_
       rintro _ wy ⟨rfl, q17⟩
       exact ⟨rfl, q17⟩
      ·intro ρz wz hz hk hd
       exact sk_gval (v := .int .u32 (IntKind.u32.wrap t15)) (xr_conv rfl Try.underlying22 Try.underlying191 (hd 16 rfl rfl 19 rfl)) rfl rfl ((hk 16 rfl).trans rfl) c12 rfl
      ·intro ρz wz hz hk hd
       exact sk_gval (v := V0_0) (xr_move rfl ((hk 0 rfl).trans rfl)) rfl rfl ((hk 16 rfl).trans rfl) c12 rfl
      ·intro ρz wz hz hk hd
       exact sk_gval (xr_slice_l (K := (kI .u8)) (v := V0_0) rfl Try.underlying43 sz5 (hd 18 rfl rfl 21 rfl) (R0_0.gr (fB.gr hz)) rfl (by decide) g19) rfl rfl ((hk 16 rfl).trans rfl) c12 ⟨(R0_0.gr (fB.gr hz)).cut (lo := 4) (hi := (List.length a0 : Int)) (by decide) g19 (Int.le_refl _), rfl⟩
      intro ρz wz hz hk hd
      obtain ⟨r18, d22⟩ := hd 19 rfl rfl 22 rfl
      refine sk_gop (opv_build1 rfl Try.underlying100 el43 rfl r18 d22) rfl rfl ((hk 16 rfl).trans rfl) c12 ?_
      rintro v20 wy ⟨r22, q21⟩
      exact ⟨⟨v20, r22, rfl⟩, q21⟩
     intro ρ23 w24 q25 hk hd
     have e16 := (hk 16 rfl).trans rfl
     have e20 := hd 17 rfl rfl 20 rfl
     obtain ⟨v26, r27, e23⟩ := hd 20 rfl rfl 23 rfl
     have fB := fB.gr q25
     refine rd_seq (m := 21) (n := 24) rfl ?_
     obtain ⟨t28, k29, j2⟩ := bs j2
     refine ol_gop (opv_call rfl cal150 (ac e20 (ac e23 an)) (crc_Fits.ok fu _ (IntKind.u32.wrap t15) [(cut a0 4 (List.length a0 : Int))] v26 (r27) _ k29)) rfl rfl rfl rfl e16 c12 ?_
     rintro _ w31 ⟨rfl, q30⟩
     have fB := fB.gr q30
     refine ol_val (v := .bool t28) (xr_pickT rfl e16 c12 rfl) rfl rfl rfl ?_
     refine ol_val (v := .bool t28) (xr_assign rfl rfl) rfl rfl rfl ?_
     refine ol_nilK ?_
     refine rd_end rfl ?_
     obtain rfl := Option.some.inj j2
     refine thn_i ?_
     exact ⟨rfl, (((q4.gr q10).gr q25).gr q30)⟩
    refine rd_drawL 14 21 [fun vz _ => vz = undef, fun vz _ => vz = undef, fun vz _ => vz = undef, fun vz _ => vz = undef, fun vz _ => vz = undef, fun vz _ => vz = undef, fun vz _ => vz = undef] rfl ⟨fun _ _ _ h _ => h, fun _ _ _ h _ => h, fun _ _ _ h _ => h, fun _ _ _ h _ => h, fun _ _ _ h _ => h, fun _ _ _ h _ => h, fun _ _ _ h _ => h, trivial⟩ ?_ ?_
    ·refine ⟨?_, ?_, ?_, ?_, ?_, ?_, ?_, trivial⟩
     ·intro ρz wz hz hk hd
      exact sk_skip rfl rfl ((hk 16 rfl).trans rfl) c12 rfl
     ·intro ρz wz hz hk hd
      exact sk_skip rfl rfl ((hk 16 rfl).trans rfl) c12 rfl
     ·intro ρz wz hz hk hd
      exact sk_skip rfl rfl ((hk 16 rfl).trans rfl) c12 rfl
     ·intro ρz wz hz hk hd
      exact sk_skip rfl rfl ((hk 16 rfl).trans rfl) c12 rfl
     ·intro ρz wz hz hk hd
      exact sk_skip rfl rfl ((hk 16 rfl).trans rfl) c12 rfl
     ·intro ρz wz hz hk hd
      exact sk_skip rfl rfl ((hk 16 rfl).trans rfl) c12 rfl
     intro ρz wz hz hk hd
     exact sk_skip rfl rfl ((hk 16 rfl).trans rfl) c12 rfl
    intro ρ32 w33 q34 hk hd
    have e16 := (hk 16 rfl).trans rfl
    have e20 := hd 17 rfl rfl 20 rfl
    have e23 := hd 20 rfl rfl 23 rfl
    have fB := fB.gr q34
    refine rd_seq (m := 21) (n := 24) rfl ?_
    refine ol_gskip rfl rfl rfl rfl e16 c12 ?_
    refine ol_val (v := .bool false) (xr_pickF rfl e16 c12 rfl) rfl rfl rfl ?_
    refine ol_val (v := .bool false) (xr_assign rfl rfl) rfl rfl rfl ?_
    refine ol_nilK ?_
    refine rd_end rfl ?_
    obtain rfl := Option.some.inj j2
    refine thn_i ?_
    exact ⟨rfl, ((q4.gr q10).gr q34)⟩
   refine ol_gskip rfl rfl rfl rfl rfl c7 ?_
   refine ol_gskip rfl rfl rfl rfl rfl c7 ?_
   refine ol_val (v := .bool false) (xr_pickF rfl rfl c7 rfl) rfl rfl rfl ?_
   refine ol_val (v := .bool false) (xr_move rfl rfl) rfl rfl rfl ?_
   refine ol_nilK ?_
   refine rd_drawL 14 21 [fun vz _ => vz = undef, fun vz _ => vz = undef, fun vz _ => vz = undef, fun vz _ => vz = undef, fun vz _ => vz = undef, fun vz _ => vz = undef, fun vz _ => vz = undef] rfl ⟨fun _ _ _ h _ => h, fun _ _ _ h _ => h, fun _ _ _ h _ => h, fun _ _ _ h _ => h, fun _ _ _ h _ => h, fun _ _ _ h _ => h, fun _ _ _ h _ => h, trivial⟩ ?_ ?_
   ·refine ⟨?_, ?_, ?_, ?_, ?_, ?_, ?_, trivial⟩
    ·intro ρz wz hz hk hd
     exact sk_skip rfl rfl ((hk 16 rfl).trans rfl) rfl rfl
    ·intro ρz wz hz hk hd
     exact sk_skip rfl rfl ((hk 16 rfl).trans rfl) rfl rfl
    ·intro ρz wz hz hk hd
     exact sk_skip rfl rfl ((hk 16 rfl).trans rfl) rfl rfl
    ·intro ρz wz hz hk hd
     exact sk_skip rfl rfl ((hk 16 rfl).trans rfl) rfl rfl
    ·intro ρz wz hz hk hd
     exact sk_skip rfl rfl ((hk 16 rfl).trans rfl) rfl rfl
    ·intro ρz wz hz hk hd
     exact sk_skip rfl rfl ((hk 16 rfl).trans rfl) rfl rfl
    intro ρz wz hz hk hd
    exact sk_skip rfl rfl ((hk 16 rfl).trans rfl) rfl rfl
   intro ρ35 w36 q37 hk hd
   have e16 := (hk 16 rfl).trans rfl
   have e20 := hd 17 rfl rfl 20 rfl
   have e23 := hd 20 rfl rfl 23 rfl
   have fB := fB.gr q37
   refine rd_seq (m := 21) (n := 24) rfl ?_
   refine ol_gskip rfl rfl rfl rfl e16 rfl ?_
   refine ol_val (v := .bool false) (xr_pickF rfl e16 rfl rfl) rfl rfl rfl ?_
   refine ol_val (v := .bool false) (xr_assign rfl rfl) rfl rfl rfl ?_
   refine ol_nilK ?_
   refine rd_end rfl ?_
   obtain rfl := Option.some.inj j2
   refine thn_i ?_
   exact ⟨rfl, (q4.gr q37)⟩
  refine ol_gskip rfl rfl rfl rfl rfl c5 ?_
  refine ol_gskip rfl rfl rfl rfl rfl c5 ?_
  refine ol_gskip rfl rfl rfl rfl rfl c5 ?_
  refine ol_gskip rfl rfl rfl rfl rfl c5 ?_
  refine ol_val (v := .bool false) (xr_pickF rfl rfl c5 rfl) rfl rfl rfl ?_
  refine ol_val (v := .bool false) (xr_move rfl rfl) rfl rfl rfl ?_
  refine ol_gskip rfl rfl rfl rfl rfl rfl ?_
  refine ol_gskip rfl rfl rfl rfl rfl rfl ?_
  refine ol_val (v := .bool false) (xr_pickF rfl rfl rfl rfl) rfl rfl rfl ?_
  refine ol_val (v := .bool false) (xr_move rfl rfl) rfl rfl rfl ?_
  refine ol_nilK ?_
  refine rd_drawL 14 21 [fun vz _ => vz = undef, fun vz _ => vz = undef, fun vz _ => vz = undef, fun vz _ => vz = undef, fun vz _ => vz = undef, fun vz _ => vz = undef, fun vz _ => vz = undef] rfl ⟨fun _ _ _ h _ => h, fun _ _ _ h _ => h, fun _ _ _ h _ => h, fun _ _ _ h _ => h, fun _ _ _ h _ => h, fun _ _ _ h _ => h, fun _ _ _ h _ => h, trivial⟩ ?_ ?_
  ·refine ⟨?_, ?_, ?_, ?_, ?_, ?_, ?_, trivial⟩
   ·intro ρz wz hz hk hd
    exact sk_skip rfl rfl ((hk 16 rfl).trans rfl) rfl rfl
   ·intro ρz wz hz hk hd
    exact sk_skip rfl rfl ((hk 16 rfl).trans rfl) rfl rfl
   ·intro ρz wz hz hk hd
    exact sk_skip rfl rfl ((hk 16 rfl).trans rfl) rfl rfl
   ·intro ρz wz hz hk hd
    exact sk_skip rfl rfl ((hk 16 rfl).trans rfl) rfl rfl
   ·intro ρz wz hz hk hd
    exact sk_skip rfl rfl ((hk 16 rfl).trans rfl) rfl rfl
   ·intro ρz wz hz hk hd
    exact sk_skip rfl rfl ((hk 16 rfl).trans rfl) rfl rfl
   intro ρz wz hz hk hd
   exact sk_skip rfl rfl ((hk 16 rfl).trans rfl) rfl rfl
  intro ρ38 w39 q40 hk hd
  have e16 := (hk 16 rfl).trans rfl
  have e20 := hd 17 rfl rfl 20 rfl
  have e23 := hd 20 rfl rfl 23 rfl
  have fB := fB.gr q40
  refine rd_seq (m := 21) (n := 24) rfl ?_
  refine ol_gskip rfl rfl rfl rfl e16 rfl ?_
  refine ol_val (v := .bool false) (xr_pickF rfl e16 rfl rfl) rfl rfl rfl ?_
  refine ol_val (v := .bool false) (xr_assign rfl rfl) rfl rfl rfl ?_
  refine ol_nilK ?_
  refine rd_end rfl ?_
  obtain rfl := Option.some.inj j2
  refine thn_i ?_
  exact ⟨rfl, (q4.gr q40)⟩
 rintro ρ41 w42 ⟨e2, q43⟩
 have fB := fB.gr q43
 refine cw_ret ?_
 repeat (first | with_reducible refine thn_r ?_ | with_reducible refine blk_r ?_)
 obtain rfl := Option.some.inj h
 refine fin_ret1 Try.results141 e2 ?_
 exact ⟨_, rfl, rfl, fB⟩
def bytes_Clone.f (fu : Nat) (a0 : List Int) : Option (List Int) := (if List.length a0 ≤ LIM then some a0 else none)
theorem bytes_Clone.ok (fu : Nat) (w : World) (a0 : List Int) (V0_0 : Value) (R0_0 : Rd (kI .u8) w V0_0 a0) (r : List Int) (h : bytes_Clone.f fu a0 = some r) :
  Calls Try.prog 142 (([V0_0] : List Value).toArray) w (fun e w' => ∃ v, e = .returned v ∧ ∃ u1 : Value, ∃ o2 : Own (kI .u8) 5 w' w.heap.size u1 r, v = u1 ∧ Gr w w') := by
 unfold bytes_Clone.f at h
 obtain ⟨g, h⟩ := gs h
 obtain rfl := Option.some.inj h
 have fB : Gr w w := Fr.refl _ _
 refine calls_cw Try.func142 rfl Try.ntmps142 rfl ?_
 refine cw_seq ?_
 refine cw_region ?_
 refine ol_val (v := .slice none 0 0) (xr_assign rfl rfl) rfl rfl rfl ?_
 refine ol_nil ?_
 refine cw_seq ?_
 refine cw_seq ?_
 refine cw_region ?_
 refine ol_val (v := V0_0) (xr_move rfl rfl) rfl rfl rfl ?_
 refine ol_val (v := .bool (isNilV V0_0)) (xr_eqNil rfl Try.underlying43 rfl rfl R0_0) rfl rfl rfl ?_
 refine ol_nil ?_
 rcases bt (isNilV V0_0) with c | c
 ·refine cw_condT rfl c ?_
  obtain rfl := R0_0.isNil c
  refine cw_seq ?_
  refine cw_region ?_
  refine ol_val (v := .slice none 0 0) (xr_assign rfl rfl) rfl rfl rfl ?_
  refine ol_nil ?_
  refine cw_ret ?_
  repeat (first | with_reducible refine thn_r ?_ | with_reducible refine blk_r ?_)
  refine fin_ret1 Try.results142 rfl ?_
  exact ⟨_, rfl, _, Own.nil _ _ _ _, rfl, fB⟩
 refine cw_condF rfl c ?_
 refine cw_skip ?_
 refine cw_seq ?_
 refine cw_region ?_
 refine ol_op (opv_buildSlice (K := (kI .u8)) (xs := ([] : List Int)) (vals := []) rfl Try.underlying43 el5 rfl rfl trivial rfl rfl rfl fB.size) rfl rfl rfl ?_
 rintro v1 w1 ⟨o1, q1, z1⟩
 refine ol_val (v := V0_0) (xr_move rfl rfl) rfl rfl rfl ?_
 refine ol_op (opv_append (K := (kI .u8)) rfl Try.underlying43 el5 rfl rfl rfl rfl rfl o1 (R0_0.gr q1) (by simpa using g) (fB.gr q1).size) rfl rfl rfl ?_
 rintro v2 w2 ⟨o2, q2, n2⟩
 refine ol_val (v := v2) (xr_assign rfl rfl) rfl rfl rfl ?_
 refine ol_nil ?_
 refine cw_ret ?_
 repeat (first | with_reducible refine thn_r ?_ | with_reducible refine blk_r ?_)
 refine fin_ret1 Try.results142 rfl ?_
 exact ⟨_, rfl, v2, o2, rfl, (fB.gr q1).wrO q2 o1.geO⟩
def block_Open.f (fu : Nat) (a0 : List Int) : Option (Int × Int × (List Int) × Bool) := ((block_right.f fu a0).bind fun t4 => (if (!t4) = true then some (0, 0, [], false) else (if (4 : Int) < (List.length a0 : Int) then (if (5 : Int) < (List.length a0 : Int) then (if (8 : Int) ≤ (List.length a0 : Int) then ((bytes_Clone.f fu (cut a0 8 (List.length a0 : Int))).bind fun t13 => some ((IntKind.i64.wrap (ix a0 4)), (IntKind.i64.wrap (ix a0 5)), t13, true)) else none) else none) else none)))
theorem block_Open.ok (fu : Nat) (w : World) (a0 : List Int) (V0_0 : Value) (R0_0 : Rd (kI .u8) w V0_0 a0) (r : Int × Int × (List Int) × Bool) (h : block_Open.f fu a0 = some r) :
  Calls Try.prog 130 (([V0_0] : List Value).toArray) w (fun e w' => ∃ v, e = .returned v ∧ ∃ u1 : Value, ∃ o2 : Own (kI .u8) 5 w' w.heap.size u1 r.2.2.1, v = .tuple #[.int .i64 r.1, .int .i64 r.2.1, u1, .bool r.2.2.2] ∧ Gr w w') := by
 unfold block_Open.f at h
 have fB : Gr w w := Fr.refl _ _
 refine calls_cw Try.func130 rfl Try.ntmps130 rfl ?_
 refine cw_seq ?_
 refine cw_region ?_
 refine ol_val (v := .int .i64 0) (xr_assign rfl rfl) rfl rfl rfl ?_
 refine ol_val (v := .int .i64 0) (xr_assign rfl rfl) rfl rfl rfl ?_
 refine ol_val (v := .slice none 0 0) (xr_assign rfl rfl) rfl rfl rfl ?_
 refine ol_val (v := .bool false) (xr_assign rfl rfl) rfl rfl rfl ?_
 refine ol_nil ?_
 refine cw_seq ?_
 refine cw_seq ?_
 refine cw_region ?_
 refine ol_val (v := V0_0) (xr_move rfl rfl) rfl rfl rfl ?_
 obtain ⟨t4, k5, h⟩ := bs h
 refine ol_op (opv_call rfl cal141 (ac rfl an) (block_right.ok fu _ a0 V0_0 (R0_0.gr fB) _ k5)) rfl rfl rfl ?_
 rintro _ w7 ⟨rfl, q6⟩
 have fB := fB.gr q6
 refine ol_val (v := .bool (!t4)) (xr_not rfl rfl) rfl rfl rfl ?_
 refine ol_nil ?_
 rcases is h with ⟨c8, h⟩ | ⟨c8, h⟩
 ·refine cw_condT rfl c8 ?_
  refine cw_seq ?_
  refine cw_region ?_
  refine ol_val (v := .int .i64 0) (xr_assign rfl rfl) rfl rfl rfl ?_
  refine ol_val (v := .int .i64 0) (xr_assign rfl rfl) rfl rfl rfl ?_
  refine ol_val (v := .slice none 0 0) (xr_assign rfl rfl) rfl rfl rfl ?_
  refine ol_val (v := .bool false) (xr_assign rfl rfl) rfl rfl rfl ?_
  refine ol_nil ?_
  refine cw_ret ?_
  repeat (first | with_reducible refine thn_r ?_ | with_reducible refine blk_r ?_)
  obtain rfl := Option.some.inj h
  refine fin_ret4 Try.results130 rfl rfl rfl rfl ?_
  exact ⟨_, rfl, (.slice none 0 0), Own.nil _ _ _ _, rfl, fB⟩
 refine cw_condF rfl c8 ?_
 refine cw_skip ?_
 refine cw_seq ?_
 obtain ⟨g9, h⟩ := gs h
 obtain ⟨g10, h⟩ := gs h
 obtain ⟨g12, h⟩ := gs h
 obtain ⟨t13, k14, h⟩ := bs h
 refine cw_drawL 12 [fun vz wz => vz = (V0_0 : Value), fun vz wz => vz = ((pt ((sb V0_0)) (so V0_0 + Int.toNat 4 * 1)) : Value), fun vz wz => vz = (.int .u8 (ix a0 4) : Value), fun vz wz => vz = (.int .i64 (IntKind.i64.wrap (ix a0 4)) : Value), fun vz wz => vz = (V0_0 : Value), fun vz wz => vz = ((pt ((sb V0_0)) (so V0_0 + Int.toNat 5 * 1)) : Value), fun vz wz => vz = (.int .u8 (ix a0 5) : Value), fun vz wz => vz = (.int .i64 (IntKind.i64.wrap (ix a0 5)) : Value), fun vz wz => vz = (V0_0 : Value), fun vz wz => ∃ r11 : Rd (kI .u8) wz (subv 1 V0_0 (Int.toNat 8) (List.length a0)) (cut a0 8 (List.length a0 : Int)), vz = (subv 1 V0_0 (Int.toNat 8) (List.length a0) : Value), fun vz wz => ∃ u15 : Value, ∃ o16 : Own (kI .u8) 5 wz w.heap.size u15 t13, vz = (u15 : Value), fun vz wz => vz = (.int .i64 (IntKind.i64.wrap (ix a0 4)) : Value)] mo rfl ⟨fun _ _ _ h _ => h, fun _ _ _ h _ => h, fun _ _ _ h _ => h, fun _ _ _ h _ => h, fun _ _ _ h _ => h, fun _ _ _ h _ => h, fun _ _ _ h _ => h, fun _ _ _ h _ => h, fun _ _ _ h _ => h, fun _ _ _ ⟨r11, h⟩ q => ⟨r11.gr q, h⟩, fun _ _ _ ⟨u15, o16, h⟩ q => ⟨u15, o16.gr q, h⟩, fun _ _ _ h _ => h, trivial⟩ ?_ ?_
 ·refine ⟨?_, ?_, ?_, ?_, ?_, ?_, ?_, ?_, ?_, ?_, ?_, ?_, trivial⟩
  ·intro ρz wz hz hk hd
   exact sk_val (v := V0_0) (xr_move rfl ((hk 0 rfl).trans rfl)) rfl rfl
  ·intro ρz wz hz hk hd
   exact sk_val (xr_indexR (K := (kI .u8)) (v := V0_0) rfl Try.underlying43 sz5 (hd 0 rfl 9 rfl) (R0_0.gr (fB.gr hz)) rfl (by decide) g9) rfl rfl
  ·intro ρz wz hz hk hd
   exact sk_val (v := .int .u8 (ix a0 4)) (xr_load1 (v := .int .u8 (ix a0 4)) rfl ag5 (hd 1 rfl 10 rfl) ((R0_0.gr (fB.gr hz)).elem (by decide) g9)) rfl rfl
  ·intro ρz wz hz hk hd
   exact sk_val (v := .int .i64 (IntKind.i64.wrap (ix a0 4))) (xr_conv rfl Try.underlying5 Try.underlying3 (hd 2 rfl 11 rfl)) rfl rfl
  ·intro ρz wz hz hk hd
   exact sk_val (v := V0_0) (xr_move rfl ((hk 0 rfl).trans rfl)) rfl rfl
  ·intro ρz wz hz hk hd
   exact sk_val (xr_indexR (K := (kI .u8)) (v := V0_0) rfl Try.underlying43 sz5 (hd 4 rfl 13 rfl) (R0_0.gr (fB.gr hz)) rfl (by decide) g10) rfl rfl
  ·intro ρz wz hz hk hd
   exact sk_val (v := .int .u8 (ix a0 5)) (xr_load1 (v := .int .u8 (ix a0 5)) rfl ag5 (hd 5 rfl 14 rfl) ((R0_0.gr (fB.gr hz)).elem (by decide) g10)) rfl rfl
  ·intro ρz wz hz hk hd
   exact sk_val (v := .int .i64 (IntKind.i64.wrap (ix a0 5))) (xr_conv rfl Try.underlying5 Try.underlying3 (hd 6 rfl 15 rfl)) rfl rfl
  ·intro ρz wz hz hk hd
   exact sk_val (v := V0_0) (xr_move rfl ((hk 0 rfl).trans rfl)) rfl rfl
  ·intro ρz wz hz hk hd
   exact sk_val (xr_slice_l (K := (kI .u8)) (v := V0_0) rfl Try.underlying43 sz5 (hd 8 rfl 17 rfl) (R0_0.gr (fB.gr hz)) rfl (by decide) g12) rfl ⟨(R0_0.gr (fB.gr hz)).cut (lo := 8) (hi := (List.length a0 : Int)) (by decide) g12 (Int.le_refl _), rfl⟩
  ·intro ρz wz hz hk hd
   obtain ⟨r11, d18⟩ := hd 9 rfl 18 rfl
   refine sk_op (opv_call rfl cal142 (ac d18 an) (bytes_Clone.ok fu _ (cut a0 8 (List.length a0 : Int)) (subv 1 V0_0 (Int.toNat 8) (List.length a0)) (r11) _ k14)) rfl ?_
   rintro u15 wy ⟨_, o16, rfl, q18⟩
   exact ⟨⟨u15, Own.base o16 ((Nat.le_trans fB.size hz.size)), rfl⟩, q18⟩
  intro ρz wz hz hk hd
  exact sk_val (v := .int .i64 (IntKind.i64.wrap (ix a0 4))) (xr_assign rfl (hd 3 rfl 12 rfl)) rfl rfl
 intro ρ19 w20 q21 hk hd
 have e2 := hd 11 rfl 2 rfl
 have e16 := hd 7 rfl 16 rfl
 obtain ⟨u22, o23, e19⟩ := hd 10 rfl 19 rfl
 have fB := fB.gr q21
 refine ol_val (v := .int .i64 (IntKind.i64.wrap (ix a0 5))) (xr_assign rfl e16) rfl rfl rfl ?_
 refine ol_val (v := u22) (xr_assign rfl e19) rfl rfl rfl ?_
 refine ol_val (v := .bool true) (xr_assign rfl rfl) rfl rfl rfl ?_
 refine ol_nil ?_
 refine cw_ret ?_
 repeat (first | with_reducible refine thn_r ?_ | with_reducible refine blk_r ?_)
 obtain rfl := Option.some.inj h
 refine fin_ret4 Try.results130 e2 rfl rfl rfl ?_
 exact ⟨_, rfl, u22, o23, rfl, fB⟩
def super_reader_next.f (fu : Nat) (a0 : S_super_reader) (a1 : Int) : Option (Int × S_super_reader) := (if 0 ≤ a1 ∧ a1 ≤ (List.length a0.rest : Int) then ((octet_Read.f fu (cut a0.rest 0 a1)).bind fun t7 => (if 0 ≤ a1 ∧ a1 ≤ (List.length a0.rest : Int) then some ((IntKind.i64.wrap t7), (⟨(cut a0.rest a1 (List.length a0.rest : Int))⟩ : S_super_reader)) else none)) else none)
theorem super_reader_next.ok (fu : Nat) (w : World) (a0 : S_super_reader) (G_0 : Nat) (V0_0 : Value) (R0_0 : Rd (kI .u8) w V0_0 a0.rest) (N0_0 : OffR V0_0 a0.rest G_0) (b_0 : Blk w G_0 182 [Seg.cell V0_0 R0_0.one]) (a1 : Int) (r : Int × S_super_reader) (h : super_reader_next.f fu a0 a1 = some r) :
  Calls Try.prog 131 (([(pt G_0 0), .int .i64 a1] : List Value).toArray) w (fun e w' => ∃ v, e = .returned v ∧ ∃ u1 : Value, ∃ r2 : Rd (kI .u8) w' u1 r.2.rest, ∃ n3 : ∀ g, OffR V0_0 a0.rest g → OffR u1 r.2.rest g, ∃ n4 : ∀ g, OffRV V0_0 a0.rest g → OffRV u1 r.2.rest g, v = .int .i64 r.1 ∧ Blk w' G_0 182 [Seg.cell u1 r2.one] ∧ Fr (fun j => j = G_0) w w') := by
 unfold super_reader_next.f at h
 have fB : Fr (fun j => j = G_0) w w := Fr.refl _ _
 refine calls_cw Try.func131 rfl Try.ntmps131 rfl ?_
 refine cw_seq ?_
 refine cw_region ?_
 refine ol_val (v := .int .i64 0) (xr_assign rfl rfl) rfl rfl rfl ?_
 refine ol_nil ?_
 refine cw_seq ?_
 refine cw_region ?_
 refine ol_val (v := (pt G_0 0)) (xr_move rfl rfl) rfl rfl rfl ?_
 refine ol_val (v := (pt G_0 0)) (xr_nilCheck rfl rfl) rfl rfl rfl ?_
 refine ol_val (v := (pt G_0 0)) (xr_fieldAddr (p := 0) (q := 0) rfl fl182_0 rfl) rfl rfl rfl ?_
 refine ol_val (v := V0_0) (xr_load1 (v := V0_0) rfl ag43 rfl (b_0.seg 0 rfl rfl)) rfl rfl rfl ?_
 refine ol_val (v := .int .i64 a1) (xr_move rfl rfl) rfl rfl rfl ?_
 obtain ⟨g6, h⟩ := gs h
 refine ol_val (v := subv 1 V0_0 0 (Int.toNat a1)) (xr_slice_h (K := (kI .u8)) (v := V0_0) rfl Try.underlying43 sz5 rfl R0_0 rfl g6.1 g6.2) rfl rfl rfl ?_
 have r5 : Rd (kI .u8) w (subv 1 V0_0 0 (Int.toNat a1)) (cut a0.rest 0 a1) := R0_0.cut (lo := 0) (hi := a1) (by decide) g6.1 g6.2
 obtain ⟨t7, k8, h⟩ := bs h
 refine ol_op (opv_call rfl cal109 (ac rfl an) (octet_Read.ok fu _ (cut a0.rest 0 a1) (subv 1 V0_0 0 (Int.toNat a1)) (r5) _ k8)) rfl rfl rfl ?_
 rintro _ w10 ⟨rfl, q9⟩
 have b_0 := b_0.gr q9
 have R0_0 := R0_0.gr q9
 have fB := fB.gr q9
 refine ol_val (v := .int .u64 t7) (xr_assign rfl rfl) rfl rfl rfl ?_
 refine ol_nil ?_
 refine cw_seq ?_
 refine cw_region ?_
 refine ol_val (v := (pt G_0 0)) (xr_move rfl rfl) rfl rfl rfl ?_
 refine ol_val (v := (pt G_0 0)) (xr_move rfl rfl) rfl rfl rfl ?_
 refine ol_val (v := (pt G_0 0)) (xr_nilCheck rfl rfl) rfl rfl rfl ?_
 refine ol_val (v := (pt G_0 0)) (xr_fieldAddr (p := 0) (q := 0) rfl fl182_0 rfl) rfl rfl rfl ?_
 refine ol_val (v := V0_0) (xr_load1 (v := V0_0) rfl ag43 rfl (b_0.seg 0 rfl rfl)) rfl rfl rfl ?_
 refine ol_val (v := .int .i64 a1) (xr_move rfl rfl) rfl rfl rfl ?_
 obtain ⟨g12, h⟩ := gs h
 refine ol_val (v := subv 1 V0_0 (Int.toNat a1) (List.length a0.rest)) (xr_slice_l (K := (kI .u8)) (v := V0_0) rfl Try.underlying43 sz5 rfl R0_0 rfl g12.1 g12.2) rfl rfl rfl ?_
 have r11 : Rd (kI .u8) w10 (subv 1 V0_0 (Int.toNat a1) (List.length a0.rest)) (cut a0.rest a1 (List.length a0.rest : Int)) := R0_0.cut (lo := a1) (hi := (List.length a0.rest : Int)) g12.1 g12.2 (Int.le_refl _)
 refine ol_val (v := (pt G_0 0)) (xr_nilCheck rfl rfl) rfl rfl rfl ?_
 refine ol_val (v := (pt G_0 0)) (xr_fieldAddr (p := 0) (q := 0) rfl fl182_0 rfl) rfl rfl rfl ?_
 refine ol_op0 (opv_store (ss' := [Seg.cell (subv 1 V0_0 (Int.toNat a1) (List.length a0.rest)) r11.one]) (xs := cellsOf [Seg.cell (subv 1 V0_0 (Int.toNat a1) (List.length a0.rest)) r11.one]) rfl sz43 rfl rfl (cells_one r11.one) (len_cellsOf _) (one_cellsOf _) b_0 (Spl.segs _ 0 1 [Seg.cell (subv 1 V0_0 (Int.toNat a1) (List.length a0.rest)) r11.one] rfl rfl)) rfl rfl ?_
 rintro _ w14 ⟨b_0, q13⟩
 have r11 := r11.wr q13 (OffR.cut N0_0)
 have fB := fB.wrS q13 rfl
 refine ol_nil ?_
 refine cw_seq ?_
 refine cw_region ?_
 refine ol_val (v := .int .u64 t7) (xr_move rfl rfl) rfl rfl rfl ?_
 refine ol_val (v := .int .i64 (IntKind.i64.wrap t7)) (xr_conv rfl Try.underlying22 Try.underlying3 rfl) rfl rfl rfl ?_
 refine ol_val (v := .int .i64 (IntKind.i64.wrap t7)) (xr_assign rfl rfl) rfl rfl rfl ?_
 refine ol_nil ?_
 refine cw_ret ?_
 repeat (first | with_reducible refine thn_r ?_ | with_reducible refine blk_r ?_)
 obtain rfl := Option.some.inj h
 refine fin_ret1 Try.results131 rfl ?_
 exact ⟨_, rfl, (subv 1 V0_0 (Int.toNat a1) (List.length a0.rest)), r11, (fun _ hN => (OffR.cut hN)), (fun _ hN => (OffRV.cut hN)), rfl, b_0, fB⟩
def geom_Right.f (fu : Nat) (a0 : S_api_Geometry) : Option Bool := some ((if (decide (a0.Blocks ≥ 16)) = true then (if (decide (a0.Blocks ≤ 3072)) = true then (if (decide (a0.Slots ≥ 1)) = true then (if (decide (a0.Slots ≤ 1792)) = true then (if (decide (a0.Gens ≥ 1)) = true then (decide (a0.Gens ≤ 4294967295)) else false) else false) else false) else false) else false))
theorem geom_Right.ok (fu : Nat) (w : World) (a0 : S_api_Geometry) (r : Bool) (h : geom_Right.f fu a0 = some r) :
  Calls Try.prog 143 (([aggV [(sI a0.Blocks), (sI a0.Slots), (sI a0.Gens)]] : List Value).toArray) w (fun e w' => ∃ v, e = .returned v ∧ v = .bool r ∧ Gr w w') := by
 unfold geom_Right.f at h
 have fB : Gr w w := Fr.refl _ _
 refine calls_cw Try.func143 rfl Try.ntmps143 rfl ?_
 refine cw_seq ?_
 refine cw_region ?_
 refine ol_op (opv_box (ss := [(sI a0.Blocks), (sI a0.Slots), (sI a0.Gens)]) rfl rfl rfl) rfl rfl rfl ?_
 rintro _ w6 ⟨G1, rfl, b2, q3, z4⟩
 have z4 := Nat.le_trans fB.size z4
 have fB := fB.gr q3
 refine ol_val (v := .bool false) (xr_assign rfl rfl) rfl rfl rfl ?_
 refine ol_nil ?_
 refine cw_seq ?_
 refine cw_mid (fun ρ' w' => ρ' 2 = .bool (if (decide (a0.Blocks ≥ 16)) = true then (if (decide (a0.Blocks ≤ 3072)) = true then (if (decide (a0.Slots ≥ 1)) = true then (if (decide (a0.Slots ≤ 1792)) = true then (if (decide (a0.Gens ≥ 1)) = true then (decide (a0.Gens ≤ 4294967295)) else false) else false) else false) else false) else false) ∧ w6 = w') ?_ ?_
 ·skip
  refine cw_region ?_
  refine ol_val (v := (pt G1 0)) (xr_fieldAddr (p := 0) (q := 0) rfl fl106_0 rfl) rfl rfl rfl ?_
  refine ol_val (v := .int .i64 a0.Blocks) (xr_load1 (v := .int .i64 a0.Blocks) rfl ag3 rfl (b2.seg 0 rfl rfl)) rfl rfl rfl ?_
  refine ol_val (v := .bool (decide (a0.Blocks ≥ 16))) (xr_geq rfl rfl rfl) rfl rfl rfl ?_
  refine ol_val (v := .bool (decide (a0.Blocks ≥ 16))) (xr_move rfl rfl) rfl rfl rfl ?_
  rcases bt (decide (a0.Blocks ≥ 16)) with c7 | c7
  ·skip
   refine ol_gval (v := (pt G1 0)) (xr_fieldAddr (p := 0) (q := 0) rfl fl106_0 rfl) rfl rfl rfl rfl rfl c7 ?_
   refine ol_gval (v := .int .i64 a0.Blocks) (xr_load1 (v := .int .i64 a0.Blocks) rfl ag3 rfl (b2.seg 0 rfl rfl)) rfl rfl rfl rfl rfl c7 ?_
   refine ol_gval (v := .bool (decide (a0.Blocks ≤ 3072))) (xr_leq rfl rfl rfl) rfl rfl rfl rfl rfl c7 ?_
   refine ol_val (v := .bool (decide (a0.Blocks ≤ 3072))) (xr_pickT rfl rfl c7 rfl) rfl rfl rfl ?_
   refine ol_val (v := .bool (decide (a0.Blocks ≤ 3072))) (xr_move rfl rfl) rfl rfl rfl ?_
   rcases bt (decide (a0.Blocks ≤ 3072)) with c8 | c8
   ·skip
    refine ol_gval (v := (pt G1 1)) (xr_fieldAddr (p := 0) (q := 1) rfl fl106_1 rfl) rfl rfl rfl rfl rfl c8 ?_
    refine ol_gval (v := .int .i64 a0.Slots) (xr_load1 (v := .int .i64 a0.Slots) rfl ag3 rfl (b2.seg 1 rfl rfl)) rfl rfl rfl rfl rfl c8 ?_
    refine ol_gval (v := .bool (decide (a0.Slots ≥ 1))) (xr_geq rfl rfl rfl) rfl rfl rfl rfl rfl c8 ?_
    refine ol_val (v := .bool (decide (a0.Slots ≥ 1))) (xr_pickT rfl rfl c8 rfl) rfl rfl rfl ?_
    refine ol_val (v := .bool (decide (a0.Slots ≥ 1))) (xr_move rfl rfl) rfl rfl rfl ?_
    rcases bt (decide (a0.Slots ≥ 1)) with c9 | c9
    ·skip
     refine ol_gval (v := (pt G1 1)) (xr_fieldAddr (p := 0) (q := 1) rfl fl106_1 rfl) rfl rfl rfl rfl rfl c9 ?_
     refine ol_gval (v := .int .i64 a0.Slots) (xr_load1 (v := .int .i64 a0.Slots) rfl ag3 rfl (b2.seg 1 rfl rfl)) rfl rfl rfl rfl rfl c9 ?_
     refine ol_gval (v := .bool (decide (a0.Slots ≤ 1792))) (xr_leq rfl rfl rfl) rfl rfl rfl rfl rfl c9 ?_
     refine ol_val (v := .bool (decide (a0.Slots ≤ 1792))) (xr_pickT rfl rfl c9 rfl) rfl rfl rfl ?_
     refine ol_val (v := .bool (decide (a0.Slots ≤ 1792))) (xr_move rfl rfl) rfl rfl rfl ?_
     rcases bt (decide (a0.Slots ≤ 1792)) with c10 | c10
     ·skip
      refine ol_gval (v := (pt G1 2)) (xr_fieldAddr (p := 0) (q := 2) rfl fl106_2 rfl) rfl rfl rfl rfl rfl c10 ?_
      refine ol_gval (v := .int .i64 a0.Gens) (xr_load1 (v := .int .i64 a0.Gens) rfl ag3 rfl (b2.seg 2 rfl rfl)) rfl rfl rfl rfl rfl c10 ?_
      refine ol_gval (v := .bool (decide (a0.Gens ≥ 1))) (xr_geq rfl rfl rfl) rfl rfl rfl rfl rfl c10 ?_
      refine ol_val (v := .bool (decide (a0.Gens ≥ 1))) (xr_pickT rfl rfl c10 rfl) rfl rfl rfl ?_
      refine ol_val (v := .bool (decide (a0.Gens ≥ 1))) (xr_move rfl rfl) rfl rfl rfl ?_
      rcases bt (decide (a0.Gens ≥ 1)) with c11 | c11
      ·skip
       refine ol_gval (v := (pt G1 2)) (xr_fieldAddr (p := 0) (q := 2) rfl fl106_2 rfl) rfl rfl rfl rfl rfl c11 ?_
       refine ol_gval (v := .int .i64 a0.Gens) (xr_load1 (v := .int .i64 a0.Gens) rfl ag3 rfl (b2.seg 2 rfl rfl)) rfl rfl rfl rfl rfl c11 ?_
       refine ol_gval (v := .bool (decide (a0.Gens ≤ 4294967295))) (xr_leq rfl rfl rfl) rfl rfl rfl rfl rfl c11 ?_
       refine ol_val (v := .bool (decide (a0.Gens ≤ 4294967295))) (xr_pickT rfl rfl c11 rfl) rfl rfl rfl ?_
       refine ol_val (v := .bool (decide (a0.Gens ≤ 4294967295))) (xr_assign rfl rfl) rfl rfl rfl ?_
       refine ol_nil ?_
       refine thn_i ?_
       exact ⟨(rfl).trans (congrArg (fun z => (.bool z : Value)) (show (decide (a0.Gens ≤ 4294967295)) = (if (decide (a0.Blocks ≥ 16)) = true then (if (decide (a0.Blocks ≤ 3072)) = true then (if (decide (a0.Slots ≥ 1)) = true then (if (decide (a0.Slots ≤ 1792)) = true then (if (decide (a0.Gens ≥ 1)) = true then (decide (a0.Gens ≤ 4294967295)) else false) else false) else false) else false) else false) from by rw [ite_t c7, ite_t c8, ite_t c9, ite_t c10, ite_t c11])), rfl⟩
      refine ol_gskip rfl rfl rfl rfl rfl c11 ?_
      refine ol_gskip rfl rfl rfl rfl rfl c11 ?_
      refine ol_gskip rfl rfl rfl rfl rfl c11 ?_
      refine ol_val (v := .bool false) (xr_pickF rfl rfl c11 rfl) rfl rfl rfl ?_
      refine ol_val (v := .bool false) (xr_assign rfl rfl) rfl rfl rfl ?_
      refine ol_nil ?_
      refine thn_i ?_
      exact ⟨(rfl).trans (congrArg (fun z => (.bool z : Value)) (show false = (if (decide (a0.Blocks ≥ 16)) = true then (if (decide (a0.Blocks ≤ 3072)) = true then (if (decide (a0.Slots ≥ 1)) = true then (if (decide (a0.Slots ≤ 1792)) = true then (if (decide (a0.Gens ≥ 1)) = true then (decide (a0.Gens ≤ 4294967295)) else false) else false) else false) else false) else false) from by rw [ite_t c7, ite_t c8, ite_t c9, ite_t c10, ite_f c11])), rfl⟩
     refine ol_gskip rfl rfl rfl rfl rfl c10 ?_
     refine ol_gskip rfl rfl rfl rfl rfl c10 ?_
     refine ol_gskip rfl rfl rfl rfl rfl c10 ?_
     refine ol_val (v := .bool false) (xr_pickF rfl rfl c10 rfl) rfl rfl rfl ?_
     refine ol_val (v := .bool false) (xr_move rfl rfl) rfl rfl rfl ?_
     refine ol_gskip rfl rfl rfl rfl rfl rfl ?_
     refine ol_gskip rfl rfl rfl rfl rfl rfl ?_
     refine ol_gskip rfl rfl rfl rfl rfl rfl ?_
     refine ol_val (v := .bool false) (xr_pickF rfl rfl rfl rfl) rfl rfl rfl ?_
     refine ol_val (v := .bool false) (xr_assign rfl rfl) rfl rfl rfl ?_
     refine ol_nil ?_
     refine thn_i ?_
     exact ⟨(rfl).trans (congrArg (fun z => (.bool z : Value)) (show false = (if (decide (a0.Blocks ≥ 16)) = true then (if (decide (a0.Blocks ≤ 3072)) = true then (if (decide (a0.Slots ≥ 1)) = true then (if (decide (a0.Slots ≤ 1792)) = true then (if (decide (a0.Gens ≥ 1)) = true then (decide (a0.Gens ≤ 4294967295)) else false) else false) else false) else false) else false) from by rw [ite_t c7, ite_t c8, ite_t c9, ite_f c10])), rfl⟩
    refine ol_gskip rfl rfl rfl rfl rfl c9 ?_
    refine ol_gskip rfl rfl rfl rfl rfl c9 ?_
    refine ol_gskip rfl rfl rfl rfl rfl c9 ?_
    refine ol_val (v := .bool false) (xr_pickF rfl rfl c9 rfl) rfl rfl rfl ?_
    refine ol_val (v := .bool false) (xr_move rfl rfl) rfl rfl rfl ?_
    refine ol_gskip rfl rfl rfl rfl rfl rfl ?_
    refine ol_gskip rfl rfl rfl rfl rfl rfl ?_
    refine ol_gskip rfl rfl rfl rfl rfl rfl ?_
    refine ol_val (v := .bool false) (xr_pickF rfl rfl rfl rfl) rfl rfl rfl ?_
    refine ol_val (v := .bool false) (xr_move rfl rfl) rfl rfl rfl ?_
    refine ol_gskip rfl rfl rfl rfl rfl rfl ?_
    refine ol_gskip rfl rfl rfl rfl rfl rfl ?_
    refine ol_gskip rfl rfl rfl rfl rfl rfl ?_
    refine ol_val (v := .bool false) (xr_pickF rfl rfl rfl rfl) rfl rfl rfl ?_
    refine ol_val (v := .bool false) (xr_assign rfl rfl) rfl rfl rfl ?_
    refine ol_nil ?_
    refine thn_i ?_
    exact ⟨(rfl).trans (congrArg (fun z => (.bool z : Value)) (show false = (if (decide (a0.Blocks ≥ 16)) = true then (if (decide (a0.Blocks ≤ 3072)) = true then (if (decide (a0.Slots ≥ 1)) = true then (if (decide (a0.Slots ≤ 1792)) = true then (if (decide (a0.Gens ≥ 1)) = true then (decide (a0.Gens ≤ 4294967295)) else false) else false) else false) else false) else false) from by rw [ite_t c7, ite_t c8, ite_f c9])), rfl⟩
   refine ol_gskip rfl rfl rfl rfl rfl c8 ?_
   refine ol_gskip rfl rfl rfl rfl rfl c8 ?_
   refine ol_gskip rfl rfl rfl rfl rfl c8 ?_
   refine ol_val (v := .bool false) (xr_pickF rfl rfl c8 rfl) rfl rfl rfl ?_
   refine ol_val (v := .bool false) (xr_move rfl rfl) rfl rfl rfl ?_
   refine ol_gskip rfl rfl rfl rfl rfl rfl ?_
   refine ol_gskip rfl rfl rfl rfl rfl rfl ?_
   refine ol_gskip rfl rfl rfl rfl rfl rfl ?_
   refine ol_val (v := .bool false) (xr_pickF rfl rfl rfl rfl) rfl rfl rfl ?_
   refine ol_val (v := .bool false) (xr_move rfl rfl) rfl rfl rfl ?_
   refine ol_gskip rfl rfl rfl rfl rfl rfl ?_
   refine ol_gskip rfl rfl rfl rfl rfl rfl ?_
   refine ol_gskip rfl rfl rfl rfl rfl rfl ?_
   refine ol_val (v := .bool false) (xr_pickF rfl rfl rfl rfl) rfl rfl rfl ?_
   refine ol_val (v := .bool false) (xr_move rfl rfl) rfl rfl rfl ?_
   refine ol_gskip rfl rfl rfl rfl rfl rfl ?_
   refine ol_gskip rfl rfl rfl rfl rfl rfl ?_
   refine ol_gskip rfl rfl rfl rfl rfl rfl ?_
   refine ol_val (v := .bool false) (xr_pickF rfl rfl rfl rfl) rfl rfl rfl ?_
   refine ol_val (v := .bool false) (xr_assign rfl rfl) rfl rfl rfl ?_
   refine ol_nil ?_
   refine thn_i ?_
   exact ⟨(rfl).trans (congrArg (fun z => (.bool z : Value)) (show false = (if (decide (a0.Blocks ≥ 16)) = true then (if (decide (a0.Blocks ≤ 3072)) = true then (if (decide (a0.Slots ≥ 1)) = true then (if (decide (a0.Slots ≤ 1792)) = true then (if (decide (a0.Gens ≥ 1)) = true then (decide (a0.Gens ≤ 4294967295)) else false) else false) else false) else false) else false) from by rw [ite_t c7, ite_f c8])), rfl⟩
  refine ol_gskip rfl rfl rfl rfl rfl c7 ?_
  refine ol_gskip rfl rfl rfl rfl rfl c7 ?_
  refine ol_gskip rfl rfl rfl rfl rfl c7 ?_
  refine ol_val (v := .bool false) (xr_pickF rfl rfl c7 rfl) rfl rfl rfl ?_
  refine ol_val (v := .bool false) (xr_move rfl rfl) rfl rfl rfl ?_
  refine ol_gskip rfl rfl rfl rfl rfl rfl ?_
  refine ol_gskip rfl rfl rfl rfl rfl rfl ?_
  refine ol_gskip rfl rfl rfl rfl rfl rfl ?_
  refine ol_val (v := .bool false) (xr_pickF rfl rfl rfl rfl) rfl rfl rfl ?_
  refine ol_val (v := .bool false) (xr_move rfl rfl) rfl rfl rfl ?_
  refine ol_gskip rfl rfl rfl rfl rfl rfl ?_
  refine ol_gskip rfl rfl rfl rfl rfl rfl ?_
  refine ol_gskip rfl rfl rfl rfl rfl rfl ?_
  refine ol_val (v := .bool false) (xr_pickF rfl rfl rfl rfl) rfl rfl rfl ?_
  refine ol_val (v := .bool false) (xr_move rfl rfl) rfl rfl rfl ?_
  refine ol_gskip rfl rfl rfl rfl rfl rfl ?_
  refine ol_gskip rfl rfl rfl rfl rfl rfl ?_
  refine ol_gskip rfl rfl rfl rfl rfl rfl ?_
  refine ol_val (v := .bool false) (xr_pickF rfl rfl rfl rfl) rfl rfl rfl ?_
  refine ol_val (v := .bool false) (xr_move rfl rfl) rfl rfl rfl ?_
  refine ol_gskip rfl rfl rfl rfl rfl rfl ?_
  refine ol_gskip rfl rfl rfl rfl rfl rfl ?_
  refine ol_gskip rfl rfl rfl rfl rfl rfl ?_
  refine ol_val (v := .bool false) (xr_pickF rfl rfl rfl rfl) rfl rfl rfl ?_
  refine ol_val (v := .bool false) (xr_assign rfl rfl) rfl rfl rfl ?_
  refine ol_nil ?_
  refine thn_i ?_
  exact ⟨(rfl).trans (congrArg (fun z => (.bool z : Value)) (show false = (if (decide (a0.Blocks ≥ 16)) = true then (if (decide (a0.Blocks ≤ 3072)) = true then (if (decide (a0.Slots ≥ 1)) = true then (if (decide (a0.Slots ≤ 1792)) = true then (if (decide (a0.Gens ≥ 1)) = true then (decide (a0.Gens ≤ 4294967295)) else false) else false) else false) else false) else false) from by rw [ite_f c7])), rfl⟩
 rintro ρ12 _ ⟨e2, rfl⟩
 refine cw_ret ?_
 repeat (first | with_reducible refine thn_r ?_ | with_reducible refine blk_r ?_)
 obtain rfl := Option.some.inj h
 refine fin_ret1 Try.results143 e2 ?_
 exact ⟨_, rfl, rfl, fB⟩
def super_Right_1__c.f (fu : Nat) (a0 : Int) (a1 : S_api_Super) : Option Bool := some ((if (decide (a0 ≥ 2)) = true then (decide (a0 < a1.Tickets.Geometry.Blocks)) else false))
theorem super_Right_1__c.ok (fu : Nat) (w : World) (a0 : Int) (a1 : S_api_Super) (G_1 : Nat) (V1_0 : Value) (R1_0 : Rd (kI .i64) w V1_0 a1.Charts) (b_1 : Blk w G_1 110 [(sI a1.Epoch), (sI a1.Tickets.Geometry.Blocks), (sI a1.Tickets.Geometry.Slots), (sI a1.Tickets.Geometry.Gens), (sI a1.Tickets.Top), (sI a1.Tickets.High), (sI a1.Tickets.Free), (sI a1.Dir), Seg.cell V1_0 R1_0.one]) (r : Bool) (h : super_Right_1__c.f fu a0 a1 = some r) :
  Calls Try.prog 144 (([.int .i64 a0, (pt G_1 0)] : List Value).toArray) w (fun e w' => ∃ v, e = .returned v ∧ v = .bool r ∧ Gr w w') := by
 unfold super_Right_1__c.f at h
 have fB : Gr w w := Fr.refl _ _
 refine calls_cw Try.func144 rfl Try.ntmps144 rfl ?_
 refine cw_seq ?_
 refine cw_region ?_
 refine ol_val (v := .bool false) (xr_assign rfl rfl) rfl rfl rfl ?_
 refine ol_nil ?_
 refine cw_seq ?_
 refine cw_mid (fun ρ' w' => ρ' 3 = .bool (if (decide (a0 ≥ 2)) = true then (decide (a0 < a1.Tickets.Geometry.Blocks)) else false) ∧ w = w') ?_ ?_
 ·skip
  refine cw_region ?_
  refine ol_val (v := .int .i64 a0) (xr_move rfl rfl) rfl rfl rfl ?_
  refine ol_val (v := .bool (decide (a0 ≥ 2))) (xr_geq rfl rfl rfl) rfl rfl rfl ?_
  refine ol_val (v := .bool (decide (a0 ≥ 2))) (xr_move rfl rfl) rfl rfl rfl ?_
  rcases bt (decide (a0 ≥ 2)) with c1 | c1
  ·skip
   refine ol_gval (v := .int .i64 a0) (xr_move rfl rfl) rfl rfl rfl rfl rfl c1 ?_
   refine ol_gval (v := (pt G_1 1)) (xr_fieldAddr (p := 0) (q := 1) rfl fl110_1 rfl) rfl rfl rfl rfl rfl c1 ?_
   refine ol_gval (v := (pt G_1 1)) (xr_fieldAddr (p := 1) (q := 0) rfl fl108_0 rfl) rfl rfl rfl rfl rfl c1 ?_
   refine ol_gval (v := (pt G_1 1)) (xr_fieldAddr (p := 1) (q := 0) rfl fl106_0 rfl) rfl rfl rfl rfl rfl c1 ?_
   refine ol_gval (v := .int .i64 a1.Tickets.Geometry.Blocks) (xr_load1 (v := .int .i64 a1.Tickets.Geometry.Blocks) rfl ag3 rfl (b_1.seg 1 rfl rfl)) rfl rfl rfl rfl rfl c1 ?_
   refine ol_gval (v := .bool (decide (a0 < a1.Tickets.Geometry.Blocks))) (xr_lss rfl rfl rfl) rfl rfl rfl rfl rfl c1 ?_
   refine ol_val (v := .bool (decide (a0 < a1.Tickets.Geometry.Blocks))) (xr_pickT rfl rfl c1 rfl) rfl rfl rfl ?_
   refine ol_val (v := .bool (decide (a0 < a1.Tickets.Geometry.Blocks))) (xr_assign rfl rfl) rfl rfl rfl ?_
   refine ol_nil ?_
   refine thn_i ?_
   exact ⟨(rfl).trans (congrArg (fun z => (.bool z : Value)) (show (decide (a0 < a1.Tickets.Geometry.Blocks)) = (if (decide (a0 ≥ 2)) = true then (decide (a0 < a1.Tickets.Geometry.Blocks)) else false) from by rw [ite_t c1])), rfl⟩
  refine ol_gskip rfl rfl rfl rfl rfl c1 ?_
  refine ol_gskip rfl rfl rfl rfl rfl c1 ?_
  refine ol_gskip rfl rfl rfl rfl rfl c1 ?_
  refine ol_gskip rfl rfl rfl rfl rfl c1 ?_
  refine ol_gskip rfl rfl rfl rfl rfl c1 ?_
  refine ol_gskip rfl rfl rfl rfl rfl c1 ?_
  refine ol_val (v := .bool false) (xr_pickF rfl rfl c1 rfl) rfl rfl rfl ?_
  refine ol_val (v := .bool false) (xr_assign rfl rfl) rfl rfl rfl ?_
  refine ol_nil ?_
  refine thn_i ?_
  exact ⟨(rfl).trans (congrArg (fun z => (.bool z : Value)) (show false = (if (decide (a0 ≥ 2)) = true then (decide (a0 < a1.Tickets.Geometry.Blocks)) else false) from by rw [ite_f c1])), rfl⟩
 rintro ρ2 _ ⟨e3, rfl⟩
 refine cw_ret ?_
 repeat (first | with_reducible refine thn_r ?_ | with_reducible refine blk_r ?_)
 obtain rfl := Option.some.inj h
 refine fin_ret1 Try.results144 e3 ?_
 exact ⟨_, rfl, rfl, fB⟩
def geom_up.f (fu : Nat) (a0 : Int) (a1 : Int) : Option Int := (if a1 ≠ 0 then some ((IntKind.i64.wrap (Int.tdiv (IntKind.i64.wrap ((IntKind.i64.wrap (a0 + a1)) - 1)) a1))) else none)
theorem geom_up.ok (fu : Nat) (w : World) (a0 : Int) (a1 : Int) (r : Int) (h : geom_up.f fu a0 a1 = some r) :
  Calls Try.prog 151 (([.int .i64 a0, .int .i64 a1] : List Value).toArray) w (fun e w' => ∃ v, e = .returned v ∧ v = .int .i64 r ∧ Gr w w') := by
 unfold geom_up.f at h
 have fB : Gr w w := Fr.refl _ _
 refine calls_cw Try.func151 rfl Try.ntmps151 rfl ?_
 refine cw_seq ?_
 refine cw_region ?_
 refine ol_val (v := .int .i64 0) (xr_assign rfl rfl) rfl rfl rfl ?_
 refine ol_nil ?_
 refine cw_seq ?_
 refine cw_region ?_
 refine ol_val (v := .int .i64 a0) (xr_move rfl rfl) rfl rfl rfl ?_
 refine ol_val (v := .int .i64 a1) (xr_move rfl rfl) rfl rfl rfl ?_
 refine ol_val (v := .int .i64 (IntKind.i64.wrap (a0 + a1))) (xr_add rfl rfl rfl) rfl rfl rfl ?_
 refine ol_val (v := .int .i64 (IntKind.i64.wrap ((IntKind.i64.wrap (a0 + a1)) - 1))) (xr_sub rfl rfl rfl) rfl rfl rfl ?_
 refine ol_val (v := .int .i64 a1) (xr_move rfl rfl) rfl rfl rfl ?_
 obtain ⟨g1, h⟩ := gs h
 refine ol_val (v := .int .i64 (IntKind.i64.wrap (Int.tdiv (IntKind.i64.wrap ((IntKind.i64.wrap (a0 + a1)) - 1)) a1))) (xr_quo rfl rfl rfl g1) rfl rfl rfl ?_
 refine ol_val (v := .int .i64 (IntKind.i64.wrap (Int.tdiv (IntKind.i64.wrap ((IntKind.i64.wrap (a0 + a1)) - 1)) a1))) (xr_assign rfl rfl) rfl rfl rfl ?_
 refine ol_nil ?_
 refine cw_ret ?_
 repeat (first | with_reducible refine thn_r ?_ | with_reducible refine blk_r ?_)
 obtain rfl := Option.some.inj h
 refine fin_ret1 Try.results151 rfl ?_
 exact ⟨_, rfl, rfl, fB⟩
def geom_Charts.f (fu : Nat) (a0 : S_api_Geometry) : Option Int := ((geom_Right.f fu a0).bind fun t7 => (if (!t7) = true then some (0) else ((geom_up.f fu a0.Blocks 384).bind fun t12 => some (t12))))
theorem geom_Charts.ok (fu : Nat) (w : World) (a0 : S_api_Geometry) (r : Int) (h : geom_Charts.f fu a0 = some r) :
  Calls Try.prog 145 (([aggV [(sI a0.Blocks), (sI a0.Slots), (sI a0.Gens)]] : List Value).toArray) w (fun e w' => ∃ v, e = .returned v ∧ v = .int .i64 r ∧ Gr w w') := by
 unfold geom_Charts.f at h
 have fB : Gr w w := Fr.refl _ _
 refine calls_cw Try.func145 rfl Try.ntmps145 rfl ?_
 refine cw_seq ?_
 refine cw_region ?_
 refine ol_op (opv_box (ss := [(sI a0.Blocks), (sI a0.Slots), (sI a0.Gens)]) rfl rfl rfl) rfl rfl rfl ?_
 rintro _ w6 ⟨G1, rfl, b2, q3, z4⟩
 have z4 := Nat.le_trans fB.size z4
 have fB := fB.gr q3
 refine ol_val (v := .int .i64 0) (xr_assign rfl rfl) rfl rfl rfl ?_
 refine ol_nil ?_
 refine cw_seq ?_
 refine cw_seq ?_
 refine cw_region ?_
 refine ol_val (v := aggV [(sI a0.Blocks), (sI a0.Slots), (sI a0.Gens)]) (xr_loadS (ss := [(sI a0.Blocks), (sI a0.Slots), (sI a0.Gens)]) rfl ag106 sz106 rfl rfl (b2.segs 0 3 rfl)) rfl rfl rfl ?_
 obtain ⟨t7, k8, h⟩ := bs h
 refine ol_op (opv_call rfl cal143 (ac rfl an) (geom_Right.ok fu _ a0 _ k8)) rfl rfl rfl ?_
 rintro _ w10 ⟨rfl, q9⟩
 have b2 := b2.gr q9
 have fB := fB.gr q9
 refine ol_val (v := .bool (!t7)) (xr_not rfl rfl) rfl rfl rfl ?_
 refine ol_nil ?_
 rcases is h with ⟨c11, h⟩ | ⟨c11, h⟩
 ·refine cw_condT rfl c11 ?_
  refine cw_seq ?_
  refine cw_region ?_
  refine ol_val (v := .int .i64 0) (xr_assign rfl rfl) rfl rfl rfl ?_
  refine ol_nil ?_
  refine cw_ret ?_
  repeat (first | with_reducible refine thn_r ?_ | with_reducible refine blk_r ?_)
  obtain rfl := Option.some.inj h
  refine fin_ret1 Try.results145 rfl ?_
  exact ⟨_, rfl, rfl, fB⟩
 refine cw_condF rfl c11 ?_
 refine cw_skip ?_
 refine cw_seq ?_
 refine cw_region ?_
 refine ol_val (v := (pt G1 0)) (xr_fieldAddr (p := 0) (q := 0) rfl fl106_0 rfl) rfl rfl rfl ?_
 refine ol_val (v := .int .i64 a0.Blocks) (xr_load1 (v := .int .i64 a0.Blocks) rfl ag3 rfl (b2.seg 0 rfl rfl)) rfl rfl rfl ?_
 obtain ⟨t12, k13, h⟩ := bs h
 refine ol_op (opv_call rfl cal151 (ac rfl (ac rfl an)) (geom_up.ok fu _ a0.Blocks 384 _ k13)) rfl rfl rfl ?_
 rintro _ w15 ⟨rfl, q14⟩
 have fB := fB.gr q14
 refine ol_val (v := .int .i64 t12) (xr_assign rfl rfl) rfl rfl rfl ?_
 refine ol_nil ?_
 refine cw_ret ?_
 repeat (first | with_reducible refine thn_r ?_ | with_reducible refine blk_r ?_)
 obtain rfl := Option.some.inj h
 refine fin_ret1 Try.results145 rfl ?_
 exact ⟨_, rfl, rfl, fB⟩
def slices_Index_2.s0 (fu : Nat) (a0 : List Int) (a1 : Int) : Int → Option (Sum (Sum Int Unit) Int) := fun s1 => (if (decide (s1 < (List.length a0 : Int))) = true then (if 0 ≤ s1 ∧ s1 < (List.length a0 : Int) then (if (decide (a1 = (ix a0 s1))) = true then some (Sum.inl (Sum.inl (s1))) else some (Sum.inr ((IntKind.i64.wrap (s1 + 1))))) else none) else some (Sum.inl (Sum.inr ())))
def slices_Index_2.f (fu : Nat) (a0 : List Int) (a1 : Int) : Option Int := ((loopM (slices_Index_2.s0 fu a0 a1) fu (0)).bind fun e2 => match e2 with | Sum.inl p => some p | Sum.inr x5 => some ((-1)))
theorem slices_Index_2.ok (fu : Nat) (w : World) (a0 : List Int) (V0_0 : Value) (R0_0 : Rd (kI .i64) w V0_0 a0) (a1 : Int) (r : Int) (h : slices_Index_2.f fu a0 a1 = some r) :
  Calls Try.prog 152 (([V0_0, .int .i64 a1] : List Value).toArray) w (fun e w' => ∃ v, e = .returned v ∧ v = .int .i64 r ∧ Gr w w') := by
 unfold slices_Index_2.f at h
 have fB : Gr w w := Fr.refl _ _
 refine calls_cw Try.func152 rfl Try.ntmps152 rfl ?_
 refine cw_seq ?_
 refine cw_region ?_
 refine ol_val (v := .int .i64 0) (xr_assign rfl rfl) rfl rfl rfl ?_
 refine ol_nil ?_
 refine cw_seq ?_
 refine cw_seq ?_
 refine cw_region ?_
 refine ol_val (v := V0_0) (xr_move rfl rfl) rfl rfl rfl ?_
 refine ol_val (v := .int .i64 (List.length a0 : Int)) (xr_lenR rfl Try.underlying25 rfl (R0_0.gr fB)) rfl rfl rfl ?_
 refine ol_val (v := .int .i64 0) (xr_move rfl rfl) rfl rfl rfl ?_
 refine ol_nil ?_
 obtain ⟨e2, l3, h4⟩ := bs h
 refine cw_mid (fun ρ' w' => ∃ x5, e2 = Sum.inr x5 ∧ Gr w w') ?_ ?_
 ·refine cw_block ?_
  refine cw_round (fun (s1 : Int) ρ' w' => ρ' 0 = V0_0 ∧ ρ' 1 = .int .i64 a1 ∧ ρ' 7 = .int .i64 (List.length a0 : Int) ∧ ρ' 8 = .int .i64 s1 ∧ Gr w w') l3 ?_ ?_
  ·skip
   exact ⟨rfl, rfl, rfl, rfl, fB⟩
  rintro s1 x8 ρ6 w7 ⟨e0, e1, e7, e8, fB⟩ h
  unfold slices_Index_2.s0 at h
  refine cw_seq ?_
  refine cw_region ?_
  refine ol_val (v := .bool (decide (s1 < (List.length a0 : Int)))) (xr_lss rfl e8 e7) rfl rfl rfl ?_
  refine ol_nil ?_
  refine cw_seq ?_
  rcases is h with ⟨c9, h⟩ | ⟨c9, h⟩
  ·refine cw_condT rfl c9 ?_
   refine cw_skip ?_
   refine cw_seq ?_
   refine cw_block ?_
   refine cw_seq ?_
   refine cw_region ?_
   refine ol_val (v := .int .i64 s1) (xr_move rfl e8) rfl rfl rfl ?_
   refine ol_val (v := .int .i64 s1) (xr_assign rfl rfl) rfl rfl rfl ?_
   refine ol_nil ?_
   refine cw_seq ?_
   refine cw_region ?_
   refine ol_val (v := .int .i64 a1) (xr_move rfl e1) rfl rfl rfl ?_
   refine ol_val (v := V0_0) (xr_move rfl e0) rfl rfl rfl ?_
   refine ol_val (v := .int .i64 s1) (xr_move rfl rfl) rfl rfl rfl ?_
   obtain ⟨g10, h⟩ := gs h
   refine ol_val (v := (pt ((sb V0_0)) (so V0_0 + Int.toNat s1 * 1))) (xr_indexR (K := (kI .i64)) (v := V0_0) rfl Try.underlying25 sz3 rfl (R0_0.gr fB) rfl g10.1 g10.2) rfl rfl rfl ?_
   refine ol_val (v := .int .i64 (ix a0 s1)) (xr_load1 (v := .int .i64 (ix a0 s1)) rfl ag3 rfl ((R0_0.gr fB).elem g10.1 g10.2)) rfl rfl rfl ?_
   refine ol_val (v := .bool (decide (a1 = (ix a0 s1)))) (xr_eqI rfl Try.underlying3 rfl rfl rfl) rfl rfl rfl ?_
   refine ol_nil ?_
   rcases is h with ⟨c11, h⟩ | ⟨c11, h⟩
   ·refine cw_condT rfl c11 ?_
    refine cw_seq ?_
    refine cw_region ?_
    refine ol_val (v := .int .i64 s1) (xr_move rfl rfl) rfl rfl rfl ?_
    refine ol_val (v := .int .i64 s1) (xr_assign rfl rfl) rfl rfl rfl ?_
    refine ol_nil ?_
    refine cw_ret ?_
    repeat (first | with_reducible refine thn_r ?_ | with_reducible refine blk_r ?_)
    obtain rfl := Option.some.inj h
    refine lp_ret ?_
    rintro rfl
    repeat (first | with_reducible refine thn_r ?_ | with_reducible refine blk_r ?_)
    have h := h4
    obtain rfl := Option.some.inj h
    refine fin_ret1 Try.results152 rfl ?_
    exact ⟨_, rfl, rfl, fB⟩
   refine cw_condF rfl c11 ?_
   refine cw_skip ?_
   refine blk_i ?_
   refine cw_region ?_
   refine ol_val (v := .int .i64 (IntKind.i64.wrap (s1 + 1))) (xr_add rfl e8 rfl) rfl rfl rfl ?_
   refine ol_val (v := .int .i64 (IntKind.i64.wrap (s1 + 1))) (xr_move rfl rfl) rfl rfl rfl ?_
   refine ol_nil ?_
   obtain rfl := Option.some.inj h
   refine lp_in ?_
   exact ⟨e0, e1, e7, rfl, fB⟩
  refine cw_condF rfl c9 ?_
  refine cw_exit ?_
  repeat (first | with_reducible refine thn_e ?_ | with_reducible refine blk_e rfl ?_)
  obtain rfl := Option.some.inj h
  refine lp_exit ?_
  rintro rfl
  refine thn_x ?_
  exact ⟨_, rfl, fB⟩
 rintro ρ12 w13 ⟨x5, rfl, fB⟩
 have h := h4
 refine cw_seq ?_
 refine cw_region ?_
 refine ol_val (v := .int .i64 (-1)) (xr_assign rfl rfl) rfl rfl rfl ?_
 refine ol_nil ?_
 refine cw_ret ?_
 repeat (first | with_reducible refine thn_r ?_ | with_reducible refine blk_r ?_)
 obtain rfl := Option.some.inj h
 refine fin_ret1 Try.results152 rfl ?_
 exact ⟨_, rfl, rfl, fB⟩
def slices_Contains_2.f (fu : Nat) (a0 : List Int) (a1 : Int) : Option Bool := ((slices_Index_2.f fu a0 a1).bind fun t1 => some ((decide (t1 ≥ 0))))
theorem slices_Contains_2.ok (fu : Nat) (w : World) (a0 : List Int) (V0_0 : Value) (R0_0 : Rd (kI .i64) w V0_0 a0) (a1 : Int) (r : Bool) (h : slices_Contains_2.f fu a0 a1 = some r) :
  Calls Try.prog 146 (([V0_0, .int .i64 a1] : List Value).toArray) w (fun e w' => ∃ v, e = .returned v ∧ v = .bool r ∧ Gr w w') := by
 unfold slices_Contains_2.f at h
 have fB : Gr w w := Fr.refl _ _
 refine calls_cw Try.func146 rfl Try.ntmps146 rfl ?_
 refine cw_seq ?_
 refine cw_region ?_
 refine ol_val (v := .bool false) (xr_assign rfl rfl) rfl rfl rfl ?_
 refine ol_nil ?_
 refine cw_seq ?_
 refine cw_region ?_
 refine ol_val (v := V0_0) (xr_move rfl rfl) rfl rfl rfl ?_
 refine ol_val (v := .int .i64 a1) (xr_move rfl rfl) rfl rfl rfl ?_
 obtain ⟨t1, k2, h⟩ := bs h
 refine ol_op (opv_call rfl cal152 (ac rfl (ac rfl an)) (slices_Index_2.ok fu _ a0 V0_0 (R0_0.gr fB) a1 _ k2)) rfl rfl rfl ?_
 rintro _ w4 ⟨rfl, q3⟩
 have fB := fB.gr q3
 refine ol_val (v := .bool (decide (t1 ≥ 0))) (xr_geq rfl rfl rfl) rfl rfl rfl ?_
 refine ol_val (v := .bool (decide (t1 ≥ 0))) (xr_assign rfl rfl) rfl rfl rfl ?_
 refine ol_nil ?_
 refine cw_ret ?_
 repeat (first | with_reducible refine thn_r ?_ | with_reducible refine blk_r ?_)
 obtain rfl := Option.some.inj h
 refine fin_ret1 Try.results146 rfl ?_
 exact ⟨_, rfl, rfl, fB⟩
def super_Right.s0 (fu : Nat) (a0 : S_api_Super) : Int → Option (Sum (Sum Bool Unit) Int) := fun s186 => (if (decide (s186 < (List.length a0.Charts : Int))) = true then (if 0 ≤ s186 ∧ s186 < (List.length a0.Charts : Int) then ((((super_Right_1__c.f fu (ix a0.Charts s186) a0).bind fun t198 => (if (!t198) = true then some (true) else (if 0 ≤ s186 ∧ s186 ≤ (List.length a0.Charts : Int) then ((slices_Contains_2.f fu (cut a0.Charts 0 s186) (ix a0.Charts s186)).bind fun t205 => some (t205)) else none))) : Option Bool).bind fun x196 => (if x196 = true then some (Sum.inl (Sum.inl (false))) else some (Sum.inr ((IntKind.i64.wrap (s186 + 1)))))) else none) else some (Sum.inl (Sum.inr ())))
def super_Right.f (fu : Nat) (a0 : S_api_Super) : Option Bool := (((if (decide (a0.Epoch < 1)) = true then some (true) else (if (decide (a0.Epoch > 4611686018427387904)) = true then some (true) else ((geom_Right.f fu a0.Tickets.Geometry).bind fun t11 => (if (!t11) = true then some (true) else (if (decide (a0.Tickets.High < 0)) = true then some (true) else (if (decide (a0.Tickets.High > a0.Tickets.Geometry.Slots)) = true then some (true) else (if (decide (a0.Tickets.Free < 0)) = true then some (true) else some ((decide (a0.Tickets.Free > a0.Tickets.High)))))))))) : Option Bool).bind fun x7 => (if x7 = true then some (false) else (((if (decide (a0.Tickets.High = 0)) = true then (if (!decide (a0.Tickets.Top = 0)) = true then some (true) else (if (decide (a0.Tickets.High > 0)) = true then ((super_Right_1__c.f fu a0.Tickets.Top a0).bind fun t42 => (if (!t42) = true then some (true) else (if (!decide (a0.Dir = 0)) = true then ((super_Right_1__c.f fu a0.Dir a0).bind fun t57 => (if (!t57) = true then some (true) else ((geom_Charts.f fu a0.Tickets.Geometry).bind fun t65 => some ((!decide ((List.length a0.Charts : Int) = t65)))))) else ((geom_Charts.f fu a0.Tickets.Geometry).bind fun t74 => some ((!decide ((List.length a0.Charts : Int) = t74))))))) else (if (!decide (a0.Dir = 0)) = true then ((super_Right_1__c.f fu a0.Dir a0).bind fun t87 => (if (!t87) = true then some (true) else ((geom_Charts.f fu a0.Tickets.Geometry).bind fun t95 => some ((!decide ((List.length a0.Charts : Int) = t95)))))) else ((geom_Charts.f fu a0.Tickets.Geometry).bind fun t104 => some ((!decide ((List.length a0.Charts : Int) = t104))))))) else (if (decide (a0.Tickets.High > 0)) = true then ((super_Right_1__c.f fu a0.Tickets.Top a0).bind fun t114 => (if (!t114) = true then some (true) else (if (!decide (a0.Dir = 0)) = true then ((super_Right_1__c.f fu a0.Dir a0).bind fun t129 => (if (!t129) = true then some (true) else ((geom_Charts.f fu a0.Tickets.Geometry).bind fun t137 => some ((!decide ((List.length a0.Charts : Int) = t137)))))) else ((geom_Charts.f fu a0.Tickets.Geometry).bind fun t146 => some ((!decide ((List.length a0.Charts : Int) = t146))))))) else (if (!decide (a0.Dir = 0)) = true then ((super_Right_1__c.f fu a0.Dir a0).bind fun t159 => (if (!t159) = true then some (true) else ((geom_Charts.f fu a0.Tickets.Geometry).bind fun t167 => some ((!decide ((List.length a0.Charts : Int) = t167)))))) else ((geom_Charts.f fu a0.Tickets.Geometry).bind fun t176 => some ((!decide ((List.length a0.Charts : Int) = t176))))))) : Option Bool).bind fun x23 => (if x23 = true then some (false) else ((loopM (super_Right.s0 fu a0) fu (0)).bind fun e187 => match e187 with | Sum.inl p => some p | Sum.inr x190 => some (true))))))
theorem super_Right.ok (fu : Nat) (w : World) (a0 : S_api_Super) (V0_0 : Value) (R0_0 : Rd (kI .i64) w V0_0 a0.Charts) (r : Bool) (h : super_Right.f fu a0 = some r) :
  Calls Try.prog 132 (([aggV [(sI a0.Epoch), (sI a0.Tickets.Geometry.Blocks), (sI a0.Tickets.Geometry.Slots), (sI a0.Tickets.Geometry.Gens), (sI a0.Tickets.Top), (sI a0.Tickets.High), (sI a0.Tickets.Free), (sI a0.Dir), Seg.cell V0_0 R0_0.one]] : List Value).toArray) w (fun e w' => ∃ v, e = .returned v ∧ v = .bool r ∧ Gr w w') := by
 unfold super_Right.f at h
 have fB : Gr w w := Fr.refl _ _
 refine calls_cw Try.func132 rfl Try.ntmps132 rfl ?_
 refine cw_seq ?_
 refine cw_region ?_
 refine ol_op (opv_box (ss := [(sI a0.Epoch), (sI a0.Tickets.Geometry.Blocks), (sI a0.Tickets.Geometry.Slots), (sI a0.Tickets.Geometry.Gens), (sI a0.Tickets.Top), (sI a0.Tickets.High), (sI a0.Tickets.Free), (sI a0.Dir), Seg.cell V0_0 R0_0.one]) rfl rfl rfl) rfl rfl rfl ?_
 rintro _ w6 ⟨G1, rfl, b2, q3, z4⟩
 have z4 := Nat.le_trans fB.size z4
 have fB := fB.gr q3
 refine ol_val (v := .bool false) (xr_assign rfl rfl) rfl rfl rfl ?_
 refine ol_nil ?_
 refine cw_seq ?_
 refine cw_seq ?_
 obtain ⟨x7, j8, h⟩ := bs h
 refine cw_mid (fun ρ' w' => ρ' 1 = (pt G1 0) ∧ ρ' 51 = .bool x7 ∧ Gr w6 w') ?_ ?_
 ·skip
  refine cw_region ?_
  refine ol_val (v := (pt G1 0)) (xr_fieldAddr (p := 0) (q := 0) rfl fl110_0 rfl) rfl rfl rfl ?_
  refine ol_val (v := .int .i64 a0.Epoch) (xr_load1 (v := .int .i64 a0.Epoch) rfl ag3 rfl (b2.seg 0 rfl rfl)) rfl rfl rfl ?_
  refine ol_val (v := .bool (decide (a0.Epoch < 1))) (xr_lss rfl rfl rfl) rfl rfl rfl ?_
  refine ol_val (v := .bool (decide (a0.Epoch < 1))) (xr_move rfl rfl) rfl rfl rfl ?_
  rcases is j8 with ⟨c9, j8⟩ | ⟨c9, j8⟩
  ·skip
   refine ol_gskip rfl rfl rfl rfl rfl c9 ?_
   refine ol_gskip rfl rfl rfl rfl rfl c9 ?_
   refine ol_gskip rfl rfl rfl rfl rfl c9 ?_
   refine ol_val (v := .bool true) (xr_pickT rfl rfl c9 rfl) rfl rfl rfl ?_
   refine ol_val (v := .bool true) (xr_move rfl rfl) rfl rfl rfl ?_
   refine ol_gskip rfl rfl rfl rfl rfl rfl ?_
   refine ol_gskip rfl rfl rfl rfl rfl rfl ?_
   refine ol_gskip rfl rfl rfl rfl rfl rfl ?_
   refine ol_gskip rfl rfl rfl rfl rfl rfl ?_
   refine ol_gskip rfl rfl rfl rfl rfl rfl ?_
   refine ol_val (v := .bool true) (xr_pickT rfl rfl rfl rfl) rfl rfl rfl ?_
   refine ol_val (v := .bool true) (xr_move rfl rfl) rfl rfl rfl ?_
   refine ol_gskip rfl rfl rfl rfl rfl rfl ?_
   refine ol_gskip rfl rfl rfl rfl rfl rfl ?_
   refine ol_gskip rfl rfl rfl rfl rfl rfl ?_
   refine ol_gskip rfl rfl rfl rfl rfl rfl ?_
   refine ol_val (v := .bool true) (xr_pickT rfl rfl rfl rfl) rfl rfl rfl ?_
   refine ol_val (v := .bool true) (xr_move rfl rfl) rfl rfl rfl ?_
   refine ol_gskip rfl rfl rfl rfl rfl rfl ?_
   refine ol_gskip rfl rfl rfl rfl rfl rfl ?_
   refine ol_gskip rfl rfl rfl rfl rfl rfl ?_
   refine ol_gskip rfl rfl rfl rfl rfl rfl ?_
   refine ol_gskip rfl rfl rfl rfl rfl rfl ?_
   refine ol_gskip rfl rfl rfl rfl rfl rfl ?_
   refine ol_gskip rfl rfl rfl rfl rfl rfl ?_
   refine ol_gskip rfl rfl rfl rfl rfl rfl ?_
   refine ol_val (v := .bool true) (xr_pickT rfl rfl rfl rfl) rfl rfl rfl ?_
   refine ol_val (v := .bool true) (xr_move rfl rfl) rfl rfl rfl ?_
   refine ol_gskip rfl rfl rfl rfl rfl rfl ?_
   refine ol_gskip rfl rfl rfl rfl rfl rfl ?_
   refine ol_gskip rfl rfl rfl rfl rfl rfl ?_
   refine ol_gskip rfl rfl rfl rfl rfl rfl ?_
   refine ol_val (v := .bool true) (xr_pickT rfl rfl rfl rfl) rfl rfl rfl ?_
   refine ol_val (v := .bool true) (xr_move rfl rfl) rfl rfl rfl ?_
   refine ol_gskip rfl rfl rfl rfl rfl rfl ?_
   refine ol_gskip rfl rfl rfl rfl rfl rfl ?_
   refine ol_gskip rfl rfl rfl rfl rfl rfl ?_
   refine ol_gskip rfl rfl rfl rfl rfl rfl ?_
   refine ol_gskip rfl rfl rfl rfl rfl rfl ?_
   refine ol_gskip rfl rfl rfl rfl rfl rfl ?_
   refine ol_gskip rfl rfl rfl rfl rfl rfl ?_
   refine ol_val (v := .bool true) (xr_pickT rfl rfl rfl rfl) rfl rfl rfl ?_
   refine ol_nil ?_
   obtain rfl := Option.some.inj j8
   refine thn_i ?_
   exact ⟨rfl, rfl, Fr.refl _ _⟩
  refine ol_gval (v := (pt G1 0)) (xr_fieldAddr (p := 0) (q := 0) rfl fl110_0 rfl) rfl rfl rfl rfl rfl c9 ?_
  refine ol_gval (v := .int .i64 a0.Epoch) (xr_load1 (v := .int .i64 a0.Epoch) rfl ag3 rfl (b2.seg 0 rfl rfl)) rfl rfl rfl rfl rfl c9 ?_
  refine ol_gval (v := .bool (decide (a0.Epoch > 4611686018427387904))) (xr_gtr rfl rfl rfl) rfl rfl rfl rfl rfl c9 ?_
  refine ol_val (v := .bool (decide (a0.Epoch > 4611686018427387904))) (xr_pickF rfl rfl c9 rfl) rfl rfl rfl ?_
  refine ol_val (v := .bool (decide (a0.Epoch > 4611686018427387904))) (xr_move rfl rfl) rfl rfl rfl ?_
  rcases is j8 with ⟨c10, j8⟩ | ⟨c10, j8⟩
  ·skip
   refine ol_gskip rfl rfl rfl rfl rfl c10 ?_
   refine ol_gskip rfl rfl rfl rfl rfl c10 ?_
   refine ol_gskip rfl rfl rfl rfl rfl c10 ?_
   refine ol_gskip rfl rfl rfl rfl rfl c10 ?_
   refine ol_gskip rfl rfl rfl rfl rfl c10 ?_
   refine ol_val (v := .bool true) (xr_pickT rfl rfl c10 rfl) rfl rfl rfl ?_
   refine ol_val (v := .bool true) (xr_move rfl rfl) rfl rfl rfl ?_
   refine ol_gskip rfl rfl rfl rfl rfl rfl ?_
   refine ol_gskip rfl rfl rfl rfl rfl rfl ?_
   refine ol_gskip rfl rfl rfl rfl rfl rfl ?_
   refine ol_gskip rfl rfl rfl rfl rfl rfl ?_
   refine ol_val (v := .bool true) (xr_pickT rfl rfl rfl rfl) rfl rfl rfl ?_
   refine ol_val (v := .bool true) (xr_move rfl rfl) rfl rfl rfl ?_
   refine ol_gskip rfl rfl rfl rfl rfl rfl ?_
   refine ol_gskip rfl rfl rfl rfl rfl rfl ?_
   refine ol_gskip rfl rfl rfl rfl rfl rfl ?_
   refine ol_gskip rfl rfl rfl rfl rfl rfl ?_
   refine ol_gskip rfl rfl rfl rfl rfl rfl ?_
   refine ol_gskip rfl rfl rfl rfl rfl rfl ?_
   refine ol_gskip rfl rfl rfl rfl rfl rfl ?_
   refine ol_gskip rfl rfl rfl rfl rfl rfl ?_
   refine ol_val (v := .bool true) (xr_pickT rfl rfl rfl rfl) rfl rfl rfl ?_
   refine ol_val (v := .bool true) (xr_move rfl rfl) rfl rfl rfl ?_
   refine ol_gskip rfl rfl rfl rfl rfl rfl ?_
   refine ol_gskip rfl rfl rfl rfl rfl rfl ?_
   refine ol_gskip rfl rfl rfl rfl rfl rfl ?_
   refine ol_gskip rfl rfl rfl rfl rfl rfl ?_
   refine ol_val (v := .bool true) (xr_pickT rfl rfl rfl rfl) rfl rfl rfl ?_
   refine ol_val (v := .bool true) (xr_move rfl rfl) rfl rfl rfl ?_
   refine ol_gskip rfl rfl rfl rfl rfl rfl ?_
   refine ol_gskip rfl rfl rfl rfl rfl rfl ?_
   refine ol_gskip rfl rfl rfl rfl rfl rfl ?_
   refine ol_gskip rfl rfl rfl rfl rfl rfl ?_
   refine ol_gskip rfl rfl rfl rfl rfl rfl ?_
   refine ol_gskip rfl rfl rfl rfl rfl rfl ?_
   refine ol_gskip rfl rfl rfl rfl rfl rfl ?_
   refine ol_val (v := .bool true) (xr_pickT rfl rfl rfl rfl) rfl rfl rfl ?_
   refine ol_nil ?_
   obtain rfl := Option.some.inj j8
   refine thn_i ?_
   exact ⟨rfl, rfl, Fr.refl _ _⟩
  refine ol_gval (v := (pt G1 1)) (xr_fieldAddr (p := 0) (q := 1) rfl fl110_1 rfl) rfl rfl rfl rfl rfl c10 ?_
  refine ol_gval (v := (pt G1 1)) (xr_fieldAddr (p := 1) (q := 0) rfl fl108_0 rfl) rfl rfl rfl rfl rfl c10 ?_
  refine ol_gval (v := aggV [(sI a0.Tickets.Geometry.Blocks), (sI a0.Tickets.Geometry.Slots), (sI a0.Tickets.Geometry.Gens)]) (xr_loadS (ss := [(sI a0.Tickets.Geometry.Blocks), (sI a0.Tickets.Geometry.Slots), (sI a0.Tickets.Geometry.Gens)]) rfl ag106 sz106 rfl rfl (b2.segs 1 3 rfl)) rfl rfl rfl rfl rfl c10 ?_
  obtain ⟨t11, k12, j8⟩ := bs j8
  refine ol_gop (opv_call rfl cal143 (ac rfl an) (geom_Right.ok fu _ a0.Tickets.Geometry _ k12)) rfl rfl rfl rfl rfl c10 ?_
  rintro _ w14 ⟨rfl, q13⟩
  have b2 := b2.gr q13
  have fB := fB.gr q13
  refine ol_gval (v := .bool (!t11)) (xr_not rfl rfl) rfl rfl rfl rfl rfl c10 ?_
  refine ol_val (v := .bool (!t11)) (xr_pickF rfl rfl c10 rfl) rfl rfl rfl ?_
  refine ol_val (v := .bool (!t11)) (xr_move rfl rfl) rfl rfl rfl ?_
  rcases is j8 with ⟨c15, j8⟩ | ⟨c15, j8⟩
  ·skip
   refine ol_gskip rfl rfl rfl rfl rfl c15 ?_
   refine ol_gskip rfl rfl rfl rfl rfl c15 ?_
   refine ol_gskip rfl rfl rfl rfl rfl c15 ?_
   refine ol_gskip rfl rfl rfl rfl rfl c15 ?_
   refine ol_val (v := .bool true) (xr_pickT rfl rfl c15 rfl) rfl rfl rfl ?_
   refine ol_val (v := .bool true) (xr_move rfl rfl) rfl rfl rfl ?_
   refine ol_gskip rfl rfl rfl rfl rfl rfl ?_
   refine ol_gskip rfl rfl rfl rfl rfl rfl ?_
   refine ol_gskip rfl rfl rfl rfl rfl rfl ?_
   refine ol_gskip rfl rfl rfl rfl rfl rfl ?_
   refine ol_gskip rfl rfl rfl rfl rfl rfl ?_
   refine ol_gskip rfl rfl rfl rfl rfl rfl ?_
   refine ol_gskip rfl rfl rfl rfl rfl rfl ?_
   refine ol_gskip rfl rfl rfl rfl rfl rfl ?_
   refine ol_val (v := .bool true) (xr_pickT rfl rfl rfl rfl) rfl rfl rfl ?_
   refine ol_val (v := .bool true) (xr_move rfl rfl) rfl rfl rfl ?_
   refine ol_gskip rfl rfl rfl rfl rfl rfl ?_
   refine ol_gskip rfl rfl rfl rfl rfl rfl ?_
   refine ol_gskip rfl rfl rfl rfl rfl rfl ?_
   refine ol_gskip rfl rfl rfl rfl rfl rfl ?_
   refine ol_val (v := .bool true) (xr_pickT rfl rfl rfl rfl) rfl rfl rfl ?_
   refine ol_val (v := .bool true) (xr_move rfl rfl) rfl rfl rfl ?_
   refine ol_gskip rfl rfl rfl rfl rfl rfl ?_
   refine ol_gskip rfl rfl rfl rfl rfl rfl ?_
   refine ol_gskip rfl rfl rfl rfl rfl rfl ?_
   refine ol_gskip rfl rfl rfl rfl rfl rfl ?_
   refine ol_gskip rfl rfl rfl rfl rfl rfl ?_
   refine ol_gskip rfl rfl rfl rfl rfl rfl ?_
   refine ol_gskip rfl rfl rfl rfl rfl rfl ?_
   refine ol_val (v := .bool true) (xr_pickT rfl rfl rfl rfl) rfl rfl rfl ?_
   refine ol_nil ?_
   obtain rfl := Option.some.inj j8
   refine thn_i ?_
   exact ⟨rfl, rfl, q13⟩
  refine ol_gval (v := (pt G1 1)) (xr_fieldAddr (p := 0) (q := 1) rfl fl110_1 rfl) rfl rfl rfl rfl rfl c15 ?_
  refine ol_gval (v := (pt G1 5)) (xr_fieldAddr (p := 1) (q := 4) rfl fl108_2 rfl) rfl rfl rfl rfl rfl c15 ?_
  refine ol_gval (v := .int .i64 a0.Tickets.High) (xr_load1 (v := .int .i64 a0.Tickets.High) rfl ag3 rfl (b2.seg 5 rfl rfl)) rfl rfl rfl rfl rfl c15 ?_
  refine ol_gval (v := .bool (decide (a0.Tickets.High < 0))) (xr_lss rfl rfl rfl) rfl rfl rfl rfl rfl c15 ?_
  refine ol_val (v := .bool (decide (a0.Tickets.High < 0))) (xr_pickF rfl rfl c15 rfl) rfl rfl rfl ?_
  refine ol_val (v := .bool (decide (a0.Tickets.High < 0))) (xr_move rfl rfl) rfl rfl rfl ?_
  rcases is j8 with ⟨c16, j8⟩ | ⟨c16, j8⟩
  ·skip
   refine ol_gskip rfl rfl rfl rfl rfl c16 ?_
   refine ol_gskip rfl rfl rfl rfl rfl c16 ?_
   refine ol_gskip rfl rfl rfl rfl rfl c16 ?_
   refine ol_gskip rfl rfl rfl rfl rfl c16 ?_
   refine ol_gskip rfl rfl rfl rfl rfl c16 ?_
   refine ol_gskip rfl rfl rfl rfl rfl c16 ?_
   refine ol_gskip rfl rfl rfl rfl rfl c16 ?_
   refine ol_gskip rfl rfl rfl rfl rfl c16 ?_
   refine ol_val (v := .bool true) (xr_pickT rfl rfl c16 rfl) rfl rfl rfl ?_
   refine ol_val (v := .bool true) (xr_move rfl rfl) rfl rfl rfl ?_
   refine ol_gskip rfl rfl rfl rfl rfl rfl ?_
   refine ol_gskip rfl rfl rfl rfl rfl rfl ?_
   refine ol_gskip rfl rfl rfl rfl rfl rfl ?_
   refine ol_gskip rfl rfl rfl rfl rfl rfl ?_
   refine ol_val (v := .bool true) (xr_pickT rfl rfl rfl rfl) rfl rfl rfl ?_
   refine ol_val (v := .bool true) (xr_move rfl rfl) rfl rfl rfl ?_
   refine ol_gskip rfl rfl rfl rfl rfl rfl ?_
   refine ol_gskip rfl rfl rfl rfl rfl rfl ?_
   refine ol_gskip rfl rfl rfl rfl rfl rfl ?_
   refine ol_gskip rfl rfl rfl rfl rfl rfl ?_
   refine ol_gskip rfl rfl rfl rfl rfl rfl ?_
   refine ol_gskip rfl rfl rfl rfl rfl rfl ?_
   refine ol_gskip rfl rfl rfl rfl rfl rfl ?_
   refine ol_val (v := .bool true) (xr_pickT rfl rfl rfl rfl) rfl rfl rfl ?_
   refine ol_nil ?_
   obtain rfl := Option.some.inj j8
   refine thn_i ?_
   exact ⟨rfl, rfl, q13⟩
  refine ol_gval (v := (pt G1 1)) (xr_fieldAddr (p := 0) (q := 1) rfl fl110_1 rfl) rfl rfl rfl rfl rfl c16 ?_
  refine ol_gval (v := (pt G1 5)) (xr_fieldAddr (p := 1) (q := 4) rfl fl108_2 rfl) rfl rfl rfl rfl rfl c16 ?_
  refine ol_gval (v := .int .i64 a0.Tickets.High) (xr_load1 (v := .int .i64 a0.Tickets.High) rfl ag3 rfl (b2.seg 5 rfl rfl)) rfl rfl rfl rfl rfl c16 ?_
  refine ol_gval (v := (pt G1 1)) (xr_fieldAddr (p := 0) (q := 1) rfl fl110_1 rfl) rfl rfl rfl rfl rfl c16 ?_
  refine ol_gval (v := (pt G1 1)) (xr_fieldAddr (p := 1) (q := 0) rfl fl108_0 rfl) rfl rfl rfl rfl rfl c16 ?_
  refine ol_gval (v := (pt G1 2)) (xr_fieldAddr (p := 1) (q := 1) rfl fl106_1 rfl) rfl rfl rfl rfl rfl c16 ?_
  refine ol_gval (v := .int .i64 a0.Tickets.Geometry.Slots) (xr_load1 (v := .int .i64 a0.Tickets.Geometry.Slots) rfl ag3 rfl (b2.seg 2 rfl rfl)) rfl rfl rfl rfl rfl c16 ?_
  refine ol_gval (v := .bool (decide (a0.Tickets.High > a0.Tickets.Geometry.Slots))) (xr_gtr rfl rfl rfl) rfl rfl rfl rfl rfl c16 ?_
  refine ol_val (v := .bool (decide (a0.Tickets.High > a0.Tickets.Geometry.Slots))) (xr_pickF rfl rfl c16 rfl) rfl rfl rfl ?_
  refine ol_val (v := .bool (decide (a0.Tickets.High > a0.Tickets.Geometry.Slots))) (xr_move rfl rfl) rfl rfl rfl ?_
  rcases is j8 with ⟨c17, j8⟩ | ⟨c17, j8⟩
  ·skip
   refine ol_gskip rfl rfl rfl rfl rfl c17 ?_
   refine ol_gskip rfl rfl rfl rfl rfl c17 ?_
   refine ol_gskip rfl rfl rfl rfl rfl c17 ?_
   refine ol_gskip rfl rfl rfl rfl rfl c17 ?_
   refine ol_val (v := .bool true) (xr_pickT rfl rfl c17 rfl) rfl rfl rfl ?_
   refine ol_val (v := .bool true) (xr_move rfl rfl) rfl rfl rfl ?_
   refine ol_gskip rfl rfl rfl rfl rfl rfl ?_
   refine ol_gskip rfl rfl rfl rfl rfl rfl ?_
   refine ol_gskip rfl rfl rfl rfl rfl rfl ?_
   refine ol_gskip rfl rfl rfl rfl rfl rfl ?_
   refine ol_gskip rfl rfl rfl rfl rfl rfl ?_
   refine ol_gskip rfl rfl rfl rfl rfl rfl ?_
   refine ol_gskip rfl rfl rfl rfl rfl rfl ?_
   refine ol_val (v := .bool true) (xr_pickT rfl rfl rfl rfl) rfl rfl rfl ?_
   refine ol_nil ?_
   obtain rfl := Option.some.inj j8
   refine thn_i ?_
   exact ⟨rfl, rfl, q13⟩
  refine ol_gval (v := (pt G1 1)) (xr_fieldAddr (p := 0) (q := 1) rfl fl110_1 rfl) rfl rfl rfl rfl rfl c17 ?_
  refine ol_gval (v := (pt G1 6)) (xr_fieldAddr (p := 1) (q := 5) rfl fl108_3 rfl) rfl rfl rfl rfl rfl c17 ?_
  refine ol_gval (v := .int .i64 a0.Tickets.Free) (xr_load1 (v := .int .i64 a0.Tickets.Free) rfl ag3 rfl (b2.seg 6 rfl rfl)) rfl rfl rfl rfl rfl c17 ?_
  refine ol_gval (v := .bool (decide (a0.Tickets.Free < 0))) (xr_lss rfl rfl rfl) rfl rfl rfl rfl rfl c17 ?_
  refine ol_val (v := .bool (decide (a0.Tickets.Free < 0))) (xr_pickF rfl rfl c17 rfl) rfl rfl rfl ?_
  refine ol_val (v := .bool (decide (a0.Tickets.Free < 0))) (xr_move rfl rfl) rfl rfl rfl ?_
  rcases is j8 with ⟨c18, j8⟩ | ⟨c18, j8⟩
  ·skip
   refine ol_gskip rfl rfl rfl rfl rfl c18 ?_
   refine ol_gskip rfl rfl rfl rfl rfl c18 ?_
   refine ol_gskip rfl rfl rfl rfl rfl c18 ?_
   refine ol_gskip rfl rfl rfl rfl rfl c18 ?_
   refine ol_gskip rfl rfl rfl rfl rfl c18 ?_
   refine ol_gskip rfl rfl rfl rfl rfl c18 ?_
   refine ol_gskip rfl rfl rfl rfl rfl c18 ?_
   refine ol_val (v := .bool true) (xr_pickT rfl rfl c18 rfl) rfl rfl rfl ?_
   refine ol_nil ?_
   obtain rfl := Option.some.inj j8
   refine thn_i ?_
   exact ⟨rfl, rfl, q13⟩
  refine ol_gval (v := (pt G1 1)) (xr_fieldAddr (p := 0) (q := 1) rfl fl110_1 rfl) rfl rfl rfl rfl rfl c18 ?_
  refine ol_gval (v := (pt G1 6)) (xr_fieldAddr (p := 1) (q := 5) rfl fl108_3 rfl) rfl rfl rfl rfl rfl c18 ?_
  refine ol_gval (v := .int .i64 a0.Tickets.Free) (xr_load1 (v := .int .i64 a0.Tickets.Free) rfl ag3 rfl (b2.seg 6 rfl rfl)) rfl rfl rfl rfl rfl c18 ?_
  refine ol_gval (v := (pt G1 1)) (xr_fieldAddr (p := 0) (q := 1) rfl fl110_1 rfl) rfl rfl rfl rfl rfl c18 ?_
  refine ol_gval (v := (pt G1 5)) (xr_fieldAddr (p := 1) (q := 4) rfl fl108_2 rfl) rfl rfl rfl rfl rfl c18 ?_
  refine ol_gval (v := .int .i64 a0.Tickets.High) (xr_load1 (v := .int .i64 a0.Tickets.High) rfl ag3 rfl (b2.seg 5 rfl rfl)) rfl rfl rfl rfl rfl c18 ?_
  refine ol_gval (v := .bool (decide (a0.Tickets.Free > a0.Tickets.High))) (xr_gtr rfl rfl rfl) rfl rfl rfl rfl rfl c18 ?_
  refine ol_val (v := .bool (decide (a0.Tickets.Free > a0.Tickets.High))) (xr_pickF rfl rfl c18 rfl) rfl rfl rfl ?_
  refine ol_nil ?_
  obtain rfl := Option.some.inj j8
  refine thn_i ?_
  exact ⟨rfl, rfl, q13⟩
 rintro ρ19 w20 ⟨e1, e51, q21⟩
 have b2 := b2.gr q21
 have fB := fB.gr q21
 rcases is h with ⟨c22, h⟩ | ⟨c22, h⟩
 ·refine cw_condT e51 c22 ?_
  refine cw_seq ?_
  refine cw_region ?_
  refine ol_val (v := .bool false) (xr_assign rfl rfl) rfl rfl rfl ?_
  refine ol_nil ?_
  refine cw_ret ?_
  repeat (first | with_reducible refine thn_r ?_ | with_reducible refine blk_r ?_)
  obtain rfl := Option.some.inj h
  refine fin_ret1 Try.results132 rfl ?_
  exact ⟨_, rfl, rfl, fB⟩
 refine cw_condF e51 c22 ?_
 refine cw_skip ?_
 refine cw_seq ?_
 refine cw_region ?_
 refine ol_val (v := Value.func (.func 144) #[] #[(pt G1 0)]) (xr_makeFunc rfl (ac e1 an)) rfl rfl rfl ?_
 refine ol_val (v := Value.func (.func 144) #[] #[(pt G1 0)]) (xr_assign rfl rfl) rfl rfl rfl ?_
 refine ol_nil ?_
 refine cw_seq ?_
 refine cw_seq ?_
 obtain ⟨x23, j24, h⟩ := bs h
 refine cw_mid (fun ρ' w' => ρ' 1 = (pt G1 0) ∧ ρ' 3 = Value.func (.func 144) #[] #[(pt G1 0)] ∧ ρ' 98 = .bool x23 ∧ Gr w20 w') ?_ ?_
 ·skip
  refine rd_region mo ?_
  intro w25 q26
  have b2 := b2.gr q26
  have fB := fB.gr q26
  refine rd_seq (m := 0) (n := 16) rfl ?_
  refine ol_val (v := (pt G1 1)) (xr_fieldAddr (p := 0) (q := 1) rfl fl110_1 e1) rfl rfl rfl ?_
  refine ol_val (v := (pt G1 5)) (xr_fieldAddr (p := 1) (q := 4) rfl fl108_2 rfl) rfl rfl rfl ?_
  refine ol_val (v := .int .i64 a0.Tickets.High) (xr_load1 (v := .int .i64 a0.Tickets.High) rfl ag3 rfl (b2.seg 5 rfl rfl)) rfl rfl rfl ?_
  refine ol_val (v := .bool (decide (a0.Tickets.High = 0))) (xr_eqI rfl Try.underlying3 rfl rfl rfl) rfl rfl rfl ?_
  refine ol_val (v := .bool (decide (a0.Tickets.High = 0))) (xr_move rfl rfl) rfl rfl rfl ?_
  rcases is j24 with ⟨c27, j24⟩ | ⟨c27, j24⟩
  ·skip
   refine ol_gval (v := (pt G1 1)) (xr_fieldAddr (p := 0) (q := 1) rfl fl110_1 e1) rfl rfl rfl rfl rfl c27 ?_
   refine ol_gval (v := (pt G1 4)) (xr_fieldAddr (p := 1) (q := 3) rfl fl108_1 rfl) rfl rfl rfl rfl rfl c27 ?_
   refine ol_gval (v := .int .i64 a0.Tickets.Top) (xr_load1 (v := .int .i64 a0.Tickets.Top) rfl ag3 rfl (b2.seg 4 rfl rfl)) rfl rfl rfl rfl rfl c27 ?_
   refine ol_gval (v := .bool (!decide (a0.Tickets.Top = 0))) (xr_neI rfl Try.underlying3 rfl rfl rfl) rfl rfl rfl rfl rfl c27 ?_
   refine ol_val (v := .bool (!decide (a0.Tickets.Top = 0))) (xr_pickT rfl rfl c27 rfl) rfl rfl rfl ?_
   refine ol_val (v := .bool (!decide (a0.Tickets.Top = 0))) (xr_move rfl rfl) rfl rfl rfl ?_
   rcases is j24 with ⟨c28, j24⟩ | ⟨c28, j24⟩
   ·skip
    refine ol_gskip rfl rfl rfl rfl rfl c28 ?_
    refine ol_gskip rfl rfl rfl rfl rfl c28 ?_
    refine ol_gskip rfl rfl rfl rfl rfl c28 ?_
    refine ol_gskip rfl rfl rfl rfl rfl c28 ?_
    refine ol_gskip rfl rfl rfl rfl rfl c28 ?_
    refine ol_nilK ?_
    refine rd_drawL 16 20 [fun vz _ => vz = undef, fun vz _ => vz = undef, fun vz _ => vz = undef, fun vz _ => vz = undef] rfl ⟨fun _ _ _ h _ => h, fun _ _ _ h _ => h, fun _ _ _ h _ => h, fun _ _ _ h _ => h, trivial⟩ ?_ ?_
    ·refine ⟨?_, ?_, ?_, ?_, trivial⟩
     ·intro ρz wz hz hk hd
      exact sk_uskip rfl rfl ((hk 68 rfl).trans rfl) rfl
     ·intro ρz wz hz hk hd
      exact sk_uskip rfl rfl ((hk 68 rfl).trans rfl) rfl
     ·intro ρz wz hz hk hd
      exact sk_uskip rfl rfl ((hk 68 rfl).trans rfl) rfl
     intro ρz wz hz hk hd
     exact sk_uskip rfl rfl ((hk 68 rfl).trans rfl) rfl
    intro ρ29 w30 q31 hk hd
    have e1 := (hk 1 rfl).trans e1
    have e3 := (hk 3 rfl).trans rfl
    have e63 := (hk 63 rfl).trans rfl
    have e68 := (hk 68 rfl).trans rfl
    have e69 := hd 16 rfl rfl 69 rfl
    have e72 := hd 19 rfl rfl 72 rfl
    have b2 := b2.gr q31
    have fB := fB.gr q31
    refine rd_seq (m := 20) (n := 29) rfl ?_
    refine ol_uskip rfl rfl rfl rfl e68 ?_
    refine ol_uskip rfl rfl rfl rfl e68 ?_
    refine ol_gskip rfl rfl rfl rfl e63 c28 ?_
    refine ol_val (v := .bool true) (xr_pickT rfl e63 c28 rfl) rfl rfl rfl ?_
    refine ol_val (v := .bool true) (xr_move rfl rfl) rfl rfl rfl ?_
    refine ol_gskip rfl rfl rfl rfl rfl rfl ?_
    refine ol_gskip rfl rfl rfl rfl rfl rfl ?_
    refine ol_gskip rfl rfl rfl rfl rfl rfl ?_
    refine ol_gskip rfl rfl rfl rfl rfl rfl ?_
    refine ol_nilK ?_
    refine rd_drawL 29 32 [fun vz _ => vz = undef, fun vz _ => vz = undef, fun vz _ => vz = undef] rfl ⟨fun _ _ _ h _ => h, fun _ _ _ h _ => h, fun _ _ _ h _ => h, trivial⟩ ?_ ?_
    ·refine ⟨?_, ?_, ?_, trivial⟩
     ·intro ρz wz hz hk hd
      exact sk_uskip rfl rfl ((hk 81 rfl).trans rfl) rfl
     ·intro ρz wz hz hk hd
      exact sk_uskip rfl rfl ((hk 81 rfl).trans rfl) rfl
     intro ρz wz hz hk hd
     exact sk_uskip rfl rfl ((hk 81 rfl).trans rfl) rfl
    intro ρ32 w33 q34 hk hd
    have e1 := (hk 1 rfl).trans e1
    have e3 := (hk 3 rfl).trans e3
    have e77 := (hk 77 rfl).trans rfl
    have e81 := (hk 81 rfl).trans rfl
    have e82 := hd 29 rfl rfl 82 rfl
    have e84 := hd 31 rfl rfl 84 rfl
    have b2 := b2.gr q34
    have fB := fB.gr q34
    refine rd_seq (m := 32) (n := 37) rfl ?_
    refine ol_uskip rfl rfl rfl rfl e81 ?_
    refine ol_uskip rfl rfl rfl rfl e81 ?_
    refine ol_gskip rfl rfl rfl rfl e77 rfl ?_
    refine ol_val (v := .bool true) (xr_pickT rfl e77 rfl rfl) rfl rfl rfl ?_
    refine ol_val (v := .bool true) (xr_move rfl rfl) rfl rfl rfl ?_
    refine ol_nilK ?_
    refine rd_drawL 37 44 [fun vz _ => vz = undef, fun vz _ => vz = undef, fun vz _ => vz = undef, fun vz _ => vz = undef, fun vz _ => vz = undef, fun vz _ => vz = undef, fun vz _ => vz = undef] rfl ⟨fun _ _ _ h _ => h, fun _ _ _ h _ => h, fun _ _ _ h _ => h, fun _ _ _ h _ => h, fun _ _ _ h _ => h, fun _ _ _ h _ => h, fun _ _ _ h _ => h, trivial⟩ ?_ ?_
    ·refine ⟨?_, ?_, ?_, ?_, ?_, ?_, ?_, trivial⟩
     ·intro ρz wz hz hk hd
      exact sk_skip rfl rfl ((hk 89 rfl).trans rfl) rfl rfl
     ·intro ρz wz hz hk hd
      exact sk_skip rfl rfl ((hk 89 rfl).trans rfl) rfl rfl
     ·intro ρz wz hz hk hd
      exact sk_skip rfl rfl ((hk 89 rfl).trans rfl) rfl rfl
     ·intro ρz wz hz hk hd
      exact sk_skip rfl rfl ((hk 89 rfl).trans rfl) rfl rfl
     ·intro ρz wz hz hk hd
      exact sk_skip rfl rfl ((hk 89 rfl).trans rfl) rfl rfl
     ·intro ρz wz hz hk hd
      exact sk_skip rfl rfl ((hk 89 rfl).trans rfl) rfl rfl
     intro ρz wz hz hk hd
     exact sk_skip rfl rfl ((hk 89 rfl).trans rfl) rfl rfl
    intro ρ35 w36 q37 hk hd
    have e1 := (hk 1 rfl).trans e1
    have e3 := (hk 3 rfl).trans e3
    have e89 := (hk 89 rfl).trans rfl
    have e92 := hd 39 rfl rfl 92 rfl
    have e96 := hd 43 rfl rfl 96 rfl
    have b2 := b2.gr q37
    have fB := fB.gr q37
    refine rd_seq (m := 44) (n := 46) rfl ?_
    refine ol_gskip rfl rfl rfl rfl e89 rfl ?_
    refine ol_val (v := .bool true) (xr_pickT rfl e89 rfl rfl) rfl rfl rfl ?_
    refine ol_nilK ?_
    refine rd_end rfl ?_
    obtain rfl := Option.some.inj j24
    refine thn_i ?_
    exact ⟨e1, e3, rfl, (((q26.gr q31).gr q34).gr q37)⟩
   refine ol_gval (v := (pt G1 1)) (xr_fieldAddr (p := 0) (q := 1) rfl fl110_1 e1) rfl rfl rfl rfl rfl c28 ?_
   refine ol_gval (v := (pt G1 5)) (xr_fieldAddr (p := 1) (q := 4) rfl fl108_2 rfl) rfl rfl rfl rfl rfl c28 ?_
   refine ol_gval (v := .int .i64 a0.Tickets.High) (xr_load1 (v := .int .i64 a0.Tickets.High) rfl ag3 rfl (b2.seg 5 rfl rfl)) rfl rfl rfl rfl rfl c28 ?_
   refine ol_gval (v := .bool (decide (a0.Tickets.High > 0))) (xr_gtr rfl rfl rfl) rfl rfl rfl rfl rfl c28 ?_
   refine ol_gval (v := .bool (decide (a0.Tickets.High > 0))) (xr_move rfl rfl) rfl rfl rfl rfl rfl c28 ?_
   refine ol_nilK ?_
   rcases is j24 with ⟨c38, j24⟩ | ⟨c38, j24⟩
   ·skip
    refine rd_drawL 16 20 [fun vz wz => vz = (Value.func (.func 144) #[] #[(pt G1 0)] : Value), fun vz wz => vz = ((pt G1 1) : Value), fun vz wz => vz = ((pt G1 4) : Value), fun vz wz => vz = (.int .i64 a0.Tickets.Top : Value)] rfl ⟨fun _ _ _ h _ => h, fun _ _ _ h _ => h, fun _ _ _ h _ => h, fun _ _ _ h _ => h, trivial⟩ ?_ ?_
    ·refine ⟨?_, ?_, ?_, ?_, trivial⟩
     ·intro ρz wz hz hk hd
      exact sk_gval (v := Value.func (.func 144) #[] #[(pt G1 0)]) (xr_move rfl ((hk 3 rfl).trans rfl)) rfl rfl ((hk 68 rfl).trans rfl) c38 rfl
     ·intro ρz wz hz hk hd
      exact sk_gval (v := (pt G1 1)) (xr_fieldAddr (p := 0) (q := 1) rfl fl110_1 ((hk 1 rfl).trans e1)) rfl rfl ((hk 68 rfl).trans rfl) c38 rfl
     ·intro ρz wz hz hk hd
      exact sk_gval (v := (pt G1 4)) (xr_fieldAddr (p := 1) (q := 3) rfl fl108_1 (hd 17 rfl rfl 70 rfl)) rfl rfl ((hk 68 rfl).trans rfl) c38 rfl
     intro ρz wz hz hk hd
     exact sk_gval (v := .int .i64 a0.Tickets.Top) (xr_load1 (v := .int .i64 a0.Tickets.Top) rfl ag3 (hd 18 rfl rfl 71 rfl) ((b2.gr hz).seg 4 rfl rfl)) rfl rfl ((hk 68 rfl).trans rfl) c38 rfl
    intro ρ39 w40 q41 hk hd
    have e1 := (hk 1 rfl).trans e1
    have e3 := (hk 3 rfl).trans rfl
    have e63 := (hk 63 rfl).trans rfl
    have e68 := (hk 68 rfl).trans rfl
    have e69 := hd 16 rfl rfl 69 rfl
    have e72 := hd 19 rfl rfl 72 rfl
    have b2 := b2.gr q41
    have fB := fB.gr q41
    refine rd_seq (m := 20) (n := 29) rfl ?_
    obtain ⟨t42, k43, j24⟩ := bs j24
    refine ol_gop (opv_callV (C := [(pt G1 0)]) rfl e69 cal144 (ac e72 an) (super_Right_1__c.ok fu _ a0.Tickets.Top a0 G1 V0_0 (R0_0.gr fB) b2 _ k43)) rfl rfl rfl rfl e68 c38 ?_
    rintro _ w45 ⟨rfl, q44⟩
    have b2 := b2.gr q44
    have fB := fB.gr q44
    refine ol_gval (v := .bool (!t42)) (xr_not rfl rfl) rfl rfl rfl rfl e68 c38 ?_
    refine ol_gval (v := .bool (!t42)) (xr_pickT rfl e68 c38 rfl) rfl rfl rfl rfl e63 c28 ?_
    refine ol_val (v := .bool (!t42)) (xr_pickF rfl e63 c28 rfl) rfl rfl rfl ?_
    refine ol_val (v := .bool (!t42)) (xr_move rfl rfl) rfl rfl rfl ?_
    rcases is j24 with ⟨c46, j24⟩ | ⟨c46, j24⟩
    ·skip
     refine ol_gskip rfl rfl rfl rfl rfl c46 ?_
     refine ol_gskip rfl rfl rfl rfl rfl c46 ?_
     refine ol_gskip rfl rfl rfl rfl rfl c46 ?_
     refine ol_gskip rfl rfl rfl rfl rfl c46 ?_
     refine ol_nilK ?_
     refine rd_drawL 29 32 [fun vz _ => vz = undef, fun vz _ => vz = undef, fun vz _ => vz = undef] rfl ⟨fun _ _ _ h _ => h, fun _ _ _ h _ => h, fun _ _ _ h _ => h, trivial⟩ ?_ ?_
     ·refine ⟨?_, ?_, ?_, trivial⟩
      ·intro ρz wz hz hk hd
       exact sk_uskip rfl rfl ((hk 81 rfl).trans rfl) rfl
      ·intro ρz wz hz hk hd
       exact sk_uskip rfl rfl ((hk 81 rfl).trans rfl) rfl
      intro ρz wz hz hk hd
      exact sk_uskip rfl rfl ((hk 81 rfl).trans rfl) rfl
     intro ρ47 w48 q49 hk hd
     have e1 := (hk 1 rfl).trans e1
     have e3 := (hk 3 rfl).trans e3
     have e77 := (hk 77 rfl).trans rfl
     have e81 := (hk 81 rfl).trans rfl
     have e82 := hd 29 rfl rfl 82 rfl
     have e84 := hd 31 rfl rfl 84 rfl
     have b2 := b2.gr q49
     have fB := fB.gr q49
     refine rd_seq (m := 32) (n := 37) rfl ?_
     refine ol_uskip rfl rfl rfl rfl e81 ?_
     refine ol_uskip rfl rfl rfl rfl e81 ?_
     refine ol_gskip rfl rfl rfl rfl e77 c46 ?_
     refine ol_val (v := .bool true) (xr_pickT rfl e77 c46 rfl) rfl rfl rfl ?_
     refine ol_val (v := .bool true) (xr_move rfl rfl) rfl rfl rfl ?_
     refine ol_nilK ?_
     refine rd_drawL 37 44 [fun vz _ => vz = undef, fun vz _ => vz = undef, fun vz _ => vz = undef, fun vz _ => vz = undef, fun vz _ => vz = undef, fun vz _ => vz = undef, fun vz _ => vz = undef] rfl ⟨fun _ _ _ h _ => h, fun _ _ _ h _ => h, fun _ _ _ h _ => h, fun _ _ _ h _ => h, fun _ _ _ h _ => h, fun _ _ _ h _ => h, fun _ _ _ h _ => h, trivial⟩ ?_ ?_
     ·refine ⟨?_, ?_, ?_, ?_, ?_, ?_, ?_, trivial⟩
      ·intro ρz wz hz hk hd
       exact sk_skip rfl rfl ((hk 89 rfl).trans rfl) rfl rfl
      ·intro ρz wz hz hk hd
       exact sk_skip rfl rfl ((hk 89 rfl).trans rfl) rfl rfl
      ·intro ρz wz hz hk hd
       exact sk_skip rfl rfl ((hk 89 rfl).trans rfl) rfl rfl
      ·intro ρz wz hz hk hd
       exact sk_skip rfl rfl ((hk 89 rfl).trans rfl) rfl rfl
      ·intro ρz wz hz hk hd
       exact sk_skip rfl rfl ((hk 89 rfl).trans rfl) rfl rfl
      ·intro ρz wz hz hk hd
       exact sk_skip rfl rfl ((hk 89 rfl).trans rfl) rfl rfl
      intro ρz wz hz hk hd
      exact sk_skip rfl rfl ((hk 89 rfl).trans rfl) rfl rfl
     intro ρ50 w51 q52 hk hd
     have e1 := (hk 1 rfl).trans e1
     have e3 := (hk 3 rfl).trans e3
     have e89 := (hk 89 rfl).trans rfl
     have e92 := hd 39 rfl rfl 92 rfl
     have e96 := hd 43 rfl rfl 96 rfl
     have b2 := b2.gr q52
     have fB := fB.gr q52
     refine rd_seq (m := 44) (n := 46) rfl ?_
     refine ol_gskip rfl rfl rfl rfl e89 rfl ?_
     refine ol_val (v := .bool true) (xr_pickT rfl e89 rfl rfl) rfl rfl rfl ?_
     refine ol_nilK ?_
     refine rd_end rfl ?_
     obtain rfl := Option.some.inj j24
     refine thn_i ?_
     exact ⟨e1, e3, rfl, ((((q26.gr q41).gr q44).gr q49).gr q52)⟩
    refine ol_gval (v := (pt G1 7)) (xr_fieldAddr (p := 0) (q := 7) rfl fl110_2 e1) rfl rfl rfl rfl rfl c46 ?_
    refine ol_gval (v := .int .i64 a0.Dir) (xr_load1 (v := .int .i64 a0.Dir) rfl ag3 rfl (b2.seg 7 rfl rfl)) rfl rfl rfl rfl rfl c46 ?_
    refine ol_gval (v := .bool (!decide (a0.Dir = 0))) (xr_neI rfl Try.underlying3 rfl rfl rfl) rfl rfl rfl rfl rfl c46 ?_
    refine ol_gval (v := .bool (!decide (a0.Dir = 0))) (xr_move rfl rfl) rfl rfl rfl rfl rfl c46 ?_
    refine ol_nilK ?_
    rcases is j24 with ⟨c53, j24⟩ | ⟨c53, j24⟩
    ·skip
     refine rd_drawL 29 32 [fun vz wz => vz = (Value.func (.func 144) #[] #[(pt G1 0)] : Value), fun vz wz => vz = ((pt G1 7) : Value), fun vz wz => vz = (.int .i64 a0.Dir : Value)] rfl ⟨fun _ _ _ h _ => h, fun _ _ _ h _ => h, fun _ _ _ h _ => h, trivial⟩ ?_ ?_
     ·refine ⟨?_, ?_, ?_, trivial⟩
      ·intro ρz wz hz hk hd
       exact sk_gval (v := Value.func (.func 144) #[] #[(pt G1 0)]) (xr_move rfl ((hk 3 rfl).trans e3)) rfl rfl ((hk 81 rfl).trans rfl) c53 rfl
      ·intro ρz wz hz hk hd
       exact sk_gval (v := (pt G1 7)) (xr_fieldAddr (p := 0) (q := 7) rfl fl110_2 ((hk 1 rfl).trans e1)) rfl rfl ((hk 81 rfl).trans rfl) c53 rfl
      intro ρz wz hz hk hd
      exact sk_gval (v := .int .i64 a0.Dir) (xr_load1 (v := .int .i64 a0.Dir) rfl ag3 (hd 30 rfl rfl 83 rfl) ((b2.gr hz).seg 7 rfl rfl)) rfl rfl ((hk 81 rfl).trans rfl) c53 rfl
     intro ρ54 w55 q56 hk hd
     have e1 := (hk 1 rfl).trans e1
     have e3 := (hk 3 rfl).trans e3
     have e77 := (hk 77 rfl).trans rfl
     have e81 := (hk 81 rfl).trans rfl
     have e82 := hd 29 rfl rfl 82 rfl
     have e84 := hd 31 rfl rfl 84 rfl
     have b2 := b2.gr q56
     have fB := fB.gr q56
     refine rd_seq (m := 32) (n := 37) rfl ?_
     obtain ⟨t57, k58, j24⟩ := bs j24
     refine ol_gop (opv_callV (C := [(pt G1 0)]) rfl e82 cal144 (ac e84 an) (super_Right_1__c.ok fu _ a0.Dir a0 G1 V0_0 (R0_0.gr fB) b2 _ k58)) rfl rfl rfl rfl e81 c53 ?_
     rintro _ w60 ⟨rfl, q59⟩
     have b2 := b2.gr q59
     have fB := fB.gr q59
     refine ol_gval (v := .bool (!t57)) (xr_not rfl rfl) rfl rfl rfl rfl e81 c53 ?_
     refine ol_gval (v := .bool (!t57)) (xr_pickT rfl e81 c53 rfl) rfl rfl rfl rfl e77 c46 ?_
     refine ol_val (v := .bool (!t57)) (xr_pickF rfl e77 c46 rfl) rfl rfl rfl ?_
     refine ol_val (v := .bool (!t57)) (xr_move rfl rfl) rfl rfl rfl ?_
     refine ol_nilK ?_
     rcases is j24 with ⟨c61, j24⟩ | ⟨c61, j24⟩
     ·skip
      refine rd_drawL 37 44 [fun vz _ => vz = undef, fun vz _ => vz = undef, fun vz _ => vz = undef, fun vz _ => vz = undef, fun vz _ => vz = undef, fun vz _ => vz = undef, fun vz _ => vz = undef] rfl ⟨fun _ _ _ h _ => h, fun _ _ _ h _ => h, fun _ _ _ h _ => h, fun _ _ _ h _ => h, fun _ _ _ h _ => h, fun _ _ _ h _ => h, fun _ _ _ h _ => h, trivial⟩ ?_ ?_
      ·refine ⟨?_, ?_, ?_, ?_, ?_, ?_, ?_, trivial⟩
       ·intro ρz wz hz hk hd
        exact sk_skip rfl rfl ((hk 89 rfl).trans rfl) c61 rfl
       ·intro ρz wz hz hk hd
        exact sk_skip rfl rfl ((hk 89 rfl).trans rfl) c61 rfl
       ·intro ρz wz hz hk hd
        exact sk_skip rfl rfl ((hk 89 rfl).trans rfl) c61 rfl
       ·intro ρz wz hz hk hd
        exact sk_skip rfl rfl ((hk 89 rfl).trans rfl) c61 rfl
       ·intro ρz wz hz hk hd
        exact sk_skip rfl rfl ((hk 89 rfl).trans rfl) c61 rfl
       ·intro ρz wz hz hk hd
        exact sk_skip rfl rfl ((hk 89 rfl).trans rfl) c61 rfl
       intro ρz wz hz hk hd
       exact sk_skip rfl rfl ((hk 89 rfl).trans rfl) c61 rfl
      intro ρ62 w63 q64 hk hd
      have e1 := (hk 1 rfl).trans e1
      have e3 := (hk 3 rfl).trans e3
      have e89 := (hk 89 rfl).trans rfl
      have e92 := hd 39 rfl rfl 92 rfl
      have e96 := hd 43 rfl rfl 96 rfl
      have b2 := b2.gr q64
      have fB := fB.gr q64
      refine rd_seq (m := 44) (n := 46) rfl ?_
      refine ol_gskip rfl rfl rfl rfl e89 c61 ?_
      refine ol_val (v := .bool true) (xr_pickT rfl e89 c61 rfl) rfl rfl rfl ?_
      refine ol_nilK ?_
      refine rd_end rfl ?_
      obtain rfl := Option.some.inj j24
      refine thn_i ?_
      exact ⟨e1, e3, rfl, (((((q26.gr q41).gr q44).gr q56).gr q59).gr q64)⟩
     obtain ⟨t65, k66, j24⟩ := bs j24
     refine rd_drawL 37 44 [fun vz wz => vz = ((pt G1 8) : Value), fun vz wz => vz = (V0_0 : Value), fun vz wz => vz = (.int .i64 (List.length a0.Charts : Int) : Value), fun vz wz => vz = ((pt G1 1) : Value), fun vz wz => vz = ((pt G1 1) : Value), fun vz wz => vz = (aggV [(sI a0.Tickets.Geometry.Blocks), (sI a0.Tickets.Geometry.Slots), (sI a0.Tickets.Geometry.Gens)] : Value), fun vz wz => vz = (.int .i64 t65 : Value)] rfl ⟨fun _ _ _ h _ => h, fun _ _ _ h _ => h, fun _ _ _ h _ => h, fun _ _ _ h _ => h, fun _ _ _ h _ => h, fun _ _ _ h _ => h, fun _ _ _ h _ => h, trivial⟩ ?_ ?_
     ·refine ⟨?_, ?_, ?_, ?_, ?_, ?_, ?_, trivial⟩
      ·intro ρz wz hz hk hd
       exact sk_gval (v := (pt G1 8)) (xr_fieldAddr (p := 0) (q := 8) rfl fl110_3 ((hk 1 rfl).trans e1)) rfl rfl ((hk 89 rfl).trans rfl) c61 rfl
      ·intro ρz wz hz hk hd
       exact sk_gval (v := V0_0) (xr_load1 (v := V0_0) rfl ag25 (hd 37 rfl rfl 90 rfl) ((b2.gr hz).seg 8 rfl rfl)) rfl rfl ((hk 89 rfl).trans rfl) c61 rfl
      ·intro ρz wz hz hk hd
       exact sk_gval (v := .int .i64 (List.length a0.Charts : Int)) (xr_lenR rfl Try.underlying25 (hd 38 rfl rfl 91 rfl) (R0_0.gr (fB.gr hz))) rfl rfl ((hk 89 rfl).trans rfl) c61 rfl
      ·intro ρz wz hz hk hd
       exact sk_gval (v := (pt G1 1)) (xr_fieldAddr (p := 0) (q := 1) rfl fl110_1 ((hk 1 rfl).trans e1)) rfl rfl ((hk 89 rfl).trans rfl) c61 rfl
      ·intro ρz wz hz hk hd
       exact sk_gval (v := (pt G1 1)) (xr_fieldAddr (p := 1) (q := 0) rfl fl108_0 (hd 40 rfl rfl 93 rfl)) rfl rfl ((hk 89 rfl).trans rfl) c61 rfl
      ·intro ρz wz hz hk hd
       exact sk_gval (xr_loadS (ss := [(sI a0.Tickets.Geometry.Blocks), (sI a0.Tickets.Geometry.Slots), (sI a0.Tickets.Geometry.Gens)]) rfl ag106 sz106 rfl (hd 41 rfl rfl 94 rfl) ((b2.gr hz).segs 1 3 rfl)) rfl rfl ((hk 89 rfl).trans rfl) c61 rfl
      intro ρz wz hz hk hd
      refine sk_gop (opv_call rfl cal145 (ac (hd 42 rfl rfl 95 rfl) an) (geom_Charts.ok fu _ a0.Tickets.Geometry _ k66)) rfl rfl ((hk 89 rfl).trans rfl) c61 ?_
      rintro _ wy ⟨rfl, q67⟩
      exact ⟨rfl, q67⟩
     intro ρ68 w69 q70 hk hd
     have e1 := (hk 1 rfl).trans e1
     have e3 := (hk 3 rfl).trans e3
     have e89 := (hk 89 rfl).trans rfl
     have e92 := hd 39 rfl rfl 92 rfl
     have e96 := hd 43 rfl rfl 96 rfl
     have b2 := b2.gr q70
     have fB := fB.gr q70
     refine rd_seq (m := 44) (n := 46) rfl ?_
     refine ol_gval (v := .bool (!decide ((List.length a0.Charts : Int) = t65))) (xr_neI rfl Try.underlying3 rfl e92 e96) rfl rfl rfl rfl e89 c61 ?_
     refine ol_val (v := .bool (!decide ((List.length a0.Charts : Int) = t65))) (xr_pickF rfl e89 c61 rfl) rfl rfl rfl ?_
     refine ol_nilK ?_
     refine rd_end rfl ?_
     obtain rfl := Option.some.inj j24
     refine thn_i ?_
     exact ⟨e1, e3, rfl, (((((q26.gr q41).gr q44).gr q56).gr q59).gr q70)⟩
    refine rd_drawL 29 32 [fun vz _ => vz = undef, fun vz _ => vz = undef, fun vz _ => vz = undef] rfl ⟨fun _ _ _ h _ => h, fun _ _ _ h _ => h, fun _ _ _ h _ => h, trivial⟩ ?_ ?_
    ·refine ⟨?_, ?_, ?_, trivial⟩
     ·intro ρz wz hz hk hd
      exact sk_skip rfl rfl ((hk 81 rfl).trans rfl) c53 rfl
     ·intro ρz wz hz hk hd
      exact sk_skip rfl rfl ((hk 81 rfl).trans rfl) c53 rfl
     intro ρz wz hz hk hd
     exact sk_skip rfl rfl ((hk 81 rfl).trans rfl) c53 rfl
    intro ρ71 w72 q73 hk hd
    have e1 := (hk 1 rfl).trans e1
    have e3 := (hk 3 rfl).trans e3
    have e77 := (hk 77 rfl).trans rfl
    have e81 := (hk 81 rfl).trans rfl
    have e82 := hd 29 rfl rfl 82 rfl
    have e84 := hd 31 rfl rfl 84 rfl
    have b2 := b2.gr q73
    have fB := fB.gr q73
    refine rd_seq (m := 32) (n := 37) rfl ?_
    refine ol_gskip rfl rfl rfl rfl e81 c53 ?_
    refine ol_gskip rfl rfl rfl rfl e81 c53 ?_
    refine ol_gval (v := .bool false) (xr_pickF rfl e81 c53 rfl) rfl rfl rfl rfl e77 c46 ?_
    refine ol_val (v := .bool false) (xr_pickF rfl e77 c46 rfl) rfl rfl rfl ?_
    refine ol_val (v := .bool false) (xr_move rfl rfl) rfl rfl rfl ?_
    refine ol_nilK ?_
    obtain ⟨t74, k75, j24⟩ := bs j24
    refine rd_drawL 37 44 [fun vz wz => vz = ((pt G1 8) : Value), fun vz wz => vz = (V0_0 : Value), fun vz wz => vz = (.int .i64 (List.length a0.Charts : Int) : Value), fun vz wz => vz = ((pt G1 1) : Value), fun vz wz => vz = ((pt G1 1) : Value), fun vz wz => vz = (aggV [(sI a0.Tickets.Geometry.Blocks), (sI a0.Tickets.Geometry.Slots), (sI a0.Tickets.Geometry.Gens)] : Value), fun vz wz => vz = (.int .i64 t74 : Value)] rfl ⟨fun _ _ _ h _ => h, fun _ _ _ h _ => h, fun _ _ _ h _ => h, fun _ _ _ h _ => h, fun _ _ _ h _ => h, fun _ _ _ h _ => h, fun _ _ _ h _ => h, trivial⟩ ?_ ?_
    ·refine ⟨?_, ?_, ?_, ?_, ?_, ?_, ?_, trivial⟩
     ·intro ρz wz hz hk hd
      exact sk_gval (v := (pt G1 8)) (xr_fieldAddr (p := 0) (q := 8) rfl fl110_3 ((hk 1 rfl).trans e1)) rfl rfl ((hk 89 rfl).trans rfl) rfl rfl
     ·intro ρz wz hz hk hd
      exact sk_gval (v := V0_0) (xr_load1 (v := V0_0) rfl ag25 (hd 37 rfl rfl 90 rfl) ((b2.gr hz).seg 8 rfl rfl)) rfl rfl ((hk 89 rfl).trans rfl) rfl rfl
     ·intro ρz wz hz hk hd
      exact sk_gval (v := .int .i64 (List.length a0.Charts : Int)) (xr_lenR rfl Try.underlying25 (hd 38 rfl rfl 91 rfl) (R0_0.gr (fB.gr hz))) rfl rfl ((hk 89 rfl).trans rfl) rfl rfl
     ·intro ρz wz hz hk hd
      exact sk_gval (v := (pt G1 1)) (xr_fieldAddr (p := 0) (q := 1) rfl fl110_1 ((hk 1 rfl).trans e1)) rfl rfl ((hk 89 rfl).trans rfl) rfl rfl
     ·intro ρz wz hz hk hd
      exact sk_gval (v := (pt G1 1)) (xr_fieldAddr (p := 1) (q := 0) rfl fl108_0 (hd 40 rfl rfl 93 rfl)) rfl rfl ((hk 89 rfl).trans rfl) rfl rfl
     ·intro ρz wz hz hk hd
      exact sk_gval (xr_loadS (ss := [(sI a0.Tickets.Geometry.Blocks), (sI a0.Tickets.Geometry.Slots), (sI a0.Tickets.Geometry.Gens)]) rfl ag106 sz106 rfl (hd 41 rfl rfl 94 rfl) ((b2.gr hz).segs 1 3 rfl)) rfl rfl ((hk 89 rfl).trans rfl) rfl rfl
     intro ρz wz hz hk hd
     refine sk_gop (opv_call rfl cal145 (ac (hd 42 rfl rfl 95 rfl) an) (geom_Charts.ok fu _ a0.Tickets.Geometry _ k75)) rfl rfl ((hk 89 rfl).trans rfl) rfl ?_
     rintro _ wy ⟨rfl, q76⟩
     exact ⟨rfl, q76⟩
    intro ρ77 w78 q79 hk hd
    have e1 := (hk 1 rfl).trans e1
    have e3 := (hk 3 rfl).trans e3
    have e89 := (hk 89 rfl).trans rfl
    have e92 := hd 39 rfl rfl 92 rfl
    have e96 := hd 43 rfl rfl 96 rfl
    have b2 := b2.gr q79
    have fB := fB.gr q79
    refine rd_seq (m := 44) (n := 46) rfl ?_
    refine ol_gval (v := .bool (!decide ((List.length a0.Charts : Int) = t74))) (xr_neI rfl Try.underlying3 rfl e92 e96) rfl rfl rfl rfl e89 rfl ?_
    refine ol_val (v := .bool (!decide ((List.length a0.Charts : Int) = t74))) (xr_pickF rfl e89 rfl rfl) rfl rfl rfl ?_
    refine ol_nilK ?_
    refine rd_end rfl ?_
    obtain rfl := Option.some.inj j24
    refine thn_i ?_
    exact ⟨e1, e3, rfl, ((((q26.gr q41).gr q44).gr q73).gr q79)⟩
   refine rd_drawL 16 20 [fun vz _ => vz = undef, fun vz _ => vz = undef, fun vz _ => vz = undef, fun vz _ => vz = undef] rfl ⟨fun _ _ _ h _ => h, fun _ _ _ h _ => h, fun _ _ _ h _ => h, fun _ _ _ h _ => h, trivial⟩ ?_ ?_
   ·refine ⟨?_, ?_, ?_, ?_, trivial⟩
    ·intro ρz wz hz hk hd
     exact sk_skip rfl rfl ((hk 68 rfl).trans rfl) c38 rfl
    ·intro ρz wz hz hk hd
     exact sk_skip rfl rfl ((hk 68 rfl).trans rfl) c38 rfl
    ·intro ρz wz hz hk hd
     exact sk_skip rfl rfl ((hk 68 rfl).trans rfl) c38 rfl
    intro ρz wz hz hk hd
    exact sk_skip rfl rfl ((hk 68 rfl).trans rfl) c38 rfl
   intro ρ80 w81 q82 hk hd
   have e1 := (hk 1 rfl).trans e1
   have e3 := (hk 3 rfl).trans rfl
   have e63 := (hk 63 rfl).trans rfl
   have e68 := (hk 68 rfl).trans rfl
   have e69 := hd 16 rfl rfl 69 rfl
   have e72 := hd 19 rfl rfl 72 rfl
   have b2 := b2.gr q82
   have fB := fB.gr q82
   refine rd_seq (m := 20) (n := 29) rfl ?_
   refine ol_gskip rfl rfl rfl rfl e68 c38 ?_
   refine ol_gskip rfl rfl rfl rfl e68 c38 ?_
   refine ol_gval (v := .bool false) (xr_pickF rfl e68 c38 rfl) rfl rfl rfl rfl e63 c28 ?_
   refine ol_val (v := .bool false) (xr_pickF rfl e63 c28 rfl) rfl rfl rfl ?_
   refine ol_val (v := .bool false) (xr_move rfl rfl) rfl rfl rfl ?_
   refine ol_gval (v := (pt G1 7)) (xr_fieldAddr (p := 0) (q := 7) rfl fl110_2 e1) rfl rfl rfl rfl rfl rfl ?_
   refine ol_gval (v := .int .i64 a0.Dir) (xr_load1 (v := .int .i64 a0.Dir) rfl ag3 rfl (b2.seg 7 rfl rfl)) rfl rfl rfl rfl rfl rfl ?_
   refine ol_gval (v := .bool (!decide (a0.Dir = 0))) (xr_neI rfl Try.underlying3 rfl rfl rfl) rfl rfl rfl rfl rfl rfl ?_
   refine ol_gval (v := .bool (!decide (a0.Dir = 0))) (xr_move rfl rfl) rfl rfl rfl rfl rfl rfl ?_
   refine ol_nilK ?_
   rcases is j24 with ⟨c83, j24⟩ | ⟨c83, j24⟩
   ·skip
    refine rd_drawL 29 32 [fun vz wz => vz = (Value.func (.func 144) #[] #[(pt G1 0)] : Value), fun vz wz => vz = ((pt G1 7) : Value), fun vz wz => vz = (.int .i64 a0.Dir : Value)] rfl ⟨fun _ _ _ h _ => h, fun _ _ _ h _ => h, fun _ _ _ h _ => h, trivial⟩ ?_ ?_
    ·refine ⟨?_, ?_, ?_, trivial⟩
     ·intro ρz wz hz hk hd
      exact sk_gval (v := Value.func (.func 144) #[] #[(pt G1 0)]) (xr_move rfl ((hk 3 rfl).trans e3)) rfl rfl ((hk 81 rfl).trans rfl) c83 rfl
     ·intro ρz wz hz hk hd
      exact sk_gval (v := (pt G1 7)) (xr_fieldAddr (p := 0) (q := 7) rfl fl110_2 ((hk 1 rfl).trans e1)) rfl rfl ((hk 81 rfl).trans rfl) c83 rfl
     intro ρz wz hz hk hd
     exact sk_gval (v := .int .i64 a0.Dir) (xr_load1 (v := .int .i64 a0.Dir) rfl ag3 (hd 30 rfl rfl 83 rfl) ((b2.gr hz).seg 7 rfl rfl)) rfl rfl ((hk 81 rfl).trans rfl) c83 rfl
    intro ρ84 w85 q86 hk hd
    have e1 := (hk 1 rfl).trans e1
    have e3 := (hk 3 rfl).trans e3
    have e77 := (hk 77 rfl).trans rfl
    have e81 := (hk 81 rfl).trans rfl
    have e82 := hd 29 rfl rfl 82 rfl
    have e84 := hd 31 rfl rfl 84 rfl
    have b2 := b2.gr q86
    have fB := fB.gr q86
    refine rd_seq (m := 32) (n := 37) rfl ?_
    obtain ⟨t87, k88, j24⟩ := bs j24
    refine ol_gop (opv_callV (C := [(pt G1 0)]) rfl e82 cal144 (ac e84 an) (super_Right_1__c.ok fu _ a0.Dir a0 G1 V0_0 (R0_0.gr fB) b2 _ k88)) rfl rfl rfl rfl e81 c83 ?_
    rintro _ w90 ⟨rfl, q89⟩
    have b2 := b2.gr q89
    have fB := fB.gr q89
    refine ol_gval (v := .bool (!t87)) (xr_not rfl rfl) rfl rfl rfl rfl e81 c83 ?_
    refine ol_gval (v := .bool (!t87)) (xr_pickT rfl e81 c83 rfl) rfl rfl rfl rfl e77 rfl ?_
    refine ol_val (v := .bool (!t87)) (xr_pickF rfl e77 rfl rfl) rfl rfl rfl ?_
    refine ol_val (v := .bool (!t87)) (xr_move rfl rfl) rfl rfl rfl ?_
    refine ol_nilK ?_
    rcases is j24 with ⟨c91, j24⟩ | ⟨c91, j24⟩
    ·skip
     refine rd_drawL 37 44 [fun vz _ => vz = undef, fun vz _ => vz = undef, fun vz _ => vz = undef, fun vz _ => vz = undef, fun vz _ => vz = undef, fun vz _ => vz = undef, fun vz _ => vz = undef] rfl ⟨fun _ _ _ h _ => h, fun _ _ _ h _ => h, fun _ _ _ h _ => h, fun _ _ _ h _ => h, fun _ _ _ h _ => h, fun _ _ _ h _ => h, fun _ _ _ h _ => h, trivial⟩ ?_ ?_
     ·refine ⟨?_, ?_, ?_, ?_, ?_, ?_, ?_, trivial⟩
      ·intro ρz wz hz hk hd
       exact sk_skip rfl rfl ((hk 89 rfl).trans rfl) c91 rfl
      ·intro ρz wz hz hk hd
       exact sk_skip rfl rfl ((hk 89 rfl).trans rfl) c91 rfl
      ·intro ρz wz hz hk hd
       exact sk_skip rfl rfl ((hk 89 rfl).trans rfl) c91 rfl
      ·intro ρz wz hz hk hd
       exact sk_skip rfl rfl ((hk 89 rfl).trans rfl) c91 rfl
      ·intro ρz wz hz hk hd
       exact sk_skip rfl rfl ((hk 89 rfl).trans rfl) c91 rfl
      ·intro ρz wz hz hk hd
       exact sk_skip rfl rfl ((hk 89 rfl).trans rfl) c91 rfl
      intro ρz wz hz hk hd
      exact sk_skip rfl rfl ((hk 89 rfl).trans rfl) c91 rfl
     intro ρ92 w93 q94 hk hd
     have e1 := (hk 1 rfl).trans e1
     have e3 := (hk 3 rfl).trans e3
     have e89 := (hk 89 rfl).trans rfl
     have e92 := hd 39 rfl rfl 92 rfl
     have e96 := hd 43 rfl rfl 96 rfl
     have b2 := b2.gr q94
     have fB := fB.gr q94
     refine rd_seq (m := 44) (n := 46) rfl ?_
     refine ol_gskip rfl rfl rfl rfl e89 c91 ?_
     refine ol_val (v := .bool true) (xr_pickT rfl e89 c91 rfl) rfl rfl rfl ?_
     refine ol_nilK ?_
     refine rd_end rfl ?_
     obtain rfl := Option.some.inj j24
     refine thn_i ?_
     exact ⟨e1, e3, rfl, ((((q26.gr q82).gr q86).gr q89).gr q94)⟩
    obtain ⟨t95, k96, j24⟩ := bs j24
    refine rd_drawL 37 44 [fun vz wz => vz = ((pt G1 8) : Value), fun vz wz => vz = (V0_0 : Value), fun vz wz => vz = (.int .i64 (List.length a0.Charts : Int) : Value), fun vz wz => vz = ((pt G1 1) : Value), fun vz wz => vz = ((pt G1 1) : Value), fun vz wz => vz = (aggV [(sI a0.Tickets.Geometry.Blocks), (sI a0.Tickets.Geometry.Slots), (sI a0.Tickets.Geometry.Gens)] : Value), fun vz wz => vz = (.int .i64 t95 : Value)] rfl ⟨fun _ _ _ h _ => h, fun _ _ _ h _ => h, fun _ _ _ h _ => h, fun _ _ _ h _ => h, fun _ _ _ h _ => h, fun _ _ _ h _ => h, fun _ _ _ h _ => h, trivial⟩ ?_ ?_
    ·refine ⟨?_, ?_, ?_, ?_, ?_, ?_, ?_, trivial⟩
     ·intro ρz wz hz hk hd
      exact sk_gval (v := (pt G1 8)) (xr_fieldAddr (p := 0) (q := 8) rfl fl110_3 ((hk 1 rfl).trans e1)) rfl rfl ((hk 89 rfl).trans rfl) c91 rfl
     ·intro ρz wz hz hk hd
      exact sk_gval (v := V0_0) (xr_load1 (v := V0_0) rfl ag25 (hd 37 rfl rfl 90 rfl) ((b2.gr hz).seg 8 rfl rfl)) rfl rfl ((hk 89 rfl).trans rfl) c91 rfl
     ·intro ρz wz hz hk hd
      exact sk_gval (v := .int .i64 (List.length a0.Charts : Int)) (xr_lenR rfl Try.underlying25 (hd 38 rfl rfl 91 rfl) (R0_0.gr (fB.gr hz))) rfl rfl ((hk 89 rfl).trans rfl) c91 rfl
     ·intro ρz wz hz hk hd
      exact sk_gval (v := (pt G1 1)) (xr_fieldAddr (p := 0) (q := 1) rfl fl110_1 ((hk 1 rfl).trans e1)) rfl rfl ((hk 89 rfl).trans rfl) c91 rfl
     ·intro ρz wz hz hk hd
      exact sk_gval (v := (pt G1 1)) (xr_fieldAddr (p := 1) (q := 0) rfl fl108_0 (hd 40 rfl rfl 93 rfl)) rfl rfl ((hk 89 rfl).trans rfl) c91 rfl
     ·intro ρz wz hz hk hd
      exact sk_gval (xr_loadS (ss := [(sI a0.Tickets.Geometry.Blocks), (sI a0.Tickets.Geometry.Slots), (sI a0.Tickets.Geometry.Gens)]) rfl ag106 sz106 rfl (hd 41 rfl rfl 94 rfl) ((b2.gr hz).segs 1 3 rfl)) rfl rfl ((hk 89 rfl).trans rfl) c91 rfl
     intro ρz wz hz hk hd
     refine sk_gop (opv_call rfl cal145 (ac (hd 42 rfl rfl 95 rfl) an) (geom_Charts.ok fu _ a0.Tickets.Geometry _ k96)) rfl rfl ((hk 89 rfl).trans rfl) c91 ?_
     rintro _ wy ⟨rfl, q97⟩
     exact ⟨rfl, q97⟩
    intro ρ98 w99 q100 hk hd
    have e1 := (hk 1 rfl).trans e1
    have e3 := (hk 3 rfl).trans e3
    have e89 := (hk 89 rfl).trans rfl
    have e92 := hd 39 rfl rfl 92 rfl
    have e96 := hd 43 rfl rfl 96 rfl
    have b2 := b2.gr q100
    have fB := fB.gr q100
    refine rd_seq (m := 44) (n := 46) rfl ?_
    refine ol_gval (v := .bool (!decide ((List.length a0.Charts : Int) = t95))) (xr_neI rfl Try.underlying3 rfl e92 e96) rfl rfl rfl rfl e89 c91 ?_
    refine ol_val (v := .bool (!decide ((List.length a0.Charts : Int) = t95))) (xr_pickF rfl e89 c91 rfl) rfl rfl rfl ?_
    refine ol_nilK ?_
    refine rd_end rfl ?_
    obtain rfl := Option.some.inj j24
    refine thn_i ?_
    exact ⟨e1, e3, rfl, ((((q26.gr q82).gr q86).gr q89).gr q100)⟩
   refine rd_drawL 29 32 [fun vz _ => vz = undef, fun vz _ => vz = undef, fun vz _ => vz = undef] rfl ⟨fun _ _ _ h _ => h, fun _ _ _ h _ => h, fun _ _ _ h _ => h, trivial⟩ ?_ ?_
   ·refine ⟨?_, ?_, ?_, trivial⟩
    ·intro ρz wz hz hk hd
     exact sk_skip rfl rfl ((hk 81 rfl).trans rfl) c83 rfl
    ·intro ρz wz hz hk hd
     exact sk_skip rfl rfl ((hk 81 rfl).trans rfl) c83 rfl
    intro ρz wz hz hk hd
    exact sk_skip rfl rfl ((hk 81 rfl).trans rfl) c83 rfl
   intro ρ101 w102 q103 hk hd
   have e1 := (hk 1 rfl).trans e1
   have e3 := (hk 3 rfl).trans e3
   have e77 := (hk 77 rfl).trans rfl
   have e81 := (hk 81 rfl).trans rfl
   have e82 := hd 29 rfl rfl 82 rfl
   have e84 := hd 31 rfl rfl 84 rfl
   have b2 := b2.gr q103
   have fB := fB.gr q103
   refine rd_seq (m := 32) (n := 37) rfl ?_
   refine ol_gskip rfl rfl rfl rfl e81 c83 ?_
   refine ol_gskip rfl rfl rfl rfl e81 c83 ?_
   refine ol_gval (v := .bool false) (xr_pickF rfl e81 c83 rfl) rfl rfl rfl rfl e77 rfl ?_
   refine ol_val (v := .bool false) (xr_pickF rfl e77 rfl rfl) rfl rfl rfl ?_
   refine ol_val (v := .bool false) (xr_move rfl rfl) rfl rfl rfl ?_
   refine ol_nilK ?_
   obtain ⟨t104, k105, j24⟩ := bs j24
   refine rd_drawL 37 44 [fun vz wz => vz = ((pt G1 8) : Value), fun vz wz => vz = (V0_0 : Value), fun vz wz => vz = (.int .i64 (List.length a0.Charts : Int) : Value), fun vz wz => vz = ((pt G1 1) : Value), fun vz wz => vz = ((pt G1 1) : Value), fun vz wz => vz = (aggV [(sI a0.Tickets.Geometry.Blocks), (sI a0.Tickets.Geometry.Slots), (sI a0.Tickets.Geometry.Gens)] : Value), fun vz wz => vz = (.int .i64 t104 : Value)] rfl ⟨fun _ _ _ h _ => h, fun _ _ _ h _ => h, fun _ _ _ h _ => h, fun _ _ _ h _ => h, fun _ _ _ h _ => h, fun _ _ _ h _ => h, fun _ _ _ h _ => h, trivial⟩ ?_ ?_
   ·refine ⟨?_, ?_, ?_, ?_, ?_, ?_, ?_, trivial⟩
    ·intro ρz wz hz hk hd
     exact sk_gval (v := (pt G1 8)) (xr_fieldAddr (p := 0) (q := 8) rfl fl110_3 ((hk 1 rfl).trans e1)) rfl rfl ((hk 89 rfl).trans rfl) rfl rfl
    ·intro ρz wz hz hk hd
     exact sk_gval (v := V0_0) (xr_load1 (v := V0_0) rfl ag25 (hd 37 rfl rfl 90 rfl) ((b2.gr hz).seg 8 rfl rfl)) rfl rfl ((hk 89 rfl).trans rfl) rfl rfl
    ·intro ρz wz hz hk hd
     exact sk_gval (v := .int .i64 (List.length a0.Charts : Int)) (xr_lenR rfl Try.underlying25 (hd 38 rfl rfl 91 rfl) (R0_0.gr (fB.gr hz))) rfl rfl ((hk 89 rfl).trans rfl) rfl rfl
    ·intro ρz wz hz hk hd
     exact sk_gval (v := (pt G1 1)) (xr_fieldAddr (p := 0) (q := 1) rfl fl110_1 ((hk 1 rfl).trans e1)) rfl rfl ((hk 89 rfl).trans rfl) rfl rfl
    ·intro ρz wz hz hk hd
     exact sk_gval (v := (pt G1 1)) (xr_fieldAddr (p := 1) (q := 0) rfl fl108_0 (hd 40 rfl rfl 93 rfl)) rfl rfl ((hk 89 rfl).trans rfl) rfl rfl
    ·intro ρz wz hz hk hd
     exact sk_gval (xr_loadS (ss := [(sI a0.Tickets.Geometry.Blocks), (sI a0.Tickets.Geometry.Slots), (sI a0.Tickets.Geometry.Gens)]) rfl ag106 sz106 rfl (hd 41 rfl rfl 94 rfl) ((b2.gr hz).segs 1 3 rfl)) rfl rfl ((hk 89 rfl).trans rfl) rfl rfl
    intro ρz wz hz hk hd
    refine sk_gop (opv_call rfl cal145 (ac (hd 42 rfl rfl 95 rfl) an) (geom_Charts.ok fu _ a0.Tickets.Geometry _ k105)) rfl rfl ((hk 89 rfl).trans rfl) rfl ?_
    rintro _ wy ⟨rfl, q106⟩
    exact ⟨rfl, q106⟩
   intro ρ107 w108 q109 hk hd
   have e1 := (hk 1 rfl).trans e1
   have e3 := (hk 3 rfl).trans e3
   have e89 := (hk 89 rfl).trans rfl
   have e92 := hd 39 rfl rfl 92 rfl
   have e96 := hd 43 rfl rfl 96 rfl
   have b2 := b2.gr q109
   have fB := fB.gr q109
   refine rd_seq (m := 44) (n := 46) rfl ?_
   refine ol_gval (v := .bool (!decide ((List.length a0.Charts : Int) = t104))) (xr_neI rfl Try.underlying3 rfl e92 e96) rfl rfl rfl rfl e89 rfl ?_
   refine ol_val (v := .bool (!decide ((List.length a0.Charts : Int) = t104))) (xr_pickF rfl e89 rfl rfl) rfl rfl rfl ?_
   refine ol_nilK ?_
   refine rd_end rfl ?_
   obtain rfl := Option.some.inj j24
   refine thn_i ?_
   exact ⟨e1, e3, rfl, (((q26.gr q82).gr q103).gr q109)⟩
  refine ol_gskip rfl rfl rfl rfl rfl c27 ?_
  refine ol_gskip rfl rfl rfl rfl rfl c27 ?_
  refine ol_gskip rfl rfl rfl rfl rfl c27 ?_
  refine ol_gskip rfl rfl rfl rfl rfl c27 ?_
  refine ol_val (v := .bool false) (xr_pickF rfl rfl c27 rfl) rfl rfl rfl ?_
  refine ol_val (v := .bool false) (xr_move rfl rfl) rfl rfl rfl ?_
  refine ol_gval (v := (pt G1 1)) (xr_fieldAddr (p := 0) (q := 1) rfl fl110_1 e1) rfl rfl rfl rfl rfl rfl ?_
  refine ol_gval (v := (pt G1 5)) (xr_fieldAddr (p := 1) (q := 4) rfl fl108_2 rfl) rfl rfl rfl rfl rfl rfl ?_
  refine ol_gval (v := .int .i64 a0.Tickets.High) (xr_load1 (v := .int .i64 a0.Tickets.High) rfl ag3 rfl (b2.seg 5 rfl rfl)) rfl rfl rfl rfl rfl rfl ?_
  refine ol_gval (v := .bool (decide (a0.Tickets.High > 0))) (xr_gtr rfl rfl rfl) rfl rfl rfl rfl rfl rfl ?_
  refine ol_gval (v := .bool (decide (a0.Tickets.High > 0))) (xr_move rfl rfl) rfl rfl rfl rfl rfl rfl ?_
  refine ol_nilK ?_
  rcases is j24 with ⟨c110, j24⟩ | ⟨c110, j24⟩
  ·skip
   refine rd_drawL 16 20 [fun vz wz => vz = (Value.func (.func 144) #[] #[(pt G1 0)] : Value), fun vz wz => vz = ((pt G1 1) : Value), fun vz wz => vz = ((pt G1 4) : Value), fun vz wz => vz = (.int .i64 a0.Tickets.Top : Value)] rfl ⟨fun _ _ _ h _ => h, fun _ _ _ h _ => h, fun _ _ _ h _ => h, fun _ _ _ h _ => h, trivial⟩ ?_ ?_
   ·refine ⟨?_, ?_, ?_, ?_, trivial⟩
    ·intro ρz wz hz hk hd
     exact sk_gval (v := Value.func (.func 144) #[] #[(pt G1 0)]) (xr_move rfl ((hk 3 rfl).trans rfl)) rfl rfl ((hk 68 rfl).trans rfl) c110 rfl
    ·intro ρz wz hz hk hd
     exact sk_gval (v := (pt G1 1)) (xr_fieldAddr (p := 0) (q := 1) rfl fl110_1 ((hk 1 rfl).trans e1)) rfl rfl ((hk 68 rfl).trans rfl) c110 rfl
    ·intro ρz wz hz hk hd
     exact sk_gval (v := (pt G1 4)) (xr_fieldAddr (p := 1) (q := 3) rfl fl108_1 (hd 17 rfl rfl 70 rfl)) rfl rfl ((hk 68 rfl).trans rfl) c110 rfl
    intro ρz wz hz hk hd
    exact sk_gval (v := .int .i64 a0.Tickets.Top) (xr_load1 (v := .int .i64 a0.Tickets.Top) rfl ag3 (hd 18 rfl rfl 71 rfl) ((b2.gr hz).seg 4 rfl rfl)) rfl rfl ((hk 68 rfl).trans rfl) c110 rfl
   intro ρ111 w112 q113 hk hd
   have e1 := (hk 1 rfl).trans e1
   have e3 := (hk 3 rfl).trans rfl
   have e63 := (hk 63 rfl).trans rfl
   have e68 := (hk 68 rfl).trans rfl
   have e69 := hd 16 rfl rfl 69 rfl
   have e72 := hd 19 rfl rfl 72 rfl
   have b2 := b2.gr q113
   have fB := fB.gr q113
   refine rd_seq (m := 20) (n := 29) rfl ?_
   obtain ⟨t114, k115, j24⟩ := bs j24
   refine ol_gop (opv_callV (C := [(pt G1 0)]) rfl e69 cal144 (ac e72 an) (super_Right_1__c.ok fu _ a0.Tickets.Top a0 G1 V0_0 (R0_0.gr fB) b2 _ k115)) rfl rfl rfl rfl e68 c110 ?_
   rintro _ w117 ⟨rfl, q116⟩
   have b2 := b2.gr q116
   have fB := fB.gr q116
   refine ol_gval (v := .bool (!t114)) (xr_not rfl rfl) rfl rfl rfl rfl e68 c110 ?_
   refine ol_gval (v := .bool (!t114)) (xr_pickT rfl e68 c110 rfl) rfl rfl rfl rfl e63 rfl ?_
   refine ol_val (v := .bool (!t114)) (xr_pickF rfl e63 rfl rfl) rfl rfl rfl ?_
   refine ol_val (v := .bool (!t114)) (xr_move rfl rfl) rfl rfl rfl ?_
   rcases is j24 with ⟨c118, j24⟩ | ⟨c118, j24⟩
   ·skip
    refine ol_gskip rfl rfl rfl rfl rfl c118 ?_
    refine ol_gskip rfl rfl rfl rfl rfl c118 ?_
    refine ol_gskip rfl rfl rfl rfl rfl c118 ?_
    refine ol_gskip rfl rfl rfl rfl rfl c118 ?_
    refine ol_nilK ?_
    refine rd_drawL 29 32 [fun vz _ => vz = undef, fun vz _ => vz = undef, fun vz _ => vz = undef] rfl ⟨fun _ _ _ h _ => h, fun _ _ _ h _ => h, fun _ _ _ h _ => h, trivial⟩ ?_ ?_
    ·refine ⟨?_, ?_, ?_, trivial⟩
     ·intro ρz wz hz hk hd
      exact sk_uskip rfl rfl ((hk 81 rfl).trans rfl) rfl
     ·intro ρz wz hz hk hd
      exact sk_uskip rfl rfl ((hk 81 rfl).trans rfl) rfl
     intro ρz wz hz hk hd
     exact sk_uskip rfl rfl ((hk 81 rfl).trans rfl) rfl
    intro ρ119 w120 q121 hk hd
    have e1 := (hk 1 rfl).trans e1
    have e3 := (hk 3 rfl).trans e3
    have e77 := (hk 77 rfl).trans rfl
    have e81 := (hk 81 rfl).trans rfl
    have e82 := hd 29 rfl rfl 82 rfl
    have e84 := hd 31 rfl rfl 84 rfl
    have b2 := b2.gr q121
    have fB := fB.gr q121
    refine rd_seq (m := 32) (n := 37) rfl ?_
    refine ol_uskip rfl rfl rfl rfl e81 ?_
    refine ol_uskip rfl rfl rfl rfl e81 ?_
    refine ol_gskip rfl rfl rfl rfl e77 c118 ?_
    refine ol_val (v := .bool true) (xr_pickT rfl e77 c118 rfl) rfl rfl rfl ?_
    refine ol_val (v := .bool true) (xr_move rfl rfl) rfl rfl rfl ?_
    refine ol_nilK ?_
    refine rd_drawL 37 44 [fun vz _ => vz = undef, fun vz _ => vz = undef, fun vz _ => vz = undef, fun vz _ => vz = undef, fun vz _ => vz = undef, fun vz _ => vz = undef, fun vz _ => vz = undef] rfl ⟨fun _ _ _ h _ => h, fun _ _ _ h _ => h, fun _ _ _ h _ => h, fun _ _ _ h _ => h, fun _ _ _ h _ => h, fun _ _ _ h _ => h, fun _ _ _ h _ => h, trivial⟩ ?_ ?_
    ·refine ⟨?_, ?_, ?_, ?_, ?_, ?_, ?_, trivial⟩
     ·intro ρz wz hz hk hd
      exact sk_skip rfl rfl ((hk 89 rfl).trans rfl) rfl rfl
     ·intro ρz wz hz hk hd
      exact sk_skip rfl rfl ((hk 89 rfl).trans rfl) rfl rfl
     ·intro ρz wz hz hk hd
      exact sk_skip rfl rfl ((hk 89 rfl).trans rfl) rfl rfl
     ·intro ρz wz hz hk hd
      exact sk_skip rfl rfl ((hk 89 rfl).trans rfl) rfl rfl
     ·intro ρz wz hz hk hd
      exact sk_skip rfl rfl ((hk 89 rfl).trans rfl) rfl rfl
     ·intro ρz wz hz hk hd
      exact sk_skip rfl rfl ((hk 89 rfl).trans rfl) rfl rfl
     intro ρz wz hz hk hd
     exact sk_skip rfl rfl ((hk 89 rfl).trans rfl) rfl rfl
    intro ρ122 w123 q124 hk hd
    have e1 := (hk 1 rfl).trans e1
    have e3 := (hk 3 rfl).trans e3
    have e89 := (hk 89 rfl).trans rfl
    have e92 := hd 39 rfl rfl 92 rfl
    have e96 := hd 43 rfl rfl 96 rfl
    have b2 := b2.gr q124
    have fB := fB.gr q124
    refine rd_seq (m := 44) (n := 46) rfl ?_
    refine ol_gskip rfl rfl rfl rfl e89 rfl ?_
    refine ol_val (v := .bool true) (xr_pickT rfl e89 rfl rfl) rfl rfl rfl ?_
    refine ol_nilK ?_
    refine rd_end rfl ?_
    obtain rfl := Option.some.inj j24
    refine thn_i ?_
    exact ⟨e1, e3, rfl, ((((q26.gr q113).gr q116).gr q121).gr q124)⟩
   refine ol_gval (v := (pt G1 7)) (xr_fieldAddr (p := 0) (q := 7) rfl fl110_2 e1) rfl rfl rfl rfl rfl c118 ?_
   refine ol_gval (v := .int .i64 a0.Dir) (xr_load1 (v := .int .i64 a0.Dir) rfl ag3 rfl (b2.seg 7 rfl rfl)) rfl rfl rfl rfl rfl c118 ?_
   refine ol_gval (v := .bool (!decide (a0.Dir = 0))) (xr_neI rfl Try.underlying3 rfl rfl rfl) rfl rfl rfl rfl rfl c118 ?_
   refine ol_gval (v := .bool (!decide (a0.Dir = 0))) (xr_move rfl rfl) rfl rfl rfl rfl rfl c118 ?_
   refine ol_nilK ?_
   rcases is j24 with ⟨c125, j24⟩ | ⟨c125, j24⟩
   ·skip
    refine rd_drawL 29 32 [fun vz wz => vz = (Value.func (.func 144) #[] #[(pt G1 0)] : Value), fun vz wz => vz = ((pt G1 7) : Value), fun vz wz => vz = (.int .i64 a0.Dir : Value)] rfl ⟨fun _ _ _ h _ => h, fun _ _ _ h _ => h, fun _ _ _ h _ => h, trivial⟩ ?_ ?_
    ·refine ⟨?_, ?_, ?_, trivial⟩
     ·intro ρz wz hz hk hd
      exact sk_gval (v := Value.func (.func 144) #[] #[(pt G1 0)]) (xr_move rfl ((hk 3 rfl).trans e3)) rfl rfl ((hk 81 rfl).trans rfl) c125 rfl
     ·intro ρz wz hz hk hd
      exact sk_gval (v := (pt G1 7)) (xr_fieldAddr (p := 0) (q := 7) rfl fl110_2 ((hk 1 rfl).trans e1)) rfl rfl ((hk 81 rfl).trans rfl) c125 rfl
     intro ρz wz hz hk hd
     exact sk_gval (v := .int .i64 a0.Dir) (xr_load1 (v := .int .i64 a0.Dir) rfl ag3 (hd 30 rfl rfl 83 rfl) ((b2.gr hz).seg 7 rfl rfl)) rfl rfl ((hk 81 rfl).trans rfl) c125 rfl
    intro ρ126 w127 q128 hk hd
    have e1 := (hk 1 rfl).trans e1
    have e3 := (hk 3 rfl).trans e3
    have e77 := (hk 77 rfl).trans rfl
    have e81 := (hk 81 rfl).trans rfl
    have e82 := hd 29 rfl rfl 82 rfl
    have e84 := hd 31 rfl rfl 84 rfl
    have b2 := b2.gr q128
    have fB := fB.gr q128
    refine rd_seq (m := 32) (n := 37) rfl ?_
    obtain ⟨t129, k130, j24⟩ := bs j24
    refine ol_gop (opv_callV (C := [(pt G1 0)]) rfl e82 cal144 (ac e84 an) (super_Right_1__c.ok fu _ a0.Dir a0 G1 V0_0 (R0_0.gr fB) b2 _ k130)) rfl rfl rfl rfl e81 c125 ?_
    rintro _ w132 ⟨rfl, q131⟩
    have b2 := b2.gr q131
    have fB := fB.gr q131
    refine ol_gval (v := .bool (!t129)) (xr_not rfl rfl) rfl rfl rfl rfl e81 c125 ?_
    refine ol_gval (v := .bool (!t129)) (xr_pickT rfl e81 c125 rfl) rfl rfl rfl rfl e77 c118 ?_
    refine ol_val (v := .bool (!t129)) (xr_pickF rfl e77 c118 rfl) rfl rfl rfl ?_
    refine ol_val (v := .bool (!t129)) (xr_move rfl rfl) rfl rfl rfl ?_
    refine ol_nilK ?_
    rcases is j24 with ⟨c133, j24⟩ | ⟨c133, j24⟩
    ·skip
     refine rd_drawL 37 44 [fun vz _ => vz = undef, fun vz _ => vz = undef, fun vz _ => vz = undef, fun vz _ => vz = undef, fun vz _ => vz = undef, fun vz _ => vz = undef, fun vz _ => vz = undef] rfl ⟨fun _ _ _ h _ => h, fun _ _ _ h _ => h, fun _ _ _ h _ => h, fun _ _ _ h _ => h, fun _ _ _ h _ => h, fun _ _ _ h _ => h, fun _ _ _ h _ => h, trivial⟩ ?_ ?_
     ·refine ⟨?_, ?_, ?_, ?_, ?_, ?_, ?_, trivial⟩
      ·intro ρz wz hz hk hd
       exact sk_skip rfl rfl ((hk 89 rfl).trans rfl) c133 rfl
      ·intro ρz wz hz hk hd
       exact sk_skip rfl rfl ((hk 89 rfl).trans rfl) c133 rfl
      ·intro ρz wz hz hk hd
       exact sk_skip rfl rfl ((hk 89 rfl).trans rfl) c133 rfl
      ·intro ρz wz hz hk hd
       exact sk_skip rfl rfl ((hk 89 rfl).trans rfl) c133 rfl
      ·intro ρz wz hz hk hd
       exact sk_skip rfl rfl ((hk 89 rfl).trans rfl) c133 rfl
      ·intro ρz wz hz hk hd
       exact sk_skip rfl rfl ((hk 89 rfl).trans rfl) c133 rfl
      intro ρz wz hz hk hd
      exact sk_skip rfl rfl ((hk 89 rfl).trans rfl) c133 rfl
     intro ρ134 w135 q136 hk hd
     have e1 := (hk 1 rfl).trans e1
     have e3 := (hk 3 rfl).trans e3
     have e89 := (hk 89 rfl).trans rfl
     have e92 := hd 39 rfl rfl 92 rfl
     have e96 := hd 43 rfl rfl 96 rfl
     have b2 := b2.gr q136
     have fB := fB.gr q136
     refine rd_seq (m := 44) (n := 46) rfl ?_
     refine ol_gskip rfl rfl rfl rfl e89 c133 ?_
     refine ol_val (v := .bool true) (xr_pickT rfl e89 c133 rfl) rfl rfl rfl ?_
     refine ol_nilK ?_
     refine rd_end rfl ?_
     obtain rfl := Option.some.inj j24
     refine thn_i ?_
     exact ⟨e1, e3, rfl, (((((q26.gr q113).gr q116).gr q128).gr q131).gr q136)⟩
    obtain ⟨t137, k138, j24⟩ := bs j24
    refine rd_drawL 37 44 [fun vz wz => vz = ((pt G1 8) : Value), fun vz wz => vz = (V0_0 : Value), fun vz wz => vz = (.int .i64 (List.length a0.Charts : Int) : Value), fun vz wz => vz = ((pt G1 1) : Value), fun vz wz => vz = ((pt G1 1) : Value), fun vz wz => vz = (aggV [(sI a0.Tickets.Geometry.Blocks), (sI a0.Tickets.Geometry.Slots), (sI a0.Tickets.Geometry.Gens)] : Value), fun vz wz => vz = (.int .i64 t137 : Value)] rfl ⟨fun _ _ _ h _ => h, fun _ _ _ h _ => h, fun _ _ _ h _ => h, fun _ _ _ h _ => h, fun _ _ _ h _ => h, fun _ _ _ h _ => h, fun _ _ _ h _ => h, trivial⟩ ?_ ?_
    ·refine ⟨?_, ?_, ?_, ?_, ?_, ?_, ?_, trivial⟩
     ·intro ρz wz hz hk hd
      exact sk_gval (v := (pt G1 8)) (xr_fieldAddr (p := 0) (q := 8) rfl fl110_3 ((hk 1 rfl).trans e1)) rfl rfl ((hk 89 rfl).trans rfl) c133 rfl
     ·intro ρz wz hz hk hd
      exact sk_gval (v := V0_0) (xr_load1 (v := V0_0) rfl ag25 (hd 37 rfl rfl 90 rfl) ((b2.gr hz).seg 8 rfl rfl)) rfl rfl ((hk 89 rfl).trans rfl) c133 rfl
     ·intro ρz wz hz hk hd
      exact sk_gval (v := .int .i64 (List.length a0.Charts : Int)) (xr_lenR rfl Try.underlying25 (hd 38 rfl rfl 91 rfl) (R0_0.gr (fB.gr hz))) rfl rfl ((hk 89 rfl).trans rfl) c133 rfl
     ·intro ρz wz hz hk hd
      exact sk_gval (v := (pt G1 1)) (xr_fieldAddr (p := 0) (q := 1) rfl fl110_1 ((hk 1 rfl).trans e1)) rfl rfl ((hk 89 rfl).trans rfl) c133 rfl
     ·intro ρz wz hz hk hd
      exact sk_gval (v := (pt G1 1)) (xr_fieldAddr (p := 1) (q := 0) rfl fl108_0 (hd 40 rfl rfl 93 rfl)) rfl rfl ((hk 89 rfl).trans rfl) c133 rfl
     ·intro ρz wz hz hk hd
      exact sk_gval (xr_loadS (ss := [(sI a0.Tickets.Geometry.Blocks), (sI a0.Tickets.Geometry.Slots), (sI a0.Tickets.Geometry.Gens)]) rfl ag106 sz106 rfl (hd 41 rfl rfl 94 rfl) ((b2.gr hz).segs 1 3 rfl)) rfl rfl ((hk 89 rfl).trans rfl) c133 rfl
     intro ρz wz hz hk hd
     refine sk_gop (opv_call rfl cal145 (ac (hd 42 rfl rfl 95 rfl) an) (geom_Charts.ok fu _ a0.Tickets.Geometry _ k138)) rfl rfl ((hk 89 rfl).trans rfl) c133 ?_
     rintro _ wy ⟨rfl, q139⟩
     exact ⟨rfl, q139⟩
    intro ρ140 w141 q142 hk hd
    have e1 := (hk 1 rfl).trans e1
    have e3 := (hk 3 rfl).trans e3
    have e89 := (hk 89 rfl).trans rfl
    have e92 := hd 39 rfl rfl 92 rfl
    have e96 := hd 43 rfl rfl 96 rfl
    have b2 := b2.gr q142
    have fB := fB.gr q142
    refine rd_seq (m := 44) (n := 46) rfl ?_
    refine ol_gval (v := .bool (!decide ((List.length a0.Charts : Int) = t137))) (xr_neI rfl Try.underlying3 rfl e92 e96) rfl rfl rfl rfl e89 c133 ?_
    refine ol_val (v := .bool (!decide ((List.length a0.Charts : Int) = t137))) (xr_pickF rfl e89 c133 rfl) rfl rfl rfl ?_
    refine ol_nilK ?_
    refine rd_end rfl ?_
    obtain rfl := Option.some.inj j24
    refine thn_i ?_
    exact ⟨e1, e3, rfl, (((((q26.gr q113).gr q116).gr q128).gr q131).gr q142)⟩
   refine rd_drawL 29 32 [fun vz _ => vz = undef, fun vz _ => vz = undef, fun vz _ => vz = undef] rfl ⟨fun _ _ _ h _ => h, fun _ _ _ h _ => h, fun _ _ _ h _ => h, trivial⟩ ?_ ?_
   ·refine ⟨?_, ?_, ?_, trivial⟩
    ·intro ρz wz hz hk hd
     exact sk_skip rfl rfl ((hk 81 rfl).trans rfl) c125 rfl
    ·intro ρz wz hz hk hd
     exact sk_skip rfl rfl ((hk 81 rfl).trans rfl) c125 rfl
    intro ρz wz hz hk hd
    exact sk_skip rfl rfl ((hk 81 rfl).trans rfl) c125 rfl
   intro ρ143 w144 q145 hk hd
   have e1 := (hk 1 rfl).trans e1
   have e3 := (hk 3 rfl).trans e3
   have e77 := (hk 77 rfl).trans rfl
   have e81 := (hk 81 rfl).trans rfl
   have e82 := hd 29 rfl rfl 82 rfl
   have e84 := hd 31 rfl rfl 84 rfl
   have b2 := b2.gr q145
   have fB := fB.gr q145
   refine rd_seq (m := 32) (n := 37) rfl ?_
   refine ol_gskip rfl rfl rfl rfl e81 c125 ?_
   refine ol_gskip rfl rfl rfl rfl e81 c125 ?_
   refine ol_gval (v := .bool false) (xr_pickF rfl e81 c125 rfl) rfl rfl rfl rfl e77 c118 ?_
   refine ol_val (v := .bool false) (xr_pickF rfl e77 c118 rfl) rfl rfl rfl ?_
   refine ol_val (v := .bool false) (xr_move rfl rfl) rfl rfl rfl ?_
   refine ol_nilK ?_
   obtain ⟨t146, k147, j24⟩ := bs j24
   refine rd_drawL 37 44 [fun vz wz => vz = ((pt G1 8) : Value), fun vz wz => vz = (V0_0 : Value), fun vz wz => vz = (.int .i64 (List.length a0.Charts : Int) : Value), fun vz wz => vz = ((pt G1 1) : Value), fun vz wz => vz = ((pt G1 1) : Value), fun vz wz => vz = (aggV [(sI a0.Tickets.Geometry.Blocks), (sI a0.Tickets.Geometry.Slots), (sI a0.Tickets.Geometry.Gens)] : Value), fun vz wz => vz = (.int .i64 t146 : Value)] rfl ⟨fun _ _ _ h _ => h, fun _ _ _ h _ => h, fun _ _ _ h _ => h, fun _ _ _ h _ => h, fun _ _ _ h _ => h, fun _ _ _ h _ => h, fun _ _ _ h _ => h, trivial⟩ ?_ ?_
   ·refine ⟨?_, ?_, ?_, ?_, ?_, ?_, ?_, trivial⟩
    ·intro ρz wz hz hk hd
     exact sk_gval (v := (pt G1 8)) (xr_fieldAddr (p := 0) (q := 8) rfl fl110_3 ((hk 1 rfl).trans e1)) rfl rfl ((hk 89 rfl).trans rfl) rfl rfl
    ·intro ρz wz hz hk hd
     exact sk_gval (v := V0_0) (xr_load1 (v := V0_0) rfl ag25 (hd 37 rfl rfl 90 rfl) ((b2.gr hz).seg 8 rfl rfl)) rfl rfl ((hk 89 rfl).trans rfl) rfl rfl
    ·intro ρz wz hz hk hd
     exact sk_gval (v := .int .i64 (List.length a0.Charts : Int)) (xr_lenR rfl Try.underlying25 (hd 38 rfl rfl 91 rfl) (R0_0.gr (fB.gr hz))) rfl rfl ((hk 89 rfl).trans rfl) rfl rfl
    ·intro ρz wz hz hk hd
     exact sk_gval (v := (pt G1 1)) (xr_fieldAddr (p := 0) (q := 1) rfl fl110_1 ((hk 1 rfl).trans e1)) rfl rfl ((hk 89 rfl).trans rfl) rfl rfl
    ·intro ρz wz hz hk hd
     exact sk_gval (v := (pt G1 1)) (xr_fieldAddr (p := 1) (q := 0) rfl fl108_0 (hd 40 rfl rfl 93 rfl)) rfl rfl ((hk 89 rfl).trans rfl) rfl rfl
    ·intro ρz wz hz hk hd
     exact sk_gval (xr_loadS (ss := [(sI a0.Tickets.Geometry.Blocks), (sI a0.Tickets.Geometry.Slots), (sI a0.Tickets.Geometry.Gens)]) rfl ag106 sz106 rfl (hd 41 rfl rfl 94 rfl) ((b2.gr hz).segs 1 3 rfl)) rfl rfl ((hk 89 rfl).trans rfl) rfl rfl
    intro ρz wz hz hk hd
    refine sk_gop (opv_call rfl cal145 (ac (hd 42 rfl rfl 95 rfl) an) (geom_Charts.ok fu _ a0.Tickets.Geometry _ k147)) rfl rfl ((hk 89 rfl).trans rfl) rfl ?_
    rintro _ wy ⟨rfl, q148⟩
    exact ⟨rfl, q148⟩
   intro ρ149 w150 q151 hk hd
   have e1 := (hk 1 rfl).trans e1
   have e3 := (hk 3 rfl).trans e3
   have e89 := (hk 89 rfl).trans rfl
   have e92 := hd 39 rfl rfl 92 rfl
   have e96 := hd 43 rfl rfl 96 rfl
   have b2 := b2.gr q151
   have fB := fB.gr q151
   refine rd_seq (m := 44) (n := 46) rfl ?_
   refine ol_gval (v := .bool (!decide ((List.length a0.Charts : Int) = t146))) (xr_neI rfl Try.underlying3 rfl e92 e96) rfl rfl rfl rfl e89 rfl ?_
   refine ol_val (v := .bool (!decide ((List.length a0.Charts : Int) = t146))) (xr_pickF rfl e89 rfl rfl) rfl rfl rfl ?_
   refine ol_nilK ?_
   refine rd_end rfl ?_
   obtain rfl := Option.some.inj j24
   refine thn_i ?_
   exact ⟨e1, e3, rfl, ((((q26.gr q113).gr q116).gr q145).gr q151)⟩
  refine rd_drawL 16 20 [fun vz _ => vz = undef, fun vz _ => vz = undef, fun vz _ => vz = undef, fun vz _ => vz = undef] rfl ⟨fun _ _ _ h _ => h, fun _ _ _ h _ => h, fun _ _ _ h _ => h, fun _ _ _ h _ => h, trivial⟩ ?_ ?_
  ·refine ⟨?_, ?_, ?_, ?_, trivial⟩
   ·intro ρz wz hz hk hd
    exact sk_skip rfl rfl ((hk 68 rfl).trans rfl) c110 rfl
   ·intro ρz wz hz hk hd
    exact sk_skip rfl rfl ((hk 68 rfl).trans rfl) c110 rfl
   ·intro ρz wz hz hk hd
    exact sk_skip rfl rfl ((hk 68 rfl).trans rfl) c110 rfl
   intro ρz wz hz hk hd
   exact sk_skip rfl rfl ((hk 68 rfl).trans rfl) c110 rfl
  intro ρ152 w153 q154 hk hd
  have e1 := (hk 1 rfl).trans e1
  have e3 := (hk 3 rfl).trans rfl
  have e63 := (hk 63 rfl).trans rfl
  have e68 := (hk 68 rfl).trans rfl
  have e69 := hd 16 rfl rfl 69 rfl
  have e72 := hd 19 rfl rfl 72 rfl
  have b2 := b2.gr q154
  have fB := fB.gr q154
  refine rd_seq (m := 20) (n := 29) rfl ?_
  refine ol_gskip rfl rfl rfl rfl e68 c110 ?_
  refine ol_gskip rfl rfl rfl rfl e68 c110 ?_
  refine ol_gval (v := .bool false) (xr_pickF rfl e68 c110 rfl) rfl rfl rfl rfl e63 rfl ?_
  refine ol_val (v := .bool false) (xr_pickF rfl e63 rfl rfl) rfl rfl rfl ?_
  refine ol_val (v := .bool false) (xr_move rfl rfl) rfl rfl rfl ?_
  refine ol_gval (v := (pt G1 7)) (xr_fieldAddr (p := 0) (q := 7) rfl fl110_2 e1) rfl rfl rfl rfl rfl rfl ?_
  refine ol_gval (v := .int .i64 a0.Dir) (xr_load1 (v := .int .i64 a0.Dir) rfl ag3 rfl (b2.seg 7 rfl rfl)) rfl rfl rfl rfl rfl rfl ?_
  refine ol_gval (v := .bool (!decide (a0.Dir = 0))) (xr_neI rfl Try.underlying3 rfl rfl rfl) rfl rfl rfl rfl rfl rfl ?_
  refine ol_gval (v := .bool (!decide (a0.Dir = 0))) (xr_move rfl rfl) rfl rfl rfl rfl rfl rfl ?_
  refine ol_nilK ?_
  rcases is j24 with ⟨c155, j24⟩ | ⟨c155, j24⟩
  ·skip
   refine rd_drawL 29 32 [fun vz wz => vz = (Value.func (.func 144) #[] #[(pt G1 0)] : Value), fun vz wz => vz = ((pt G1 7) : Value), fun vz wz => vz = (.int .i64 a0.Dir : Value)] rfl ⟨fun _ _ _ h _ => h, fun _ _ _ h _ => h, fun _ _ _ h _ => h, trivial⟩ ?_ ?_
   ·refine ⟨?_, ?_, ?_, trivial⟩
    ·intro ρz wz hz hk hd
     exact sk_gval (v := Value.func (.func 144) #[] #[(pt G1 0)]) (xr_move rfl ((hk 3 rfl).trans e3)) rfl rfl ((hk 81 rfl).trans rfl) c155 rfl
    ·intro ρz wz hz hk hd
     exact sk_gval (v := (pt G1 7)) (xr_fieldAddr (p := 0) (q := 7) rfl fl110_2 ((hk 1 rfl).trans e1)) rfl rfl ((hk 81 rfl).trans rfl) c155 rfl
    intro ρz wz hz hk hd
    exact sk_gval (v := .int .i64 a0.Dir) (xr_load1 (v := .int .i64 a0.Dir) rfl ag3 (hd 30 rfl rfl 83 rfl) ((b2.gr hz).seg 7 rfl rfl)) rfl rfl ((hk 81 rfl).trans rfl) c155 rfl
   intro ρ156 w157 q158 hk hd
   have e1 := (hk 1 rfl).trans e1
   have e3 := (hk 3 rfl).trans e3
   have e77 := (hk 77 rfl).trans rfl
   have e81 := (hk 81 rfl).trans rfl
   have e82 := hd 29 rfl rfl 82 rfl
   have e84 := hd 31 rfl rfl 84 rfl
   have b2 := b2.gr q158
   have fB := fB.gr q158
   refine rd_seq (m := 32) (n := 37) rfl ?_
   obtain ⟨t159, k160, j24⟩ := bs j24
   refine ol_gop (opv_callV (C := [(pt G1 0)]) rfl e82 cal144 (ac e84 an) (super_Right_1__c.ok fu _ a0.Dir a0 G1 V0_0 (R0_0.gr fB) b2 _ k160)) rfl rfl rfl rfl e81 c155 ?_
   rintro _ w162 ⟨rfl, q161⟩
   have b2 := b2.gr q161
   have fB := fB.gr q161
   refine ol_gval (v := .bool (!t159)) (xr_not rfl rfl) rfl rfl rfl rfl e81 c155 ?_
   refine ol_gval (v := .bool (!t159)) (xr_pickT rfl e81 c155 rfl) rfl rfl rfl rfl e77 rfl ?_
   refine ol_val (v := .bool (!t159)) (xr_pickF rfl e77 rfl rfl) rfl rfl rfl ?_
   refine ol_val (v := .bool (!t159)) (xr_move rfl rfl) rfl rfl rfl ?_
   refine ol_nilK ?_
   rcases is j24 with ⟨c163, j24⟩ | ⟨c163, j24⟩
   ·skip
    refine rd_drawL 37 44 [fun vz _ => vz = undef, fun vz _ => vz = undef, fun vz _ => vz = undef, fun vz _ => vz = undef, fun vz _ => vz = undef, fun vz _ => vz = undef, fun vz _ => vz = undef] rfl ⟨fun _ _ _ h _ => h, fun _ _ _ h _ => h, fun _ _ _ h _ => h, fun _ _ _ h _ => h, fun _ _ _ h _ => h, fun _ _ _ h _ => h, fun _ _ _ h _ => h, trivial⟩ ?_ ?_
    ·refine ⟨?_, ?_, ?_, ?_, ?_, ?_, ?_, trivial⟩
     ·intro ρz wz hz hk hd
      exact sk_skip rfl rfl ((hk 89 rfl).trans rfl) c163 rfl
     ·intro ρz wz hz hk hd
      exact sk_skip rfl rfl ((hk 89 rfl).trans rfl) c163 rfl
     ·intro ρz wz hz hk hd
      exact sk_skip rfl rfl ((hk 89 rfl).trans rfl) c163 rfl
     ·intro ρz wz hz hk hd
      exact sk_skip rfl rfl ((hk 89 rfl).trans rfl) c163 rfl
     ·intro ρz wz hz hk hd
      exact sk_skip rfl rfl ((hk 89 rfl).trans rfl) c163 rfl
     ·intro ρz wz hz hk hd
      exact sk_skip rfl rfl ((hk 89 rfl).trans rfl) c163 rfl
     intro ρz wz hz hk hd
     exact sk_skip rfl rfl ((hk 89 rfl).trans rfl) c163 rfl
    intro ρ164 w165 q166 hk hd
    have e1 := (hk 1 rfl).trans e1
    have e3 := (hk 3 rfl).trans e3
    have e89 := (hk 89 rfl).trans rfl
    have e92 := hd 39 rfl rfl 92 rfl
    have e96 := hd 43 rfl rfl 96 rfl
    have b2 := b2.gr q166
    have fB := fB.gr q166
    refine rd_seq (m := 44) (n := 46) rfl ?_
    refine ol_gskip rfl rfl rfl rfl e89 c163 ?_
    refine ol_val (v := .bool true) (xr_pickT rfl e89 c163 rfl) rfl rfl rfl ?_
    refine ol_nilK ?_
    refine rd_end rfl ?_
    obtain rfl := Option.some.inj j24
    refine thn_i ?_
    exact ⟨e1, e3, rfl, ((((q26.gr q154).gr q158).gr q161).gr q166)⟩
   obtain ⟨t167, k168, j24⟩ := bs j24
   refine rd_drawL 37 44 [fun vz wz => vz = ((pt G1 8) : Value), fun vz wz => vz = (V0_0 : Value), fun vz wz => vz = (.int .i64 (List.length a0.Charts : Int) : Value), fun vz wz => vz = ((pt G1 1) : Value), fun vz wz => vz = ((pt G1 1) : Value), fun vz wz => vz = (aggV [(sI a0.Tickets.Geometry.Blocks), (sI a0.Tickets.Geometry.Slots), (sI a0.Tickets.Geometry.Gens)] : Value), fun vz wz => vz = (.int .i64 t167 : Value)] rfl ⟨fun _ _ _ h _ => h, fun _ _ _ h _ => h, fun _ _ _ h _ => h, fun _ _ _ h _ => h, fun _ _ _ h _ => h, fun _ _ _ h _ => h, fun _ _ _ h _ => h, trivial⟩ ?_ ?_
   ·refine ⟨?_, ?_, ?_, ?_, ?_, ?_, ?_, trivial⟩
    ·intro ρz wz hz hk hd
     exact sk_gval (v := (pt G1 8)) (xr_fieldAddr (p := 0) (q := 8) rfl fl110_3 ((hk 1 rfl).trans e1)) rfl rfl ((hk 89 rfl).trans rfl) c163 rfl
    ·intro ρz wz hz hk hd
     exact sk_gval (v := V0_0) (xr_load1 (v := V0_0) rfl ag25 (hd 37 rfl rfl 90 rfl) ((b2.gr hz).seg 8 rfl rfl)) rfl rfl ((hk 89 rfl).trans rfl) c163 rfl
    ·intro ρz wz hz hk hd
     exact sk_gval (v := .int .i64 (List.length a0.Charts : Int)) (xr_lenR rfl Try.underlying25 (hd 38 rfl rfl 91 rfl) (R0_0.gr (fB.gr hz))) rfl rfl ((hk 89 rfl).trans rfl) c163 rfl
    ·intro ρz wz hz hk hd
     exact sk_gval (v := (pt G1 1)) (xr_fieldAddr (p := 0) (q := 1) rfl fl110_1 ((hk 1 rfl).trans e1)) rfl rfl ((hk 89 rfl).trans rfl) c163 rfl
    ·intro ρz wz hz hk hd
     exact sk_gval (v := (pt G1 1)) (xr_fieldAddr (p := 1) (q := 0) rfl fl108_0 (hd 40 rfl rfl 93 rfl)) rfl rfl ((hk 89 rfl).trans rfl) c163 rfl
    ·intro ρz wz hz hk hd
     exact sk_gval (xr_loadS (ss := [(sI a0.Tickets.Geometry.Blocks), (sI a0.Tickets.Geometry.Slots), (sI a0.Tickets.Geometry.Gens)]) rfl ag106 sz106 rfl (hd 41 rfl rfl 94 rfl) ((b2.gr hz).segs 1 3 rfl)) rfl rfl ((hk 89 rfl).trans rfl) c163 rfl
    intro ρz wz hz hk hd
    refine sk_gop (opv_call rfl cal145 (ac (hd 42 rfl rfl 95 rfl) an) (geom_Charts.ok fu _ a0.Tickets.Geometry _ k168)) rfl rfl ((hk 89 rfl).trans rfl) c163 ?_
    rintro _ wy ⟨rfl, q169⟩
    exact ⟨rfl, q169⟩
   intro ρ170 w171 q172 hk hd
   have e1 := (hk 1 rfl).trans e1
   have e3 := (hk 3 rfl).trans e3
   have e89 := (hk 89 rfl).trans rfl
   have e92 := hd 39 rfl rfl 92 rfl
   have e96 := hd 43 rfl rfl 96 rfl
   have b2 := b2.gr q172
   have fB := fB.gr q172
   refine rd_seq (m := 44) (n := 46) rfl ?_
   refine ol_gval (v := .bool (!decide ((List.length a0.Charts : Int) = t167))) (xr_neI rfl Try.underlying3 rfl e92 e96) rfl rfl rfl rfl e89 c163 ?_
   refine ol_val (v := .bool (!decide ((List.length a0.Charts : Int) = t167))) (xr_pickF rfl e89 c163 rfl) rfl rfl rfl ?_
   refine ol_nilK ?_
   refine rd_end rfl ?_
   obtain rfl := Option.some.inj j24
   refine thn_i ?_
   exact ⟨e1, e3, rfl, ((((q26.gr q154).gr q158).gr q161).gr q172)⟩
  refine rd_drawL 29 32 [fun vz _ => vz = undef, fun vz _ => vz = undef, fun vz _ => vz = undef] rfl ⟨fun _ _ _ h _ => h, fun _ _ _ h _ => h, fun _ _ _ h _ => h, trivial⟩ ?_ ?_
  ·refine ⟨?_, ?_, ?_, trivial⟩
   ·intro ρz wz hz hk hd
    exact sk_skip rfl rfl ((hk 81 rfl).trans rfl) c155 rfl
   ·intro ρz wz hz hk hd
    exact sk_skip rfl rfl ((hk 81 rfl).trans rfl) c155 rfl
   intro ρz wz hz hk hd
   exact sk_skip rfl rfl ((hk 81 rfl).trans rfl) c155 rfl
  intro ρ173 w174 q175 hk hd
  have e1 := (hk 1 rfl).trans e1
  have e3 := (hk 3 rfl).trans e3
  have e77 := (hk 77 rfl).trans rfl
  have e81 := (hk 81 rfl).trans rfl
  have e82 := hd 29 rfl rfl 82 rfl
  have e84 := hd 31 rfl rfl 84 rfl
  have b2 := b2.gr q175
  have fB := fB.gr q175
  refine rd_seq (m := 32) (n := 37) rfl ?_
  refine ol_gskip rfl rfl rfl rfl e81 c155 ?_
  refine ol_gskip rfl rfl rfl rfl e81 c155 ?_
  refine ol_gval (v := .bool false) (xr_pickF rfl e81 c155 rfl) rfl rfl rfl rfl e77 rfl ?_
  refine ol_val (v := .bool false) (xr_pickF rfl e77 rfl rfl) rfl rfl rfl ?_
  refine ol_val (v := .bool false) (xr_move rfl rfl) rfl rfl rfl ?_
  refine ol_nilK ?_
  obtain ⟨t176, k177, j24⟩ := bs j24
  refine rd_drawL 37 44 [fun vz wz => vz = ((pt G1 8) : Value), fun vz wz => vz = (V0_0 : Value), fun vz wz => vz = (.int .i64 (List.length a0.Charts : Int) : Value), fun vz wz => vz = ((pt G1 1) : Value), fun vz wz => vz = ((pt G1 1) : Value), fun vz wz => vz = (aggV [(sI a0.Tickets.Geometry.Blocks), (sI a0.Tickets.Geometry.Slots), (sI a0.Tickets.Geometry.Gens)] : Value), fun vz wz => vz = (.int .i64 t176 : Value)] rfl ⟨fun _ _ _ h _ => h, fun _ _ _ h _ => h, fun _ _ _ h _ => h, fun _ _ _ h _ => h, fun _ _ _ h _ => h, fun _ _ _ h _ => h, fun _ _ _ h _ => h, trivial⟩ ?_ ?_
  ·refine ⟨?_, ?_, ?_, ?_, ?_, ?_, ?_, trivial⟩
   ·intro ρz wz hz hk hd
    exact sk_gval (v := (pt G1 8)) (xr_fieldAddr (p := 0) (q := 8) rfl fl110_3 ((hk 1 rfl).trans e1)) rfl rfl ((hk 89 rfl).trans rfl) rfl rfl
   ·intro ρz wz hz hk hd
    exact sk_gval (v := V0_0) (xr_load1 (v := V0_0) rfl ag25 (hd 37 rfl rfl 90 rfl) ((b2.gr hz).seg 8 rfl rfl)) rfl rfl ((hk 89 rfl).trans rfl) rfl rfl
   ·intro ρz wz hz hk hd
    exact sk_gval (v := .int .i64 (List.length a0.Charts : Int)) (xr_lenR rfl Try.underlying25 (hd 38 rfl rfl 91 rfl) (R0_0.gr (fB.gr hz))) rfl rfl ((hk 89 rfl).trans rfl) rfl rfl
   ·intro ρz wz hz hk hd
    exact sk_gval (v := (pt G1 1)) (xr_fieldAddr (p := 0) (q := 1) rfl fl110_1 ((hk 1 rfl).trans e1)) rfl rfl ((hk 89 rfl).trans rfl) rfl rfl
   ·intro ρz wz hz hk hd
    exact sk_gval (v := (pt G1 1)) (xr_fieldAddr (p := 1) (q := 0) rfl fl108_0 (hd 40 rfl rfl 93 rfl)) rfl rfl ((hk 89 rfl).trans rfl) rfl rfl
   ·intro ρz wz hz hk hd
    exact sk_gval (xr_loadS (ss := [(sI a0.Tickets.Geometry.Blocks), (sI a0.Tickets.Geometry.Slots), (sI a0.Tickets.Geometry.Gens)]) rfl ag106 sz106 rfl (hd 41 rfl rfl 94 rfl) ((b2.gr hz).segs 1 3 rfl)) rfl rfl ((hk 89 rfl).trans rfl) rfl rfl
   intro ρz wz hz hk hd
   refine sk_gop (opv_call rfl cal145 (ac (hd 42 rfl rfl 95 rfl) an) (geom_Charts.ok fu _ a0.Tickets.Geometry _ k177)) rfl rfl ((hk 89 rfl).trans rfl) rfl ?_
   rintro _ wy ⟨rfl, q178⟩
   exact ⟨rfl, q178⟩
  intro ρ179 w180 q181 hk hd
  have e1 := (hk 1 rfl).trans e1
  have e3 := (hk 3 rfl).trans e3
  have e89 := (hk 89 rfl).trans rfl
  have e92 := hd 39 rfl rfl 92 rfl
  have e96 := hd 43 rfl rfl 96 rfl
  have b2 := b2.gr q181
  have fB := fB.gr q181
  refine rd_seq (m := 44) (n := 46) rfl ?_
  refine ol_gval (v := .bool (!decide ((List.length a0.Charts : Int) = t176))) (xr_neI rfl Try.underlying3 rfl e92 e96) rfl rfl rfl rfl e89 rfl ?_
  refine ol_val (v := .bool (!decide ((List.length a0.Charts : Int) = t176))) (xr_pickF rfl e89 rfl rfl) rfl rfl rfl ?_
  refine ol_nilK ?_
  refine rd_end rfl ?_
  obtain rfl := Option.some.inj j24
  refine thn_i ?_
  exact ⟨e1, e3, rfl, (((q26.gr q154).gr q175).gr q181)⟩
 rintro ρ182 w183 ⟨e1, e3, e98, q184⟩
 have b2 := b2.gr q184
 have fB := fB.gr q184
 rcases is h with ⟨c185, h⟩ | ⟨c185, h⟩
 ·refine cw_condT e98 c185 ?_
  refine cw_seq ?_
  refine cw_region ?_
  refine ol_val (v := .bool false) (xr_assign rfl rfl) rfl rfl rfl ?_
  refine ol_nil ?_
  refine cw_ret ?_
  repeat (first | with_reducible refine thn_r ?_ | with_reducible refine blk_r ?_)
  obtain rfl := Option.some.inj h
  refine fin_ret1 Try.results132 rfl ?_
  exact ⟨_, rfl, rfl, fB⟩
 refine cw_condF e98 c185 ?_
 refine cw_skip ?_
 refine cw_seq ?_
 refine cw_seq ?_
 refine cw_region ?_
 refine ol_val (v := (pt G1 8)) (xr_fieldAddr (p := 0) (q := 8) rfl fl110_3 e1) rfl rfl rfl ?_
 refine ol_val (v := V0_0) (xr_load1 (v := V0_0) rfl ag25 rfl (b2.seg 8 rfl rfl)) rfl rfl rfl ?_
 refine ol_val (v := .int .i64 (List.length a0.Charts : Int)) (xr_lenR rfl Try.underlying25 rfl (R0_0.gr fB)) rfl rfl rfl ?_
 refine ol_val (v := .int .i64 0) (xr_move rfl rfl) rfl rfl rfl ?_
 refine ol_nil ?_
 obtain ⟨e187, l188, h189⟩ := bs h
 refine cw_mid (fun ρ' w' => ∃ x190, e187 = Sum.inr x190 ∧ Gr w w') ?_ ?_
 ·refine cw_block ?_
  refine cw_round (fun (s186 : Int) ρ' w' => ρ' 1 = (pt G1 0) ∧ ρ' 3 = Value.func (.func 144) #[] #[(pt G1 0)] ∧ ρ' 100 = V0_0 ∧ ρ' 101 = .int .i64 (List.length a0.Charts : Int) ∧ ρ' 102 = .int .i64 s186 ∧ Blk w' G1 110 [(sI a0.Epoch), (sI a0.Tickets.Geometry.Blocks), (sI a0.Tickets.Geometry.Slots), (sI a0.Tickets.Geometry.Gens), (sI a0.Tickets.Top), (sI a0.Tickets.High), (sI a0.Tickets.Free), (sI a0.Dir), Seg.cell V0_0 R0_0.one] ∧ Gr w w') l188 ?_ ?_
  ·skip
   exact ⟨e1, e3, rfl, rfl, rfl, b2, fB⟩
  rintro s186 x193 ρ191 w192 ⟨e1, e3, e100, e101, e102, b2, fB⟩ h
  unfold super_Right.s0 at h
  refine cw_seq ?_
  refine cw_region ?_
  refine ol_val (v := .bool (decide (s186 < (List.length a0.Charts : Int)))) (xr_lss rfl e102 e101) rfl rfl rfl ?_
  refine ol_nil ?_
  refine cw_seq ?_
  rcases is h with ⟨c194, h⟩ | ⟨c194, h⟩
  ·refine cw_condT rfl c194 ?_
   refine cw_skip ?_
   refine cw_seq ?_
   refine cw_block ?_
   refine cw_seq ?_
   refine cw_region ?_
   refine ol_val (v := .int .i64 s186) (xr_move rfl e102) rfl rfl rfl ?_
   obtain ⟨g195, h⟩ := gs h
   refine ol_val (v := (pt ((sb V0_0)) (so V0_0 + Int.toNat s186 * 1))) (xr_indexR (K := (kI .i64)) (v := V0_0) rfl Try.underlying25 sz3 e100 (R0_0.gr fB) e102 g195.1 g195.2) rfl rfl rfl ?_
   refine ol_val (v := .int .i64 (ix a0.Charts s186)) (xr_load1 (v := .int .i64 (ix a0.Charts s186)) rfl ag3 rfl ((R0_0.gr fB).elem g195.1 g195.2)) rfl rfl rfl ?_
   refine ol_val (v := .int .i64 s186) (xr_assign rfl rfl) rfl rfl rfl ?_
   refine ol_val (v := .int .i64 (ix a0.Charts s186)) (xr_assign rfl rfl) rfl rfl rfl ?_
   refine ol_nil ?_
   refine cw_seq ?_
   obtain ⟨x196, j197, h⟩ := bs h
   refine cw_mid (fun ρ' w' => ρ' 1 = (pt G1 0) ∧ ρ' 3 = Value.func (.func 144) #[] #[(pt G1 0)] ∧ ρ' 100 = V0_0 ∧ ρ' 101 = .int .i64 (List.length a0.Charts : Int) ∧ ρ' 102 = .int .i64 s186 ∧ ρ' 118 = .bool x196 ∧ Gr w192 w') ?_ ?_
   ·skip
    refine cw_region ?_
    refine ol_val (v := Value.func (.func 144) #[] #[(pt G1 0)]) (xr_move rfl e3) rfl rfl rfl ?_
    refine ol_val (v := .int .i64 (ix a0.Charts s186)) (xr_move rfl rfl) rfl rfl rfl ?_
    obtain ⟨t198, k199, j197⟩ := bs j197
    refine ol_op (opv_callV (C := [(pt G1 0)]) rfl rfl cal144 (ac rfl an) (super_Right_1__c.ok fu _ (ix a0.Charts s186) a0 G1 V0_0 (R0_0.gr fB) b2 _ k199)) rfl rfl rfl ?_
    rintro _ w201 ⟨rfl, q200⟩
    have b2 := b2.gr q200
    have fB := fB.gr q200
    refine ol_val (v := .bool (!t198)) (xr_not rfl rfl) rfl rfl rfl ?_
    refine ol_val (v := .bool (!t198)) (xr_move rfl rfl) rfl rfl rfl ?_
    rcases is j197 with ⟨c202, j197⟩ | ⟨c202, j197⟩
    ·skip
     refine ol_gskip rfl rfl rfl rfl rfl c202 ?_
     refine ol_gskip rfl rfl rfl rfl rfl c202 ?_
     refine ol_gskip rfl rfl rfl rfl rfl c202 ?_
     refine ol_gskip rfl rfl rfl rfl rfl c202 ?_
     refine ol_gskip rfl rfl rfl rfl rfl c202 ?_
     refine ol_gskip rfl rfl rfl rfl rfl c202 ?_
     refine ol_val (v := .bool true) (xr_pickT rfl rfl c202 rfl) rfl rfl rfl ?_
     refine ol_nil ?_
     obtain rfl := Option.some.inj j197
     refine thn_i ?_
     exact ⟨e1, e3, e100, e101, e102, rfl, q200⟩
    refine ol_gval (v := (pt G1 8)) (xr_fieldAddr (p := 0) (q := 8) rfl fl110_3 e1) rfl rfl rfl rfl rfl c202 ?_
    refine ol_gval (v := V0_0) (xr_load1 (v := V0_0) rfl ag25 rfl (b2.seg 8 rfl rfl)) rfl rfl rfl rfl rfl c202 ?_
    refine ol_gval (v := .int .i64 s186) (xr_move rfl rfl) rfl rfl rfl rfl rfl c202 ?_
    obtain ⟨g204, j197⟩ := gs j197
    refine ol_gval (v := subv 1 V0_0 0 (Int.toNat s186)) (xr_slice_h (K := (kI .i64)) (v := V0_0) rfl Try.underlying25 sz3 rfl (R0_0.gr fB) rfl g204.1 g204.2) rfl rfl rfl rfl rfl c202 ?_
    have r203 : Rd (kI .i64) w201 (subv 1 V0_0 0 (Int.toNat s186)) (cut a0.Charts 0 s186) := (R0_0.gr fB).cut (lo := 0) (hi := s186) (by decide) g204.1 g204.2
    refine ol_gval (v := .int .i64 (ix a0.Charts s186)) (xr_move rfl rfl) rfl rfl rfl rfl rfl c202 ?_
    obtain ⟨t205, k206, j197⟩ := bs j197
    refine ol_gop (opv_call rfl cal146 (ac rfl (ac rfl an)) (slices_Contains_2.ok fu _ (cut a0.Charts 0 s186) (subv 1 V0_0 0 (Int.toNat s186)) (r203) (ix a0.Charts s186) _ k206)) rfl rfl rfl rfl rfl c202 ?_
    rintro _ w208 ⟨rfl, q207⟩
    have b2 := b2.gr q207
    have r203 := r203.gr q207
    have fB := fB.gr q207
    refine ol_val (v := .bool t205) (xr_pickF rfl rfl c202 rfl) rfl rfl rfl ?_
    refine ol_nil ?_
    obtain rfl := Option.some.inj j197
    refine thn_i ?_
    exact ⟨e1, e3, e100, e101, e102, rfl, (q200.gr q207)⟩
   rintro ρ209 w210 ⟨e1, e3, e100, e101, e102, e118, q211⟩
   have b2 := b2.gr q211
   have fB := fB.gr q211
   rcases is h with ⟨c212, h⟩ | ⟨c212, h⟩
   ·refine cw_condT e118 c212 ?_
    refine cw_seq ?_
    refine cw_region ?_
    refine ol_val (v := .bool false) (xr_assign rfl rfl) rfl rfl rfl ?_
    refine ol_nil ?_
    refine cw_ret ?_
    repeat (first | with_reducible refine thn_r ?_ | with_reducible refine blk_r ?_)
    obtain rfl := Option.some.inj h
    refine lp_ret ?_
    rintro rfl
    repeat (first | with_reducible refine thn_r ?_ | with_reducible refine blk_r ?_)
    have h := h189
    obtain rfl := Option.some.inj h
    refine fin_ret1 Try.results132 rfl ?_
    exact ⟨_, rfl, rfl, fB⟩
   refine cw_condF e118 c212 ?_
   refine cw_skip ?_
   refine blk_i ?_
   refine cw_region ?_
   refine ol_val (v := .int .i64 (IntKind.i64.wrap (s186 + 1))) (xr_add rfl e102 rfl) rfl rfl rfl ?_
   refine ol_val (v := .int .i64 (IntKind.i64.wrap (s186 + 1))) (xr_move rfl rfl) rfl rfl rfl ?_
   refine ol_nil ?_
   obtain rfl := Option.some.inj h
   refine lp_in ?_
   exact ⟨e1, e3, e100, e101, rfl, b2, fB⟩
  refine cw_condF rfl c194 ?_
  refine cw_exit ?_
  repeat (first | with_reducible refine thn_e ?_ | with_reducible refine blk_e rfl ?_)
  obtain rfl := Option.some.inj h
  refine lp_exit ?_
  rintro rfl
  refine thn_x ?_
  exact ⟨_, rfl, fB⟩
 rintro ρ213 w214 ⟨x190, rfl, fB⟩
 have h := h189
 refine cw_seq ?_
 refine cw_region ?_
 refine ol_val (v := .bool true) (xr_assign rfl rfl) rfl rfl rfl ?_
 refine ol_nil ?_
 refine cw_ret ?_
 repeat (first | with_reducible refine thn_r ?_ | with_reducible refine blk_r ?_)
 obtain rfl := Option.some.inj h
 refine fin_ret1 Try.results132 rfl ?_
 exact ⟨_, rfl, rfl, fB⟩
end Go.Proofs.Ytklhbaghbmndeaa
