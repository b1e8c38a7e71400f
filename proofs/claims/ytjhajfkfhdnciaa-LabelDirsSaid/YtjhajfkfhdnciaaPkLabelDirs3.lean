/- LabelDirs: texts merged, part 3 of 7. The last part proves that the law LabelDirs holds for every input. -/
import Derived.Test.YtjhajfkfhdnciaaPkLabelDirs2
/- rickyard/octet.Read: its model, and that the Go function computes it: written by gen.py. -/
set_option linter.unusedVariables false
namespace Go.Proofs.Ytjhajfkfhdnciaa
open Go Go.Xw
def octet_Read.s0 (fu : Nat) (a0 : List Int) : (Int × Int) → Option (Sum Int (Int × Int)) := fun s3 => (if (decide (s3.2 < (List.length (cut a0 0 (mnI (List.length a0 : Int) 8)) : Int))) = true then (if 0 ≤ s3.2 ∧ s3.2 < (List.length (cut a0 0 (mnI (List.length a0 : Int) 8)) : Int) then (if 0 ≤ (IntKind.i64.wrap (8 * s3.2)) then some (Sum.inr ((bOr .u64 s3.1 (shL .u64 (IntKind.u64.wrap (ix (cut a0 0 (mnI (List.length a0 : Int) 8)) s3.2)) (IntKind.i64.wrap (8 * s3.2)))), (IntKind.i64.wrap (s3.2 + 1)))) else none) else none) else some (Sum.inl (s3.1)))
def octet_Read.f (fu : Nat) (a0 : List Int) : Option Int := (if 0 ≤ (mnI (List.length a0 : Int) 8) ∧ (mnI (List.length a0 : Int) 8) ≤ (List.length a0 : Int) then ((loopM (octet_Read.s0 fu a0) fu (0, 0)).bind fun e4 => some (e4)) else none)
set_option maxRecDepth 100000 in
set_option maxHeartbeats 400000 in
theorem octet_Read.ok (fu : Nat) (w : World) (a0 : List Int) (V0_0 : Value) (R0_0 : Rd (kI .u8) w V0_0 a0) (r : Int) (h : octet_Read.f fu a0 = some r) :
    Calls Try.prog 112 (([V0_0] : List Value).toArray) w (fun e w' => ∃ v, e = .returned v ∧ v = .int .u64 r ∧ Gr w w') := by
  unfold octet_Read.f at h
  have fB : Gr w w := Fr.refl _ _
  refine calls_cw Try.func112 rfl Try.ntmps112 rfl ?_
  refine cw_seq ?_
  refine cw_region ?_
  refine ol_val (v := .int .u64 0) (by exact xr_assign rfl rfl) rfl rfl rfl ?_
  refine ol_nil ?_
  refine cw_seq ?_
  refine cw_region ?_
  refine ol_val (v := .int .u64 0) (by exact xr_assign rfl rfl) rfl rfl rfl ?_
  refine ol_nil ?_
  refine cw_seq ?_
  refine cw_seq ?_
  refine cw_region ?_
  refine ol_val (v := V0_0) (by exact xr_move rfl rfl) rfl rfl rfl ?_
  refine ol_val (v := V0_0) (by exact xr_move rfl rfl) rfl rfl rfl ?_
  refine ol_val (v := .int .i64 (List.length a0 : Int)) (by exact xr_lenR rfl Try.underlying22 rfl (R0_0.gr fB)) rfl rfl rfl ?_
  refine ol_val (v := .int .i64 (mnI (List.length a0 : Int) 8)) (by exact xr_min2 rfl rfl rfl) rfl rfl rfl ?_
  obtain ⟨g2, h⟩ := gs h
  refine ol_val (v := subv 1 V0_0 0 (Int.toNat (mnI (List.length a0 : Int) 8))) (by exact xr_slice_h (K := (kI .u8)) (v := V0_0) rfl Try.underlying22 sz5 rfl (R0_0.gr fB) rfl g2.1 g2.2) rfl rfl rfl ?_
  have r1 : Rd (kI .u8) w (subv 1 V0_0 0 (Int.toNat (mnI (List.length a0 : Int) 8))) (cut a0 0 (mnI (List.length a0 : Int) 8)) := (R0_0.gr fB).cut (lo := 0) (hi := (mnI (List.length a0 : Int) 8)) (by decide) g2.1 g2.2
  refine ol_val (v := .int .i64 (List.length (cut a0 0 (mnI (List.length a0 : Int) 8)) : Int)) (by exact xr_lenR rfl Try.underlying22 rfl r1) rfl rfl rfl ?_
  refine ol_val (v := .int .i64 0) (by exact xr_move rfl rfl) rfl rfl rfl ?_
  refine ol_nil ?_
  obtain ⟨e4, l5, h6⟩ := bs h
  refine cw_mid (fun ρ' w' => ρ' 3 = .int .u64 e4 ∧ Gr w w') ?_ ?_
  · refine cw_block ?_
    refine cw_round (fun (s3 : Int × Int) ρ' w' => ∃ r1 : Rd (kI .u8) w' (subv 1 V0_0 0 (Int.toNat (mnI (List.length a0 : Int) 8))) (cut a0 0 (mnI (List.length a0 : Int) 8)), ρ' 3 = .int .u64 s3.1 ∧ ρ' 10 = subv 1 V0_0 0 (Int.toNat (mnI (List.length a0 : Int) 8)) ∧ ρ' 11 = .int .i64 (List.length (cut a0 0 (mnI (List.length a0 : Int) 8)) : Int) ∧ ρ' 12 = .int .i64 s3.2 ∧ Gr w w') l5 ?_ ?_
    · skip
      exact ⟨r1, rfl, rfl, rfl, rfl, fB⟩
    · rintro s3 x9 ρ7 w8 ⟨r1, e3, e10, e11, e12, fB⟩ h
      unfold octet_Read.s0 at h
      refine cw_seq ?_
      refine cw_region ?_
      refine ol_val (v := .bool (decide (s3.2 < (List.length (cut a0 0 (mnI (List.length a0 : Int) 8)) : Int)))) (by exact xr_lss rfl e12 e11) rfl rfl rfl ?_
      refine ol_nil ?_
      refine cw_seq ?_
      rcases is h with ⟨c10, h⟩ | ⟨c10, h⟩
      · refine cw_condT rfl c10 ?_
        refine cw_skip ?_
        refine cw_seq ?_
        refine cw_block ?_
        refine cw_seq ?_
        refine cw_region ?_
        refine ol_val (v := .int .i64 s3.2) (by exact xr_move rfl e12) rfl rfl rfl ?_
        obtain ⟨g11, h⟩ := gs h
        refine ol_val (v := .pointer (some ⟨(sb (subv 1 V0_0 0 (Int.toNat (mnI (List.length a0 : Int) 8)))), so (subv 1 V0_0 0 (Int.toNat (mnI (List.length a0 : Int) 8))) + Int.toNat s3.2 * 1, none⟩)) (by exact xr_indexR (K := (kI .u8)) (v := subv 1 V0_0 0 (Int.toNat (mnI (List.length a0 : Int) 8))) rfl Try.underlying22 sz5 e10 r1 e12 g11.1 g11.2) rfl rfl rfl ?_
        refine ol_val (v := .int .u8 (ix (cut a0 0 (mnI (List.length a0 : Int) 8)) s3.2)) (by exact xr_load1 (v := .int .u8 (ix (cut a0 0 (mnI (List.length a0 : Int) 8)) s3.2)) rfl ag5 rfl (r1.elem g11.1 g11.2)) rfl rfl rfl ?_
        refine ol_val (v := .int .i64 s3.2) (by exact xr_assign rfl rfl) rfl rfl rfl ?_
        refine ol_val (v := .int .u8 (ix (cut a0 0 (mnI (List.length a0 : Int) 8)) s3.2)) (by exact xr_assign rfl rfl) rfl rfl rfl ?_
        refine ol_nil ?_
        refine cw_region ?_
        refine ol_val (v := .int .u64 s3.1) (by exact xr_move rfl e3) rfl rfl rfl ?_
        refine ol_val (v := .int .u8 (ix (cut a0 0 (mnI (List.length a0 : Int) 8)) s3.2)) (by exact xr_move rfl rfl) rfl rfl rfl ?_
        refine ol_val (v := .int .u64 (IntKind.u64.wrap (ix (cut a0 0 (mnI (List.length a0 : Int) 8)) s3.2))) (by exact xr_conv rfl Try.underlying5 Try.underlying129 rfl) rfl rfl rfl ?_
        refine ol_val (v := .int .i64 s3.2) (by exact xr_move rfl rfl) rfl rfl rfl ?_
        refine ol_val (v := .int .i64 (IntKind.i64.wrap (8 * s3.2))) (by exact xr_mul rfl rfl rfl) rfl rfl rfl ?_
        obtain ⟨g12, h⟩ := gs h
        refine ol_val (v := .int .u64 (shL .u64 (IntKind.u64.wrap (ix (cut a0 0 (mnI (List.length a0 : Int) 8)) s3.2)) (IntKind.i64.wrap (8 * s3.2)))) (by exact xr_shl rfl rfl rfl g12) rfl rfl rfl ?_
        refine ol_val (v := .int .u64 (bOr .u64 s3.1 (shL .u64 (IntKind.u64.wrap (ix (cut a0 0 (mnI (List.length a0 : Int) 8)) s3.2)) (IntKind.i64.wrap (8 * s3.2))))) (by exact xr_or rfl rfl rfl) rfl rfl rfl ?_
        refine ol_val (v := .int .u64 (bOr .u64 s3.1 (shL .u64 (IntKind.u64.wrap (ix (cut a0 0 (mnI (List.length a0 : Int) 8)) s3.2)) (IntKind.i64.wrap (8 * s3.2))))) (by exact xr_assign rfl rfl) rfl rfl rfl ?_
        refine ol_nil ?_
        refine blk_i ?_
        refine cw_region ?_
        refine ol_val (v := .int .i64 (IntKind.i64.wrap (s3.2 + 1))) (by exact xr_add rfl e12 rfl) rfl rfl rfl ?_
        refine ol_val (v := .int .i64 (IntKind.i64.wrap (s3.2 + 1))) (by exact xr_move rfl rfl) rfl rfl rfl ?_
        refine ol_nil ?_
        obtain rfl := Option.some.inj h
        refine lp_in ?_
        exact ⟨r1, rfl, e10, e11, rfl, fB⟩
      · refine cw_condF rfl c10 ?_
        refine cw_exit ?_
        repeat (first | with_reducible refine thn_e ?_ | with_reducible refine blk_e rfl ?_)
        obtain rfl := Option.some.inj h
        refine lp_exit ?_
        rintro rfl
        refine thn_x ?_
        exact ⟨e3, fB⟩
  · rintro ρ13 w14 ⟨e3, fB⟩
    have h := h6
    refine cw_seq ?_
    refine cw_region ?_
    refine ol_val (v := .int .u64 e4) (by exact xr_move rfl e3) rfl rfl rfl ?_
    refine ol_val (v := .int .u64 e4) (by exact xr_assign rfl rfl) rfl rfl rfl ?_
    refine ol_nil ?_
    refine cw_ret ?_
    repeat (first | with_reducible refine thn_r ?_ | with_reducible refine blk_r ?_)
    obtain rfl := Option.some.inj h
    refine fin_ret1 Try.results112 rfl ?_
    exact ⟨_, rfl, rfl, fB⟩
end Go.Proofs.Ytjhajfkfhdnciaa

/- rickyard/crc.Fits: its model, and that the Go function computes it: written by gen.py. -/
set_option linter.unusedVariables false
namespace Go.Proofs.Ytjhajfkfhdnciaa
open Go Go.Xw
def crc_Fits.f (fu : Nat) (a0 : Int) (a1 : List (List Int)) : Option Bool := ((crc_Sum.f fu a1 : Option Int).bind fun t1 => some ((decide (t1 = a0))))
set_option maxRecDepth 100000 in
set_option maxHeartbeats 400000 in
theorem crc_Fits.ok (fu : Nat) (w : World) (a0 : Int) (a1 : List (List Int)) (V1_0 : Value) (R1_0 : Rds (kI .u8) w V1_0 a1) (r : Bool) (h : crc_Fits.f fu a0 a1 = some r) :
    Calls Try.prog 131 (([.int .u32 a0, V1_0] : List Value).toArray) w (fun e w' => ∃ v, e = .returned v ∧ v = .bool r ∧ Gr w w') := by
  unfold crc_Fits.f at h
  have fB : Gr w w := Fr.refl _ _
  refine calls_cw Try.func131 rfl Try.ntmps131 rfl ?_
  refine cw_seq ?_
  refine cw_region ?_
  refine ol_val (v := .bool false) (by exact xr_assign rfl rfl) rfl rfl rfl ?_
  refine ol_nil ?_
  refine cw_seq ?_
  refine cw_region ?_
  refine ol_val (v := V1_0) (by exact xr_move rfl rfl) rfl rfl rfl ?_
  obtain ⟨t1, k2, h⟩ := bs h
  refine ol_op (by exact opv_call rfl cal96 (ac rfl an) (crc_Sum.ok fu _ a1 V1_0 (R1_0.gr fB) _ k2)) rfl rfl rfl ?_
  rintro _ w4 ⟨rfl, q3⟩
  have fB := fB.gr q3
  refine ol_val (v := .int .u32 a0) (by exact xr_move rfl rfl) rfl rfl rfl ?_
  refine ol_val (v := .bool (decide (t1 = a0))) (by exact xr_eqI rfl Try.underlying36 rfl rfl rfl) rfl rfl rfl ?_
  refine ol_val (v := .bool (decide (t1 = a0))) (by exact xr_assign rfl rfl) rfl rfl rfl ?_
  refine ol_nil ?_
  refine cw_ret ?_
  repeat (first | with_reducible refine thn_r ?_ | with_reducible refine blk_r ?_)
  obtain rfl := Option.some.inj h
  refine fin_ret1 Try.results131 rfl ?_
  exact ⟨_, rfl, rfl, fB⟩
end Go.Proofs.Ytjhajfkfhdnciaa

/- rickyard/block.right: its model, and that the Go function computes it: written by gen.py. -/
set_option linter.unusedVariables false
namespace Go.Proofs.Ytjhajfkfhdnciaa
open Go Go.Xw
def block_right.f (fu : Nat) (a0 : List Int) : Option Bool := (((if (decide ((List.length a0 : Int) = 64)) = true then (if (4 : Int) < (List.length a0 : Int) then (if (!decide ((ix a0 4) = 0)) = true then ((octet_Noughts.f fu a0 6 2 : Option Bool).bind fun t6 => (if t6 = true then (if (4 : Int) ≤ (List.length a0 : Int) then ((octet_Read.f fu (cut a0 0 4) : Option Int).bind fun t13 => (if (4 : Int) ≤ (List.length a0 : Int) then ((crc_Fits.f fu (IntKind.u32.wrap t13) [(cut a0 4 (List.length a0 : Int))] : Option Bool).bind fun t22 => some (t22)) else none)) else none) else some (false))) else some (false)) else none) else some (false)) : Option Bool).bind fun x1 => some (x1))
set_option maxRecDepth 100000 in
set_option maxHeartbeats 400000 in
theorem block_right.ok (fu : Nat) (w : World) (a0 : List Int) (V0_0 : Value) (R0_0 : Rd (kI .u8) w V0_0 a0) (r : Bool) (h : block_right.f fu a0 = some r) :
    Calls Try.prog 97 (([V0_0] : List Value).toArray) w (fun e w' => ∃ v, e = .returned v ∧ v = .bool r ∧ Gr w w') := by
  unfold block_right.f at h
  have fB : Gr w w := Fr.refl _ _
  refine calls_cw Try.func97 rfl Try.ntmps97 rfl ?_
  refine cw_seq ?_
  refine cw_region ?_
  refine ol_val (v := .bool false) (by exact xr_assign rfl rfl) rfl rfl rfl ?_
  refine ol_nil ?_
  refine cw_seq ?_
  obtain ⟨x1, j2, h⟩ := bs h
  refine cw_mid (fun ρ' w' => ρ' 2 = .bool x1 ∧ Gr w w') ?_ ?_
  · skip
    rcases is j2 with ⟨c3, j2⟩ | ⟨c3, j2⟩
    · skip
      obtain ⟨g4, j2⟩ := gs j2
      rcases is j2 with ⟨c5, j2⟩ | ⟨c5, j2⟩
      · skip
        obtain ⟨t6, k7, j2⟩ := bs j2
        rcases is j2 with ⟨c9, j2⟩ | ⟨c9, j2⟩
        · skip
          obtain ⟨g11, j2⟩ := gs j2
          obtain ⟨t13, k14, j2⟩ := bs j2
          obtain ⟨g17, j2⟩ := gs j2
          obtain ⟨t22, k23, j2⟩ := bs j2
          refine cw_drawL 22 [fun vz wz => vz = (V0_0 : Value), fun vz wz => vz = (.int .i64 (List.length a0 : Int) : Value), fun vz wz => vz = (.bool (decide ((List.length a0 : Int) = 64)) : Value), fun vz wz => vz = (.bool (decide ((List.length a0 : Int) = 64)) : Value), fun vz wz => vz = (V0_0 : Value), fun vz wz => vz = (.pointer (some ⟨(sb V0_0), so V0_0 + Int.toNat 4 * 1, none⟩) : Value), fun vz wz => vz = (.int .u8 (ix a0 4) : Value), fun vz wz => vz = (.bool (!decide ((ix a0 4) = 0)) : Value), fun vz wz => vz = (.bool (!decide ((ix a0 4) = 0)) : Value), fun vz wz => vz = (.bool (!decide ((ix a0 4) = 0)) : Value), fun vz wz => vz = (V0_0 : Value), fun vz wz => vz = (.bool t6 : Value), fun vz wz => vz = (.bool t6 : Value), fun vz wz => vz = (.bool t6 : Value), fun vz wz => vz = (V0_0 : Value), fun vz wz => ∃ u12 : Value, ∃ r10 : Rd (kI .u8) wz u12 (cut a0 0 4), vz = (u12 : Value), fun vz wz => vz = (.int .u64 t13 : Value), fun vz wz => vz = (.int .u32 (IntKind.u32.wrap t13) : Value), fun vz wz => vz = (V0_0 : Value), fun vz wz => ∃ u18 : Value, ∃ r16 : Rd (kI .u8) wz u18 (cut a0 4 (List.length a0 : Int)), vz = (u18 : Value), fun vz wz => ∃ v19 : Value, ∃ r21 : Rds (kI .u8) wz v19 [(cut a0 4 (List.length a0 : Int))], vz = (v19 : Value), fun vz wz => vz = (.bool t22 : Value)] mo rfl ⟨fun _ _ _ h _ => h, fun _ _ _ h _ => h, fun _ _ _ h _ => h, fun _ _ _ h _ => h, fun _ _ _ h _ => h, fun _ _ _ h _ => h, fun _ _ _ h _ => h, fun _ _ _ h _ => h, fun _ _ _ h _ => h, fun _ _ _ h _ => h, fun _ _ _ h _ => h, fun _ _ _ h _ => h, fun _ _ _ h _ => h, fun _ _ _ h _ => h, fun _ _ _ h _ => h, fun _ _ _ ⟨u12, r10, h⟩ q => ⟨u12, r10.gr q, h⟩, fun _ _ _ h _ => h, fun _ _ _ h _ => h, fun _ _ _ h _ => h, fun _ _ _ ⟨u18, r16, h⟩ q => ⟨u18, r16.gr q, h⟩, fun _ _ _ ⟨v19, r21, h⟩ q => ⟨v19, r21.gr q, h⟩, fun _ _ _ h _ => h, trivial⟩ ?_ ?_
          · refine ⟨?_, ?_, ?_, ?_, ?_, ?_, ?_, ?_, ?_, ?_, ?_, ?_, ?_, ?_, ?_, ?_, ?_, ?_, ?_, ?_, ?_, ?_, trivial⟩
            · intro ρz wz hz hk hd
              exact sk_val (v := V0_0) (by exact xr_move rfl ((hk 0 rfl).trans rfl)) rfl rfl
            · intro ρz wz hz hk hd
              have d3 := hd 0 rfl 3 rfl
              exact sk_val (v := .int .i64 (List.length a0 : Int)) (by exact xr_lenR rfl Try.underlying22 d3 (R0_0.gr (fB.gr hz))) rfl rfl
            · intro ρz wz hz hk hd
              have d4 := hd 1 rfl 4 rfl
              exact sk_val (v := .bool (decide ((List.length a0 : Int) = 64))) (by exact xr_eqI rfl Try.underlying3 rfl d4 rfl) rfl rfl
            · intro ρz wz hz hk hd
              have d5 := hd 2 rfl 5 rfl
              exact sk_val (v := .bool (decide ((List.length a0 : Int) = 64))) (by exact xr_move rfl d5) rfl rfl
            · intro ρz wz hz hk hd
              have d6 := hd 3 rfl 6 rfl
              exact sk_gval (v := V0_0) (by exact xr_move rfl ((hk 0 rfl).trans rfl)) rfl rfl d6 c3 rfl
            · intro ρz wz hz hk hd
              have d7 := hd 4 rfl 7 rfl
              have d6 := hd 3 rfl 6 rfl
              exact sk_gval (by exact xr_indexR (K := (kI .u8)) (v := V0_0) rfl Try.underlying22 sz5 d7 (R0_0.gr (fB.gr hz)) rfl (by decide) g4) rfl rfl d6 c3 rfl
            · intro ρz wz hz hk hd
              have d8 := hd 5 rfl 8 rfl
              have d6 := hd 3 rfl 6 rfl
              exact sk_gval (v := .int .u8 (ix a0 4)) (by exact xr_load1 (v := .int .u8 (ix a0 4)) rfl ag5 d8 ((R0_0.gr (fB.gr hz)).elem (by decide) g4)) rfl rfl d6 c3 rfl
            · intro ρz wz hz hk hd
              have d9 := hd 6 rfl 9 rfl
              have d6 := hd 3 rfl 6 rfl
              exact sk_gval (v := .bool (!decide ((ix a0 4) = 0))) (by exact xr_neI rfl Try.underlying5 rfl d9 rfl) rfl rfl d6 c3 rfl
            · intro ρz wz hz hk hd
              have d6 := hd 3 rfl 6 rfl
              have d10 := hd 7 rfl 10 rfl
              exact sk_val (v := .bool (!decide ((ix a0 4) = 0))) (by exact xr_pickT rfl d6 c3 d10) rfl rfl
            · intro ρz wz hz hk hd
              have d11 := hd 8 rfl 11 rfl
              exact sk_val (v := .bool (!decide ((ix a0 4) = 0))) (by exact xr_move rfl d11) rfl rfl
            · intro ρz wz hz hk hd
              have d12 := hd 9 rfl 12 rfl
              exact sk_gval (v := V0_0) (by exact xr_move rfl ((hk 0 rfl).trans rfl)) rfl rfl d12 c5 rfl
            · intro ρz wz hz hk hd
              have d13 := hd 10 rfl 13 rfl
              have d12 := hd 9 rfl 12 rfl
              refine sk_gop (by exact opv_call rfl cal102 (ac d13 (ac rfl (ac rfl an))) (octet_Noughts.ok fu _ a0 V0_0 (R0_0.gr (fB.gr hz)) 6 2 _ k7)) rfl rfl d12 c5 ?_
              rintro _ wy ⟨rfl, q8⟩
              exact ⟨rfl, q8⟩
            · intro ρz wz hz hk hd
              have d12 := hd 9 rfl 12 rfl
              have d14 := hd 11 rfl 14 rfl
              exact sk_val (v := .bool t6) (by exact xr_pickT rfl d12 c5 d14) rfl rfl
            · intro ρz wz hz hk hd
              have d15 := hd 12 rfl 15 rfl
              exact sk_val (v := .bool t6) (by exact xr_move rfl d15) rfl rfl
            · intro ρz wz hz hk hd
              have d16 := hd 13 rfl 16 rfl
              exact sk_gval (v := V0_0) (by exact xr_move rfl ((hk 0 rfl).trans rfl)) rfl rfl d16 c9 rfl
            · intro ρz wz hz hk hd
              have d17 := hd 14 rfl 17 rfl
              have d16 := hd 13 rfl 16 rfl
              exact sk_gval (by exact xr_slice_h (K := (kI .u8)) (v := V0_0) rfl Try.underlying22 sz5 d17 (R0_0.gr (fB.gr hz)) rfl (by decide) g11) rfl rfl d16 c9 ⟨_, (R0_0.gr (fB.gr hz)).cut (lo := 0) (hi := 4) (by decide) (by decide) g11, rfl⟩
            · intro ρz wz hz hk hd
              obtain ⟨u12, r10, d18⟩ := hd 15 rfl 18 rfl
              have d16 := hd 13 rfl 16 rfl
              refine sk_gop (by exact opv_call rfl cal112 (ac d18 an) (octet_Read.ok fu _ (cut a0 0 4) u12 (r10) _ k14)) rfl rfl d16 c9 ?_
              rintro _ wy ⟨rfl, q15⟩
              exact ⟨rfl, q15⟩
            · intro ρz wz hz hk hd
              have d19 := hd 16 rfl 19 rfl
              have d16 := hd 13 rfl 16 rfl
              exact sk_gval (v := .int .u32 (IntKind.u32.wrap t13)) (by exact xr_conv rfl Try.underlying129 Try.underlying36 d19) rfl rfl d16 c9 rfl
            · intro ρz wz hz hk hd
              have d16 := hd 13 rfl 16 rfl
              exact sk_gval (v := V0_0) (by exact xr_move rfl ((hk 0 rfl).trans rfl)) rfl rfl d16 c9 rfl
            · intro ρz wz hz hk hd
              have d21 := hd 18 rfl 21 rfl
              have d16 := hd 13 rfl 16 rfl
              exact sk_gval (by exact xr_slice_l (K := (kI .u8)) (v := V0_0) rfl Try.underlying22 sz5 d21 (R0_0.gr (fB.gr hz)) rfl (by decide) g17) rfl rfl d16 c9 ⟨_, (R0_0.gr (fB.gr hz)).cut (lo := 4) (hi := (List.length a0 : Int)) (by decide) g17 (Int.le_refl _), rfl⟩
            · intro ρz wz hz hk hd
              obtain ⟨u18, r16, d22⟩ := hd 19 rfl 22 rfl
              have d16 := hd 13 rfl 16 rfl
              refine sk_gop (by exact opv_build1 rfl Try.underlying157 el22 rfl r16 d22) rfl rfl d16 c9 ?_
              rintro v19 wy ⟨r21, q20⟩
              exact ⟨⟨v19, r21, rfl⟩, q20⟩
            · intro ρz wz hz hk hd
              have d20 := hd 17 rfl 20 rfl
              obtain ⟨v19, r21, d23⟩ := hd 20 rfl 23 rfl
              have d16 := hd 13 rfl 16 rfl
              refine sk_gop (by exact opv_call rfl cal131 (ac d20 (ac d23 an)) (crc_Fits.ok fu _ (IntKind.u32.wrap t13) [(cut a0 4 (List.length a0 : Int))] v19 (r21) _ k23)) rfl rfl d16 c9 ?_
              rintro _ wy ⟨rfl, q24⟩
              exact ⟨rfl, q24⟩
          · intro ρ25 w26 q27 hk hd
            have e16 := hd 13 rfl 16 rfl
            have e24 := hd 21 rfl 24 rfl
            have fB := fB.gr q27
            refine ol_val (v := .bool t22) (by exact xr_pickT rfl e16 c9 e24) rfl rfl rfl ?_
            refine ol_val (v := .bool t22) (by exact xr_assign rfl rfl) rfl rfl rfl ?_
            refine ol_nil ?_
            obtain rfl := Option.some.inj j2
            refine thn_i ?_
            exact ⟨rfl, q27⟩
        · skip
          refine cw_drawL 22 [fun vz wz => vz = (V0_0 : Value), fun vz wz => vz = (.int .i64 (List.length a0 : Int) : Value), fun vz wz => vz = (.bool (decide ((List.length a0 : Int) = 64)) : Value), fun vz wz => vz = (.bool (decide ((List.length a0 : Int) = 64)) : Value), fun vz wz => vz = (V0_0 : Value), fun vz wz => vz = (.pointer (some ⟨(sb V0_0), so V0_0 + Int.toNat 4 * 1, none⟩) : Value), fun vz wz => vz = (.int .u8 (ix a0 4) : Value), fun vz wz => vz = (.bool (!decide ((ix a0 4) = 0)) : Value), fun vz wz => vz = (.bool (!decide ((ix a0 4) = 0)) : Value), fun vz wz => vz = (.bool (!decide ((ix a0 4) = 0)) : Value), fun vz wz => vz = (V0_0 : Value), fun vz wz => vz = (.bool t6 : Value), fun vz wz => vz = (.bool t6 : Value), fun vz wz => vz = (.bool t6 : Value), fun vz _ => vz = undef, fun vz _ => vz = undef, fun vz _ => vz = undef, fun vz _ => vz = undef, fun vz _ => vz = undef, fun vz _ => vz = undef, fun vz _ => vz = undef, fun vz _ => vz = undef] mo rfl ⟨fun _ _ _ h _ => h, fun _ _ _ h _ => h, fun _ _ _ h _ => h, fun _ _ _ h _ => h, fun _ _ _ h _ => h, fun _ _ _ h _ => h, fun _ _ _ h _ => h, fun _ _ _ h _ => h, fun _ _ _ h _ => h, fun _ _ _ h _ => h, fun _ _ _ h _ => h, fun _ _ _ h _ => h, fun _ _ _ h _ => h, fun _ _ _ h _ => h, fun _ _ _ h _ => h, fun _ _ _ h _ => h, fun _ _ _ h _ => h, fun _ _ _ h _ => h, fun _ _ _ h _ => h, fun _ _ _ h _ => h, fun _ _ _ h _ => h, fun _ _ _ h _ => h, trivial⟩ ?_ ?_
          · refine ⟨?_, ?_, ?_, ?_, ?_, ?_, ?_, ?_, ?_, ?_, ?_, ?_, ?_, ?_, ?_, ?_, ?_, ?_, ?_, ?_, ?_, ?_, trivial⟩
            · intro ρz wz hz hk hd
              exact sk_val (v := V0_0) (by exact xr_move rfl ((hk 0 rfl).trans rfl)) rfl rfl
            · intro ρz wz hz hk hd
              have d3 := hd 0 rfl 3 rfl
              exact sk_val (v := .int .i64 (List.length a0 : Int)) (by exact xr_lenR rfl Try.underlying22 d3 (R0_0.gr (fB.gr hz))) rfl rfl
            · intro ρz wz hz hk hd
              have d4 := hd 1 rfl 4 rfl
              exact sk_val (v := .bool (decide ((List.length a0 : Int) = 64))) (by exact xr_eqI rfl Try.underlying3 rfl d4 rfl) rfl rfl
            · intro ρz wz hz hk hd
              have d5 := hd 2 rfl 5 rfl
              exact sk_val (v := .bool (decide ((List.length a0 : Int) = 64))) (by exact xr_move rfl d5) rfl rfl
            · intro ρz wz hz hk hd
              have d6 := hd 3 rfl 6 rfl
              exact sk_gval (v := V0_0) (by exact xr_move rfl ((hk 0 rfl).trans rfl)) rfl rfl d6 c3 rfl
            · intro ρz wz hz hk hd
              have d7 := hd 4 rfl 7 rfl
              have d6 := hd 3 rfl 6 rfl
              exact sk_gval (by exact xr_indexR (K := (kI .u8)) (v := V0_0) rfl Try.underlying22 sz5 d7 (R0_0.gr (fB.gr hz)) rfl (by decide) g4) rfl rfl d6 c3 rfl
            · intro ρz wz hz hk hd
              have d8 := hd 5 rfl 8 rfl
              have d6 := hd 3 rfl 6 rfl
              exact sk_gval (v := .int .u8 (ix a0 4)) (by exact xr_load1 (v := .int .u8 (ix a0 4)) rfl ag5 d8 ((R0_0.gr (fB.gr hz)).elem (by decide) g4)) rfl rfl d6 c3 rfl
            · intro ρz wz hz hk hd
              have d9 := hd 6 rfl 9 rfl
              have d6 := hd 3 rfl 6 rfl
              exact sk_gval (v := .bool (!decide ((ix a0 4) = 0))) (by exact xr_neI rfl Try.underlying5 rfl d9 rfl) rfl rfl d6 c3 rfl
            · intro ρz wz hz hk hd
              have d6 := hd 3 rfl 6 rfl
              have d10 := hd 7 rfl 10 rfl
              exact sk_val (v := .bool (!decide ((ix a0 4) = 0))) (by exact xr_pickT rfl d6 c3 d10) rfl rfl
            · intro ρz wz hz hk hd
              have d11 := hd 8 rfl 11 rfl
              exact sk_val (v := .bool (!decide ((ix a0 4) = 0))) (by exact xr_move rfl d11) rfl rfl
            · intro ρz wz hz hk hd
              have d12 := hd 9 rfl 12 rfl
              exact sk_gval (v := V0_0) (by exact xr_move rfl ((hk 0 rfl).trans rfl)) rfl rfl d12 c5 rfl
            · intro ρz wz hz hk hd
              have d13 := hd 10 rfl 13 rfl
              have d12 := hd 9 rfl 12 rfl
              refine sk_gop (by exact opv_call rfl cal102 (ac d13 (ac rfl (ac rfl an))) (octet_Noughts.ok fu _ a0 V0_0 (R0_0.gr (fB.gr hz)) 6 2 _ k7)) rfl rfl d12 c5 ?_
              rintro _ wy ⟨rfl, q8⟩
              exact ⟨rfl, q8⟩
            · intro ρz wz hz hk hd
              have d12 := hd 9 rfl 12 rfl
              have d14 := hd 11 rfl 14 rfl
              exact sk_val (v := .bool t6) (by exact xr_pickT rfl d12 c5 d14) rfl rfl
            · intro ρz wz hz hk hd
              have d15 := hd 12 rfl 15 rfl
              exact sk_val (v := .bool t6) (by exact xr_move rfl d15) rfl rfl
            · intro ρz wz hz hk hd
              have d16 := hd 13 rfl 16 rfl
              exact sk_skip rfl rfl d16 c9 rfl
            · intro ρz wz hz hk hd
              have d16 := hd 13 rfl 16 rfl
              exact sk_skip rfl rfl d16 c9 rfl
            · intro ρz wz hz hk hd
              have d16 := hd 13 rfl 16 rfl
              exact sk_skip rfl rfl d16 c9 rfl
            · intro ρz wz hz hk hd
              have d16 := hd 13 rfl 16 rfl
              exact sk_skip rfl rfl d16 c9 rfl
            · intro ρz wz hz hk hd
              have d16 := hd 13 rfl 16 rfl
              exact sk_skip rfl rfl d16 c9 rfl
            · intro ρz wz hz hk hd
              have d16 := hd 13 rfl 16 rfl
              exact sk_skip rfl rfl d16 c9 rfl
            · intro ρz wz hz hk hd
              have d16 := hd 13 rfl 16 rfl
              exact sk_skip rfl rfl d16 c9 rfl
            · intro ρz wz hz hk hd
              have d16 := hd 13 rfl 16 rfl
              exact sk_skip rfl rfl d16 c9 rfl
          · intro ρ28 w29 q30 hk hd
            have e16 := hd 13 rfl 16 rfl
            have fB := fB.gr q30
            refine ol_val (v := .bool false) (by exact xr_pickF rfl e16 c9 rfl) rfl rfl rfl ?_
            refine ol_val (v := .bool false) (by exact xr_assign rfl rfl) rfl rfl rfl ?_
            refine ol_nil ?_
            obtain rfl := Option.some.inj j2
            refine thn_i ?_
            exact ⟨rfl, q30⟩
      · skip
        refine cw_drawL 22 [fun vz wz => vz = (V0_0 : Value), fun vz wz => vz = (.int .i64 (List.length a0 : Int) : Value), fun vz wz => vz = (.bool (decide ((List.length a0 : Int) = 64)) : Value), fun vz wz => vz = (.bool (decide ((List.length a0 : Int) = 64)) : Value), fun vz wz => vz = (V0_0 : Value), fun vz wz => vz = (.pointer (some ⟨(sb V0_0), so V0_0 + Int.toNat 4 * 1, none⟩) : Value), fun vz wz => vz = (.int .u8 (ix a0 4) : Value), fun vz wz => vz = (.bool (!decide ((ix a0 4) = 0)) : Value), fun vz wz => vz = (.bool (!decide ((ix a0 4) = 0)) : Value), fun vz wz => vz = (.bool (!decide ((ix a0 4) = 0)) : Value), fun vz _ => vz = undef, fun vz _ => vz = undef, fun vz wz => vz = (.bool false : Value), fun vz wz => vz = (.bool false : Value), fun vz _ => vz = undef, fun vz _ => vz = undef, fun vz _ => vz = undef, fun vz _ => vz = undef, fun vz _ => vz = undef, fun vz _ => vz = undef, fun vz _ => vz = undef, fun vz _ => vz = undef] mo rfl ⟨fun _ _ _ h _ => h, fun _ _ _ h _ => h, fun _ _ _ h _ => h, fun _ _ _ h _ => h, fun _ _ _ h _ => h, fun _ _ _ h _ => h, fun _ _ _ h _ => h, fun _ _ _ h _ => h, fun _ _ _ h _ => h, fun _ _ _ h _ => h, fun _ _ _ h _ => h, fun _ _ _ h _ => h, fun _ _ _ h _ => h, fun _ _ _ h _ => h, fun _ _ _ h _ => h, fun _ _ _ h _ => h, fun _ _ _ h _ => h, fun _ _ _ h _ => h, fun _ _ _ h _ => h, fun _ _ _ h _ => h, fun _ _ _ h _ => h, fun _ _ _ h _ => h, trivial⟩ ?_ ?_
        · refine ⟨?_, ?_, ?_, ?_, ?_, ?_, ?_, ?_, ?_, ?_, ?_, ?_, ?_, ?_, ?_, ?_, ?_, ?_, ?_, ?_, ?_, ?_, trivial⟩
          · intro ρz wz hz hk hd
            exact sk_val (v := V0_0) (by exact xr_move rfl ((hk 0 rfl).trans rfl)) rfl rfl
          · intro ρz wz hz hk hd
            have d3 := hd 0 rfl 3 rfl
            exact sk_val (v := .int .i64 (List.length a0 : Int)) (by exact xr_lenR rfl Try.underlying22 d3 (R0_0.gr (fB.gr hz))) rfl rfl
          · intro ρz wz hz hk hd
            have d4 := hd 1 rfl 4 rfl
            exact sk_val (v := .bool (decide ((List.length a0 : Int) = 64))) (by exact xr_eqI rfl Try.underlying3 rfl d4 rfl) rfl rfl
          · intro ρz wz hz hk hd
            have d5 := hd 2 rfl 5 rfl
            exact sk_val (v := .bool (decide ((List.length a0 : Int) = 64))) (by exact xr_move rfl d5) rfl rfl
          · intro ρz wz hz hk hd
            have d6 := hd 3 rfl 6 rfl
            exact sk_gval (v := V0_0) (by exact xr_move rfl ((hk 0 rfl).trans rfl)) rfl rfl d6 c3 rfl
          · intro ρz wz hz hk hd
            have d7 := hd 4 rfl 7 rfl
            have d6 := hd 3 rfl 6 rfl
            exact sk_gval (by exact xr_indexR (K := (kI .u8)) (v := V0_0) rfl Try.underlying22 sz5 d7 (R0_0.gr (fB.gr hz)) rfl (by decide) g4) rfl rfl d6 c3 rfl
          · intro ρz wz hz hk hd
            have d8 := hd 5 rfl 8 rfl
            have d6 := hd 3 rfl 6 rfl
            exact sk_gval (v := .int .u8 (ix a0 4)) (by exact xr_load1 (v := .int .u8 (ix a0 4)) rfl ag5 d8 ((R0_0.gr (fB.gr hz)).elem (by decide) g4)) rfl rfl d6 c3 rfl
          · intro ρz wz hz hk hd
            have d9 := hd 6 rfl 9 rfl
            have d6 := hd 3 rfl 6 rfl
            exact sk_gval (v := .bool (!decide ((ix a0 4) = 0))) (by exact xr_neI rfl Try.underlying5 rfl d9 rfl) rfl rfl d6 c3 rfl
          · intro ρz wz hz hk hd
            have d6 := hd 3 rfl 6 rfl
            have d10 := hd 7 rfl 10 rfl
            exact sk_val (v := .bool (!decide ((ix a0 4) = 0))) (by exact xr_pickT rfl d6 c3 d10) rfl rfl
          · intro ρz wz hz hk hd
            have d11 := hd 8 rfl 11 rfl
            exact sk_val (v := .bool (!decide ((ix a0 4) = 0))) (by exact xr_move rfl d11) rfl rfl
          · intro ρz wz hz hk hd
            have d12 := hd 9 rfl 12 rfl
            exact sk_skip rfl rfl d12 c5 rfl
          · intro ρz wz hz hk hd
            have d12 := hd 9 rfl 12 rfl
            exact sk_skip rfl rfl d12 c5 rfl
          · intro ρz wz hz hk hd
            have d12 := hd 9 rfl 12 rfl
            exact sk_val (v := .bool false) (by exact xr_pickF rfl d12 c5 rfl) rfl rfl
          · intro ρz wz hz hk hd
            have d15 := hd 12 rfl 15 rfl
            exact sk_val (v := .bool false) (by exact xr_move rfl d15) rfl rfl
          · intro ρz wz hz hk hd
            have d16 := hd 13 rfl 16 rfl
            exact sk_skip rfl rfl d16 rfl rfl
          · intro ρz wz hz hk hd
            have d16 := hd 13 rfl 16 rfl
            exact sk_skip rfl rfl d16 rfl rfl
          · intro ρz wz hz hk hd
            have d16 := hd 13 rfl 16 rfl
            exact sk_skip rfl rfl d16 rfl rfl
          · intro ρz wz hz hk hd
            have d16 := hd 13 rfl 16 rfl
            exact sk_skip rfl rfl d16 rfl rfl
          · intro ρz wz hz hk hd
            have d16 := hd 13 rfl 16 rfl
            exact sk_skip rfl rfl d16 rfl rfl
          · intro ρz wz hz hk hd
            have d16 := hd 13 rfl 16 rfl
            exact sk_skip rfl rfl d16 rfl rfl
          · intro ρz wz hz hk hd
            have d16 := hd 13 rfl 16 rfl
            exact sk_skip rfl rfl d16 rfl rfl
          · intro ρz wz hz hk hd
            have d16 := hd 13 rfl 16 rfl
            exact sk_skip rfl rfl d16 rfl rfl
        · intro ρ31 w32 q33 hk hd
          have e16 := hd 13 rfl 16 rfl
          have fB := fB.gr q33
          refine ol_val (v := .bool false) (by exact xr_pickF rfl e16 rfl rfl) rfl rfl rfl ?_
          refine ol_val (v := .bool false) (by exact xr_assign rfl rfl) rfl rfl rfl ?_
          refine ol_nil ?_
          obtain rfl := Option.some.inj j2
          refine thn_i ?_
          exact ⟨rfl, q33⟩
    · skip
      refine cw_drawL 22 [fun vz wz => vz = (V0_0 : Value), fun vz wz => vz = (.int .i64 (List.length a0 : Int) : Value), fun vz wz => vz = (.bool (decide ((List.length a0 : Int) = 64)) : Value), fun vz wz => vz = (.bool (decide ((List.length a0 : Int) = 64)) : Value), fun vz _ => vz = undef, fun vz _ => vz = undef, fun vz _ => vz = undef, fun vz _ => vz = undef, fun vz wz => vz = (.bool false : Value), fun vz wz => vz = (.bool false : Value), fun vz _ => vz = undef, fun vz _ => vz = undef, fun vz wz => vz = (.bool false : Value), fun vz wz => vz = (.bool false : Value), fun vz _ => vz = undef, fun vz _ => vz = undef, fun vz _ => vz = undef, fun vz _ => vz = undef, fun vz _ => vz = undef, fun vz _ => vz = undef, fun vz _ => vz = undef, fun vz _ => vz = undef] mo rfl ⟨fun _ _ _ h _ => h, fun _ _ _ h _ => h, fun _ _ _ h _ => h, fun _ _ _ h _ => h, fun _ _ _ h _ => h, fun _ _ _ h _ => h, fun _ _ _ h _ => h, fun _ _ _ h _ => h, fun _ _ _ h _ => h, fun _ _ _ h _ => h, fun _ _ _ h _ => h, fun _ _ _ h _ => h, fun _ _ _ h _ => h, fun _ _ _ h _ => h, fun _ _ _ h _ => h, fun _ _ _ h _ => h, fun _ _ _ h _ => h, fun _ _ _ h _ => h, fun _ _ _ h _ => h, fun _ _ _ h _ => h, fun _ _ _ h _ => h, fun _ _ _ h _ => h, trivial⟩ ?_ ?_
      · refine ⟨?_, ?_, ?_, ?_, ?_, ?_, ?_, ?_, ?_, ?_, ?_, ?_, ?_, ?_, ?_, ?_, ?_, ?_, ?_, ?_, ?_, ?_, trivial⟩
        · intro ρz wz hz hk hd
          exact sk_val (v := V0_0) (by exact xr_move rfl ((hk 0 rfl).trans rfl)) rfl rfl
        · intro ρz wz hz hk hd
          have d3 := hd 0 rfl 3 rfl
          exact sk_val (v := .int .i64 (List.length a0 : Int)) (by exact xr_lenR rfl Try.underlying22 d3 (R0_0.gr (fB.gr hz))) rfl rfl
        · intro ρz wz hz hk hd
          have d4 := hd 1 rfl 4 rfl
          exact sk_val (v := .bool (decide ((List.length a0 : Int) = 64))) (by exact xr_eqI rfl Try.underlying3 rfl d4 rfl) rfl rfl
        · intro ρz wz hz hk hd
          have d5 := hd 2 rfl 5 rfl
          exact sk_val (v := .bool (decide ((List.length a0 : Int) = 64))) (by exact xr_move rfl d5) rfl rfl
        · intro ρz wz hz hk hd
          have d6 := hd 3 rfl 6 rfl
          exact sk_skip rfl rfl d6 c3 rfl
        · intro ρz wz hz hk hd
          have d6 := hd 3 rfl 6 rfl
          exact sk_skip rfl rfl d6 c3 rfl
        · intro ρz wz hz hk hd
          have d6 := hd 3 rfl 6 rfl
          exact sk_skip rfl rfl d6 c3 rfl
        · intro ρz wz hz hk hd
          have d6 := hd 3 rfl 6 rfl
          exact sk_skip rfl rfl d6 c3 rfl
        · intro ρz wz hz hk hd
          have d6 := hd 3 rfl 6 rfl
          exact sk_val (v := .bool false) (by exact xr_pickF rfl d6 c3 rfl) rfl rfl
        · intro ρz wz hz hk hd
          have d11 := hd 8 rfl 11 rfl
          exact sk_val (v := .bool false) (by exact xr_move rfl d11) rfl rfl
        · intro ρz wz hz hk hd
          have d12 := hd 9 rfl 12 rfl
          exact sk_skip rfl rfl d12 rfl rfl
        · intro ρz wz hz hk hd
          have d12 := hd 9 rfl 12 rfl
          exact sk_skip rfl rfl d12 rfl rfl
        · intro ρz wz hz hk hd
          have d12 := hd 9 rfl 12 rfl
          exact sk_val (v := .bool false) (by exact xr_pickF rfl d12 rfl rfl) rfl rfl
        · intro ρz wz hz hk hd
          have d15 := hd 12 rfl 15 rfl
          exact sk_val (v := .bool false) (by exact xr_move rfl d15) rfl rfl
        · intro ρz wz hz hk hd
          have d16 := hd 13 rfl 16 rfl
          exact sk_skip rfl rfl d16 rfl rfl
        · intro ρz wz hz hk hd
          have d16 := hd 13 rfl 16 rfl
          exact sk_skip rfl rfl d16 rfl rfl
        · intro ρz wz hz hk hd
          have d16 := hd 13 rfl 16 rfl
          exact sk_skip rfl rfl d16 rfl rfl
        · intro ρz wz hz hk hd
          have d16 := hd 13 rfl 16 rfl
          exact sk_skip rfl rfl d16 rfl rfl
        · intro ρz wz hz hk hd
          have d16 := hd 13 rfl 16 rfl
          exact sk_skip rfl rfl d16 rfl rfl
        · intro ρz wz hz hk hd
          have d16 := hd 13 rfl 16 rfl
          exact sk_skip rfl rfl d16 rfl rfl
        · intro ρz wz hz hk hd
          have d16 := hd 13 rfl 16 rfl
          exact sk_skip rfl rfl d16 rfl rfl
        · intro ρz wz hz hk hd
          have d16 := hd 13 rfl 16 rfl
          exact sk_skip rfl rfl d16 rfl rfl
      · intro ρ34 w35 q36 hk hd
        have e16 := hd 13 rfl 16 rfl
        have fB := fB.gr q36
        refine ol_val (v := .bool false) (by exact xr_pickF rfl e16 rfl rfl) rfl rfl rfl ?_
        refine ol_val (v := .bool false) (by exact xr_assign rfl rfl) rfl rfl rfl ?_
        refine ol_nil ?_
        obtain rfl := Option.some.inj j2
        refine thn_i ?_
        exact ⟨rfl, q36⟩
  · skip
    rintro ρ37 w38 ⟨e2, q39⟩
    have fB := fB.gr q39
    refine cw_ret ?_
    repeat (first | with_reducible refine thn_r ?_ | with_reducible refine blk_r ?_)
    obtain rfl := Option.some.inj h
    refine fin_ret1 Try.results97 e2 ?_
    exact ⟨_, rfl, rfl, fB⟩
end Go.Proofs.Ytjhajfkfhdnciaa

/- bytes.Clone: its model, and that the Go function computes it: written by gen.py. -/
set_option linter.unusedVariables false
namespace Go.Proofs.Ytjhajfkfhdnciaa
open Go Go.Xw
def bytes_Clone.f (fu : Nat) (a0 : List Int) : Option (List Int) := (if List.length a0 ≤ LIM then some a0 else none)
set_option maxRecDepth 100000 in
theorem bytes_Clone.ok (fu : Nat) (w : World) (a0 : List Int) (V0_0 : Value) (R0_0 : Rd (kI .u8) w V0_0 a0) (r : List Int) (h : bytes_Clone.f fu a0 = some r) :
    Calls Try.prog 98 (([V0_0] : List Value).toArray) w (fun e w' => ∃ v, e = .returned v ∧ ∃ u1 : Value, ∃ o2 : Own (kI .u8) 5 w' w.heap.size u1 r, v = u1 ∧ Gr w w') := by
  unfold bytes_Clone.f at h
  obtain ⟨g, h⟩ := gs h
  obtain rfl := Option.some.inj h
  have fB : Gr w w := Fr.refl _ _
  refine calls_cw Try.func98 rfl Try.ntmps98 rfl ?_
  refine cw_seq ?_
  refine cw_region ?_
  refine ol_val (v := .slice none 0 0) (by exact xr_assign rfl rfl) rfl rfl rfl ?_
  refine ol_nil ?_
  refine cw_seq ?_
  refine cw_seq ?_
  refine cw_region ?_
  refine ol_val (v := V0_0) (by exact xr_move rfl rfl) rfl rfl rfl ?_
  refine ol_val (v := .bool (isNilV V0_0)) (by exact xr_eqNil rfl Try.underlying22 rfl rfl R0_0) rfl rfl rfl ?_
  refine ol_nil ?_
  rcases bt (isNilV V0_0) with c | c
  · refine cw_condT rfl c ?_
    obtain rfl := R0_0.isNil c
    refine cw_seq ?_
    refine cw_region ?_
    refine ol_val (v := .slice none 0 0) (by exact xr_assign rfl rfl) rfl rfl rfl ?_
    refine ol_nil ?_
    refine cw_ret ?_
    repeat (first | with_reducible refine thn_r ?_ | with_reducible refine blk_r ?_)
    refine fin_ret1 Try.results98 rfl ?_
    exact ⟨_, rfl, _, Own.nil _ _ _ _, rfl, fB⟩
  · refine cw_condF rfl c ?_
    refine cw_skip ?_
    refine cw_seq ?_
    refine cw_region ?_
    refine ol_op (by exact opv_buildSlice (K := (kI .u8)) (xs := ([] : List Int)) (vals := []) rfl Try.underlying22 el5 rfl rfl trivial rfl rfl rfl fB.size) rfl rfl rfl ?_
    rintro v1 w1 ⟨o1, q1, z1⟩
    refine ol_val (v := V0_0) (by exact xr_move rfl rfl) rfl rfl rfl ?_
    refine ol_op (by exact opv_append (K := (kI .u8)) rfl Try.underlying22 el5 rfl rfl rfl rfl rfl o1 (R0_0.gr q1) (by simpa using g) (fB.gr q1).size) rfl rfl rfl ?_
    rintro v2 w2 ⟨o2, q2, n2⟩
    refine ol_val (v := v2) (by exact xr_assign rfl rfl) rfl rfl rfl ?_
    refine ol_nil ?_
    refine cw_ret ?_
    repeat (first | with_reducible refine thn_r ?_ | with_reducible refine blk_r ?_)
    refine fin_ret1 Try.results98 rfl ?_
    exact ⟨_, rfl, v2, o2, rfl, (fB.gr q1).wrO q2 o1.geO⟩
end Go.Proofs.Ytjhajfkfhdnciaa

/- rickyard/block.Open: its model, and that the Go function computes it: written by gen.py. -/
set_option linter.unusedVariables false
namespace Go.Proofs.Ytjhajfkfhdnciaa
open Go Go.Xw
def block_Open.f (fu : Nat) (a0 : List Int) : Option (Int × Int × (List Int) × Bool) := ((block_right.f fu a0 : Option Bool).bind fun t4 => (if (!t4) = true then some (0, 0, [], false) else (if (4 : Int) < (List.length a0 : Int) then (if (5 : Int) < (List.length a0 : Int) then (if (8 : Int) ≤ (List.length a0 : Int) then ((bytes_Clone.f fu (cut a0 8 (List.length a0 : Int)) : Option (List Int)).bind fun t14 => some ((IntKind.i64.wrap (ix a0 4)), (IntKind.i64.wrap (ix a0 5)), t14, true)) else none) else none) else none)))
set_option maxRecDepth 100000 in
set_option maxHeartbeats 400000 in
theorem block_Open.ok (fu : Nat) (w : World) (a0 : List Int) (V0_0 : Value) (R0_0 : Rd (kI .u8) w V0_0 a0) (r : Int × Int × (List Int) × Bool) (h : block_Open.f fu a0 = some r) :
    Calls Try.prog 29 (([V0_0] : List Value).toArray) w (fun e w' => ∃ v, e = .returned v ∧ ∃ u1 : Value, ∃ o2 : Own (kI .u8) 5 w' w.heap.size u1 r.2.2.1, v = .tuple #[.int .i64 r.1, .int .i64 r.2.1, u1, .bool r.2.2.2] ∧ Gr w w') := by
  unfold block_Open.f at h
  have fB : Gr w w := Fr.refl _ _
  refine calls_cw Try.func29 rfl Try.ntmps29 rfl ?_
  refine cw_seq ?_
  refine cw_region ?_
  refine ol_val (v := .int .i64 0) (by exact xr_assign rfl rfl) rfl rfl rfl ?_
  refine ol_val (v := .int .i64 0) (by exact xr_assign rfl rfl) rfl rfl rfl ?_
  refine ol_val (v := .slice none 0 0) (by exact xr_assign rfl rfl) rfl rfl rfl ?_
  refine ol_val (v := .bool false) (by exact xr_assign rfl rfl) rfl rfl rfl ?_
  refine ol_nil ?_
  refine cw_seq ?_
  refine cw_seq ?_
  refine cw_region ?_
  refine ol_val (v := V0_0) (by exact xr_move rfl rfl) rfl rfl rfl ?_
  obtain ⟨t4, k5, h⟩ := bs h
  refine ol_op (by exact opv_call rfl cal97 (ac rfl an) (block_right.ok fu _ a0 V0_0 (R0_0.gr fB) _ k5)) rfl rfl rfl ?_
  rintro _ w7 ⟨rfl, q6⟩
  have fB := fB.gr q6
  refine ol_val (v := .bool (!t4)) (by exact xr_not rfl rfl) rfl rfl rfl ?_
  refine ol_nil ?_
  rcases is h with ⟨c8, h⟩ | ⟨c8, h⟩
  · refine cw_condT rfl c8 ?_
    refine cw_seq ?_
    refine cw_region ?_
    refine ol_val (v := .int .i64 0) (by exact xr_assign rfl rfl) rfl rfl rfl ?_
    refine ol_val (v := .int .i64 0) (by exact xr_assign rfl rfl) rfl rfl rfl ?_
    refine ol_val (v := .slice none 0 0) (by exact xr_assign rfl rfl) rfl rfl rfl ?_
    refine ol_val (v := .bool false) (by exact xr_assign rfl rfl) rfl rfl rfl ?_
    refine ol_nil ?_
    refine cw_ret ?_
    repeat (first | with_reducible refine thn_r ?_ | with_reducible refine blk_r ?_)
    obtain rfl := Option.some.inj h
    refine fin_ret4 Try.results29 rfl rfl rfl rfl ?_
    exact ⟨_, rfl, (.slice none 0 0), Own.nil _ _ _ _, rfl, fB⟩
  · refine cw_condF rfl c8 ?_
    refine cw_skip ?_
    refine cw_seq ?_
    obtain ⟨g9, h⟩ := gs h
    obtain ⟨g10, h⟩ := gs h
    obtain ⟨g12, h⟩ := gs h
    obtain ⟨t14, k15, h⟩ := bs h
    refine cw_drawL 12 [fun vz wz => vz = (V0_0 : Value), fun vz wz => vz = (.pointer (some ⟨(sb V0_0), so V0_0 + Int.toNat 4 * 1, none⟩) : Value), fun vz wz => vz = (.int .u8 (ix a0 4) : Value), fun vz wz => vz = (.int .i64 (IntKind.i64.wrap (ix a0 4)) : Value), fun vz wz => vz = (V0_0 : Value), fun vz wz => vz = (.pointer (some ⟨(sb V0_0), so V0_0 + Int.toNat 5 * 1, none⟩) : Value), fun vz wz => vz = (.int .u8 (ix a0 5) : Value), fun vz wz => vz = (.int .i64 (IntKind.i64.wrap (ix a0 5)) : Value), fun vz wz => vz = (V0_0 : Value), fun vz wz => ∃ u13 : Value, ∃ r11 : Rd (kI .u8) wz u13 (cut a0 8 (List.length a0 : Int)), vz = (u13 : Value), fun vz wz => ∃ u16 : Value, ∃ o17 : Own (kI .u8) 5 wz w.heap.size u16 t14, vz = (u16 : Value), fun vz wz => vz = (.int .i64 (IntKind.i64.wrap (ix a0 4)) : Value)] mo rfl ⟨fun _ _ _ h _ => h, fun _ _ _ h _ => h, fun _ _ _ h _ => h, fun _ _ _ h _ => h, fun _ _ _ h _ => h, fun _ _ _ h _ => h, fun _ _ _ h _ => h, fun _ _ _ h _ => h, fun _ _ _ h _ => h, fun _ _ _ ⟨u13, r11, h⟩ q => ⟨u13, r11.gr q, h⟩, fun _ _ _ ⟨u16, o17, h⟩ q => ⟨u16, o17.gr q, h⟩, fun _ _ _ h _ => h, trivial⟩ ?_ ?_
    · refine ⟨?_, ?_, ?_, ?_, ?_, ?_, ?_, ?_, ?_, ?_, ?_, ?_, trivial⟩
      · intro ρz wz hz hk hd
        exact sk_val (v := V0_0) (by exact xr_move rfl ((hk 0 rfl).trans rfl)) rfl rfl
      · intro ρz wz hz hk hd
        have d9 := hd 0 rfl 9 rfl
        exact sk_val (by exact xr_indexR (K := (kI .u8)) (v := V0_0) rfl Try.underlying22 sz5 d9 (R0_0.gr (fB.gr hz)) rfl (by decide) g9) rfl rfl
      · intro ρz wz hz hk hd
        have d10 := hd 1 rfl 10 rfl
        exact sk_val (v := .int .u8 (ix a0 4)) (by exact xr_load1 (v := .int .u8 (ix a0 4)) rfl ag5 d10 ((R0_0.gr (fB.gr hz)).elem (by decide) g9)) rfl rfl
      · intro ρz wz hz hk hd
        have d11 := hd 2 rfl 11 rfl
        exact sk_val (v := .int .i64 (IntKind.i64.wrap (ix a0 4))) (by exact xr_conv rfl Try.underlying5 Try.underlying3 d11) rfl rfl
      · intro ρz wz hz hk hd
        exact sk_val (v := V0_0) (by exact xr_move rfl ((hk 0 rfl).trans rfl)) rfl rfl
      · intro ρz wz hz hk hd
        have d13 := hd 4 rfl 13 rfl
        exact sk_val (by exact xr_indexR (K := (kI .u8)) (v := V0_0) rfl Try.underlying22 sz5 d13 (R0_0.gr (fB.gr hz)) rfl (by decide) g10) rfl rfl
      · intro ρz wz hz hk hd
        have d14 := hd 5 rfl 14 rfl
        exact sk_val (v := .int .u8 (ix a0 5)) (by exact xr_load1 (v := .int .u8 (ix a0 5)) rfl ag5 d14 ((R0_0.gr (fB.gr hz)).elem (by decide) g10)) rfl rfl
      · intro ρz wz hz hk hd
        have d15 := hd 6 rfl 15 rfl
        exact sk_val (v := .int .i64 (IntKind.i64.wrap (ix a0 5))) (by exact xr_conv rfl Try.underlying5 Try.underlying3 d15) rfl rfl
      · intro ρz wz hz hk hd
        exact sk_val (v := V0_0) (by exact xr_move rfl ((hk 0 rfl).trans rfl)) rfl rfl
      · intro ρz wz hz hk hd
        have d17 := hd 8 rfl 17 rfl
        exact sk_val (by exact xr_slice_l (K := (kI .u8)) (v := V0_0) rfl Try.underlying22 sz5 d17 (R0_0.gr (fB.gr hz)) rfl (by decide) g12) rfl ⟨_, (R0_0.gr (fB.gr hz)).cut (lo := 8) (hi := (List.length a0 : Int)) (by decide) g12 (Int.le_refl _), rfl⟩
      · intro ρz wz hz hk hd
        obtain ⟨u13, r11, d18⟩ := hd 9 rfl 18 rfl
        refine sk_op (by exact opv_call rfl cal98 (ac d18 an) (bytes_Clone.ok fu _ (cut a0 8 (List.length a0 : Int)) u13 (r11) _ k15)) rfl ?_
        rintro u16 wy ⟨_, o17, rfl, q19⟩
        exact ⟨⟨u16, Own.base o17 ((Nat.le_trans fB.size hz.size)), rfl⟩, q19⟩
      · intro ρz wz hz hk hd
        have d12 := hd 3 rfl 12 rfl
        exact sk_val (v := .int .i64 (IntKind.i64.wrap (ix a0 4))) (by exact xr_assign rfl d12) rfl rfl
    · intro ρ20 w21 q22 hk hd
      have e2 := hd 11 rfl 2 rfl
      have e16 := hd 7 rfl 16 rfl
      obtain ⟨u23, o24, e19⟩ := hd 10 rfl 19 rfl
      have fB := fB.gr q22
      refine ol_val (v := .int .i64 (IntKind.i64.wrap (ix a0 5))) (by exact xr_assign rfl e16) rfl rfl rfl ?_
      refine ol_val (v := u23) (by exact xr_assign rfl e19) rfl rfl rfl ?_
      refine ol_val (v := .bool true) (by exact xr_assign rfl rfl) rfl rfl rfl ?_
      refine ol_nil ?_
      refine cw_ret ?_
      repeat (first | with_reducible refine thn_r ?_ | with_reducible refine blk_r ?_)
      obtain rfl := Option.some.inj h
      refine fin_ret4 Try.results29 e2 rfl rfl rfl ?_
      exact ⟨_, rfl, u23, o24, rfl, fB⟩
end Go.Proofs.Ytjhajfkfhdnciaa

/- rickyard/label.GetQueue: its model, and that the Go function computes it: written by gen.py. -/
set_option linter.unusedVariables false
namespace Go.Proofs.Ytjhajfkfhdnciaa
open Go Go.Xw
def label_GetQueue.s0 (fu : Nat) (t7 : Int × Int × (List Int) × Bool) : (Int × S_api_Queue) → Option (Sum S_api_Queue (Int × S_api_Queue)) := fun s53 => (if (decide (s53.1 < 12)) = true then (if (0 : Int) ≤ (IntKind.i64.wrap (4 + (IntKind.i64.wrap (2 * s53.1)))) ∧ (IntKind.i64.wrap (4 + (IntKind.i64.wrap (2 * s53.1)))) ≤ (IntKind.i64.wrap ((IntKind.i64.wrap (4 + (IntKind.i64.wrap (2 * s53.1)))) + 2)) ∧ (IntKind.i64.wrap ((IntKind.i64.wrap (4 + (IntKind.i64.wrap (2 * s53.1)))) + 2)) ≤ (List.length t7.2.2.1 : Int) then ((octet_Read.f fu (cut t7.2.2.1 (IntKind.i64.wrap (4 + (IntKind.i64.wrap (2 * s53.1)))) (IntKind.i64.wrap ((IntKind.i64.wrap (4 + (IntKind.i64.wrap (2 * s53.1)))) + 2))) : Option Int).bind fun t63 => (if 0 ≤ s53.1 ∧ s53.1 < 12 then some (Sum.inr ((IntKind.i64.wrap (s53.1 + 1)), (⟨s53.2.Name, s53.2.Count, (Arr.set s53.2.Roots s53.1 (IntKind.i64.wrap t63))⟩ : S_api_Queue))) else none)) else none) else some (Sum.inl (s53.2)))
def label_GetQueue.f (fu : Nat) (a0 : List Int) : Option (S_api_Queue × Bool) := ((block_Open.f fu a0 : Option (Int × Int × (List Int) × Bool)).bind fun t7 => (((if (!t7.2.2.2) = true then some (true) else (if (!decide (t7.1 = 5)) = true then some (true) else (if (decide (t7.2.1 > 24)) = true then some (true) else ((octet_Noughts.f fu t7.2.2.1 (IntKind.i64.wrap (28 + t7.2.1)) (IntKind.i64.wrap ((IntKind.i64.wrap ((List.length t7.2.2.1 : Int) - 28)) - t7.2.1)) : Option Bool).bind fun t19 => some ((!t19)))))) : Option Bool).bind fun x14 => (if x14 = true then some ((⟨[], (0 : Int), (Arr.rep 12 (0 : Int))⟩ : S_api_Queue), false) else (if (0 : Int) ≤ 28 ∧ 28 ≤ (IntKind.i64.wrap (28 + t7.2.1)) ∧ (IntKind.i64.wrap (28 + t7.2.1)) ≤ (List.length t7.2.2.1 : Int) then (if (4 : Int) ≤ (List.length t7.2.2.1 : Int) then ((octet_Read.f fu (cut t7.2.2.1 0 4) : Option Int).bind fun t35 => ((loopM (label_GetQueue.s0 fu t7) fu (0, (⟨(List.map toB (cut t7.2.2.1 28 (IntKind.i64.wrap (28 + t7.2.1)))), (IntKind.i64.wrap t35), (Arr.rep 12 (0 : Int))⟩ : S_api_Queue))).bind fun e54 => ((label_RightQueue.f fu e54 : Option Bool).bind fun t73 => (if (!t73) = true then some ((⟨[], (0 : Int), (Arr.rep 12 (0 : Int))⟩ : S_api_Queue), false) else some (e54, true))))) else none) else none))))
set_option maxRecDepth 100000 in
set_option maxHeartbeats 400000 in
theorem label_GetQueue.ok (fu : Nat) (w : World) (a0 : List Int) (V0_0 : Value) (R0_0 : Rd (kI .u8) w V0_0 a0) (r : S_api_Queue × Bool) (h : label_GetQueue.f fu a0 = some r) :
    Calls Try.prog 77 (([V0_0] : List Value).toArray) w (fun e w' => ∃ v, e = .returned v ∧ v = .tuple #[aggV [Seg.cell (sv r.1.Name), Seg.cell (.int .i64 r.1.Count), Kd.seg (kA 12 (kI .i64)) r.1.Roots], .bool r.2] ∧ Gr w w') := by
  unfold label_GetQueue.f at h
  have fB : Gr w w := Fr.refl _ _
  refine calls_cw Try.func77 rfl Try.ntmps77 rfl ?_
  refine cw_seq ?_
  refine cw_region ?_
  refine ol_op (by exact opv_alloc (ss := [Seg.cell (sv []), Seg.cell (.int .i64 (0 : Int)), Kd.seg (kA 12 (kI .i64)) (Arr.rep 12 (0 : Int))]) rfl ze98 rfl) rfl rfl rfl ?_
  rintro _ w6 ⟨G1, rfl, b2, q3, z4⟩
  have z4 := Nat.le_trans fB.size z4
  have fB := fB.gr q3
  refine ol_val (v := .bool false) (by exact xr_assign rfl rfl) rfl rfl rfl ?_
  refine ol_nil ?_
  refine cw_seq ?_
  refine cw_region ?_
  refine ol_val (v := V0_0) (by exact xr_move rfl rfl) rfl rfl rfl ?_
  obtain ⟨t7, k8, h⟩ := bs h
  refine ol_op (by exact opv_call rfl cal29 (ac rfl an) (block_Open.ok fu _ a0 V0_0 (R0_0.gr fB) _ k8)) rfl rfl rfl ?_
  rintro _ w13 ⟨u9, o10, rfl, q12⟩
  have o10 := Own.base o10 fB.size
  have b2 := b2.gr q12
  have fB := fB.gr q12
  refine ol_val (v := .tuple #[.int .i64 t7.1, .int .i64 t7.2.1, u9, .bool t7.2.2.2]) (by exact xr_move rfl rfl) rfl rfl rfl ?_
  refine ol_val (v := .int .i64 t7.1) (by exact xr_extract rfl rfl rfl) rfl rfl rfl ?_
  refine ol_val (v := .int .i64 t7.2.1) (by exact xr_extract rfl rfl rfl) rfl rfl rfl ?_
  refine ol_val (v := u9) (by exact xr_extract rfl rfl rfl) rfl rfl rfl ?_
  refine ol_val (v := .bool t7.2.2.2) (by exact xr_extract rfl rfl rfl) rfl rfl rfl ?_
  refine ol_val (v := .int .i64 t7.1) (by exact xr_assign rfl rfl) rfl rfl rfl ?_
  refine ol_val (v := .int .i64 t7.2.1) (by exact xr_assign rfl rfl) rfl rfl rfl ?_
  refine ol_val (v := u9) (by exact xr_assign rfl rfl) rfl rfl rfl ?_
  refine ol_val (v := .bool t7.2.2.2) (by exact xr_assign rfl rfl) rfl rfl rfl ?_
  refine ol_nil ?_
  refine cw_seq ?_
  refine cw_seq ?_
  obtain ⟨x14, j15, h⟩ := bs h
  refine cw_mid (fun ρ' w' => ρ' 2 = .pointer (some ⟨G1, 0, none⟩) ∧ ρ' 5 = .int .i64 t7.2.1 ∧ ρ' 6 = u9 ∧ ρ' 39 = .bool x14 ∧ Gr w13 w') ?_ ?_
  · skip
    refine cw_region ?_
    refine ol_val (v := .bool t7.2.2.2) (by exact xr_move rfl rfl) rfl rfl rfl ?_
    refine ol_val (v := .bool (!t7.2.2.2)) (by exact xr_not rfl rfl) rfl rfl rfl ?_
    refine ol_val (v := .bool (!t7.2.2.2)) (by exact xr_move rfl rfl) rfl rfl rfl ?_
    rcases is j15 with ⟨c16, j15⟩ | ⟨c16, j15⟩
    · skip
      refine ol_gskip rfl rfl rfl rfl rfl c16 ?_
      refine ol_gskip rfl rfl rfl rfl rfl c16 ?_
      refine ol_val (v := .bool true) (by exact xr_pickT rfl rfl c16 rfl) rfl rfl rfl ?_
      refine ol_val (v := .bool true) (by exact xr_move rfl rfl) rfl rfl rfl ?_
      refine ol_gskip rfl rfl rfl rfl rfl rfl ?_
      refine ol_gskip rfl rfl rfl rfl rfl rfl ?_
      refine ol_val (v := .bool true) (by exact xr_pickT rfl rfl rfl rfl) rfl rfl rfl ?_
      refine ol_val (v := .bool true) (by exact xr_move rfl rfl) rfl rfl rfl ?_
      refine ol_gskip rfl rfl rfl rfl rfl rfl ?_
      refine ol_gskip rfl rfl rfl rfl rfl rfl ?_
      refine ol_gskip rfl rfl rfl rfl rfl rfl ?_
      refine ol_gskip rfl rfl rfl rfl rfl rfl ?_
      refine ol_gskip rfl rfl rfl rfl rfl rfl ?_
      refine ol_gskip rfl rfl rfl rfl rfl rfl ?_
      refine ol_gskip rfl rfl rfl rfl rfl rfl ?_
      refine ol_gskip rfl rfl rfl rfl rfl rfl ?_
      refine ol_gskip rfl rfl rfl rfl rfl rfl ?_
      refine ol_gskip rfl rfl rfl rfl rfl rfl ?_
      refine ol_val (v := .bool true) (by exact xr_pickT rfl rfl rfl rfl) rfl rfl rfl ?_
      refine ol_nil ?_
      obtain rfl := Option.some.inj j15
      refine thn_i ?_
      exact ⟨rfl, rfl, rfl, rfl, Fr.refl _ _⟩
    · skip
      refine ol_gval (v := .int .i64 t7.1) (by exact xr_move rfl rfl) rfl rfl rfl rfl rfl c16 ?_
      refine ol_gval (v := .bool (!decide (t7.1 = 5))) (by exact xr_neI rfl Try.underlying3 rfl rfl rfl) rfl rfl rfl rfl rfl c16 ?_
      refine ol_val (v := .bool (!decide (t7.1 = 5))) (by exact xr_pickF rfl rfl c16 rfl) rfl rfl rfl ?_
      refine ol_val (v := .bool (!decide (t7.1 = 5))) (by exact xr_move rfl rfl) rfl rfl rfl ?_
      rcases is j15 with ⟨c17, j15⟩ | ⟨c17, j15⟩
      · skip
        refine ol_gskip rfl rfl rfl rfl rfl c17 ?_
        refine ol_gskip rfl rfl rfl rfl rfl c17 ?_
        refine ol_val (v := .bool true) (by exact xr_pickT rfl rfl c17 rfl) rfl rfl rfl ?_
        refine ol_val (v := .bool true) (by exact xr_move rfl rfl) rfl rfl rfl ?_
        refine ol_gskip rfl rfl rfl rfl rfl rfl ?_
        refine ol_gskip rfl rfl rfl rfl rfl rfl ?_
        refine ol_gskip rfl rfl rfl rfl rfl rfl ?_
        refine ol_gskip rfl rfl rfl rfl rfl rfl ?_
        refine ol_gskip rfl rfl rfl rfl rfl rfl ?_
        refine ol_gskip rfl rfl rfl rfl rfl rfl ?_
        refine ol_gskip rfl rfl rfl rfl rfl rfl ?_
        refine ol_gskip rfl rfl rfl rfl rfl rfl ?_
        refine ol_gskip rfl rfl rfl rfl rfl rfl ?_
        refine ol_gskip rfl rfl rfl rfl rfl rfl ?_
        refine ol_val (v := .bool true) (by exact xr_pickT rfl rfl rfl rfl) rfl rfl rfl ?_
        refine ol_nil ?_
        obtain rfl := Option.some.inj j15
        refine thn_i ?_
        exact ⟨rfl, rfl, rfl, rfl, Fr.refl _ _⟩
      · skip
        refine ol_gval (v := .int .i64 t7.2.1) (by exact xr_move rfl rfl) rfl rfl rfl rfl rfl c17 ?_
        refine ol_gval (v := .bool (decide (t7.2.1 > 24))) (by exact xr_gtr rfl rfl rfl) rfl rfl rfl rfl rfl c17 ?_
        refine ol_val (v := .bool (decide (t7.2.1 > 24))) (by exact xr_pickF rfl rfl c17 rfl) rfl rfl rfl ?_
        refine ol_val (v := .bool (decide (t7.2.1 > 24))) (by exact xr_move rfl rfl) rfl rfl rfl ?_
        rcases is j15 with ⟨c18, j15⟩ | ⟨c18, j15⟩
        · skip
          refine ol_gskip rfl rfl rfl rfl rfl c18 ?_
          refine ol_gskip rfl rfl rfl rfl rfl c18 ?_
          refine ol_gskip rfl rfl rfl rfl rfl c18 ?_
          refine ol_gskip rfl rfl rfl rfl rfl c18 ?_
          refine ol_gskip rfl rfl rfl rfl rfl c18 ?_
          refine ol_gskip rfl rfl rfl rfl rfl c18 ?_
          refine ol_gskip rfl rfl rfl rfl rfl c18 ?_
          refine ol_gskip rfl rfl rfl rfl rfl c18 ?_
          refine ol_gskip rfl rfl rfl rfl rfl c18 ?_
          refine ol_gskip rfl rfl rfl rfl rfl c18 ?_
          refine ol_val (v := .bool true) (by exact xr_pickT rfl rfl c18 rfl) rfl rfl rfl ?_
          refine ol_nil ?_
          obtain rfl := Option.some.inj j15
          refine thn_i ?_
          exact ⟨rfl, rfl, rfl, rfl, Fr.refl _ _⟩
        · skip
          refine ol_gval (v := u9) (by exact xr_move rfl rfl) rfl rfl rfl rfl rfl c18 ?_
          refine ol_gval (v := .int .i64 t7.2.1) (by exact xr_move rfl rfl) rfl rfl rfl rfl rfl c18 ?_
          refine ol_gval (v := .int .i64 (IntKind.i64.wrap (28 + t7.2.1))) (by exact xr_add rfl rfl rfl) rfl rfl rfl rfl rfl c18 ?_
          refine ol_gval (v := u9) (by exact xr_move rfl rfl) rfl rfl rfl rfl rfl c18 ?_
          refine ol_gval (v := .int .i64 (List.length t7.2.2.1 : Int)) (by exact xr_lenR rfl Try.underlying22 rfl o10.rd) rfl rfl rfl rfl rfl c18 ?_
          refine ol_gval (v := .int .i64 (IntKind.i64.wrap ((List.length t7.2.2.1 : Int) - 28))) (by exact xr_sub rfl rfl rfl) rfl rfl rfl rfl rfl c18 ?_
          refine ol_gval (v := .int .i64 t7.2.1) (by exact xr_move rfl rfl) rfl rfl rfl rfl rfl c18 ?_
          refine ol_gval (v := .int .i64 (IntKind.i64.wrap ((IntKind.i64.wrap ((List.length t7.2.2.1 : Int) - 28)) - t7.2.1))) (by exact xr_sub rfl rfl rfl) rfl rfl rfl rfl rfl c18 ?_
          obtain ⟨t19, k20, j15⟩ := bs j15
          refine ol_gop (by exact opv_call rfl cal102 (ac rfl (ac rfl (ac rfl an))) (octet_Noughts.ok fu _ t7.2.2.1 u9 (o10.rd) (IntKind.i64.wrap (28 + t7.2.1)) (IntKind.i64.wrap ((IntKind.i64.wrap ((List.length t7.2.2.1 : Int) - 28)) - t7.2.1)) _ k20)) rfl rfl rfl rfl rfl c18 ?_
          rintro _ w22 ⟨rfl, q21⟩
          have b2 := b2.gr q21
          have o10 := o10.gr q21
          have fB := fB.gr q21
          refine ol_gval (v := .bool (!t19)) (by exact xr_not rfl rfl) rfl rfl rfl rfl rfl c18 ?_
          refine ol_val (v := .bool (!t19)) (by exact xr_pickF rfl rfl c18 rfl) rfl rfl rfl ?_
          refine ol_nil ?_
          obtain rfl := Option.some.inj j15
          refine thn_i ?_
          exact ⟨rfl, rfl, rfl, rfl, q21⟩
  · skip
    rintro ρ23 w24 ⟨e2, e5, e6, e39, q25⟩
    have b2 := b2.gr q25
    have o10 := o10.gr q25
    have fB := fB.gr q25
    rcases is h with ⟨c26, h⟩ | ⟨c26, h⟩
    · refine cw_condT e39 c26 ?_
      refine cw_seq ?_
      refine cw_region ?_
      refine ol_val (v := aggV [Seg.cell (sv []), Seg.cell (.int .i64 (0 : Int)), Kd.seg (kA 12 (kI .i64)) (Arr.rep 12 (0 : Int))]) (by exact xr_build (vals := []) rfl trivial (bl98_ _)) rfl rfl rfl ?_
      refine ol_op0 (by exact opv_store (ss' := [Seg.cell (sv []), Seg.cell (.int .i64 (0 : Int)), Kd.seg (kA 12 (kI .i64)) (Arr.rep 12 (0 : Int))]) (xs := cellsOf [Seg.cell (sv []), Seg.cell (.int .i64 (0 : Int)), Kd.seg (kA 12 (kI .i64)) (Arr.rep 12 (0 : Int))]) rfl sz98 e2 rfl rfl (len_cellsOf _) (one_cellsOf _) b2 (Spl.segs _ 0 3 [Seg.cell (sv []), Seg.cell (.int .i64 (0 : Int)), Kd.seg (kA 12 (kI .i64)) (Arr.rep 12 (0 : Int))] rfl rfl)) rfl rfl ?_
      rintro _ w28 ⟨b2, q27⟩
      have fB := fB.wr q27 z4
      refine ol_val (v := .bool false) (by exact xr_assign rfl rfl) rfl rfl rfl ?_
      refine ol_nil ?_
      refine cw_ret ?_
      repeat (first | with_reducible refine thn_r ?_ | with_reducible refine blk_r ?_)
      obtain rfl := Option.some.inj h
      refine fin_cell_tmp Try.results77 e2 ag98 sz98 b2 (by rfl) rfl ?_
      exact ⟨_, rfl, rfl, fB⟩
    · refine cw_condF e39 c26 ?_
      refine cw_skip ?_
      refine cw_seq ?_
      obtain ⟨g30, h⟩ := gs h
      obtain ⟨g33, h⟩ := gs h
      obtain ⟨t35, k36, h⟩ := bs h
      refine cw_drawL 11 [fun vz wz => vz = (u9 : Value), fun vz wz => vz = (.int .i64 t7.2.1 : Value), fun vz wz => vz = (.int .i64 (IntKind.i64.wrap (28 + t7.2.1)) : Value), fun vz wz => ∃ u31 : Value, ∃ r29 : Rd (kI .u8) wz u31 (cut t7.2.2.1 28 (IntKind.i64.wrap (28 + t7.2.1))), vz = (u31 : Value), fun vz wz => vz = (sv (List.map toB (cut t7.2.2.1 28 (IntKind.i64.wrap (28 + t7.2.1)))) : Value), fun vz wz => vz = (u9 : Value), fun vz wz => ∃ u34 : Value, ∃ r32 : Rd (kI .u8) wz u34 (cut t7.2.2.1 0 4), vz = (u34 : Value), fun vz wz => vz = (.int .u64 t35 : Value), fun vz wz => vz = (.int .i64 (IntKind.i64.wrap t35) : Value), fun vz wz => vz = (aggV [Seg.cell (sv (List.map toB (cut t7.2.2.1 28 (IntKind.i64.wrap (28 + t7.2.1))))), Seg.cell (.int .i64 (IntKind.i64.wrap t35)), Kd.seg (kA 12 (kI .i64)) (Arr.rep 12 (0 : Int))] : Value), fun vz wz => ∃ G38 : Nat, ∃ b39 : Blk wz G38 98 [Seg.cell (sv []), Seg.cell (.int .i64 (0 : Int)), Kd.seg (kA 12 (kI .i64)) (Arr.rep 12 (0 : Int))], ∃ z41 : w24.heap.size ≤ G38, vz = (.pointer (some ⟨G38, 0, none⟩) : Value)] mo rfl ⟨fun _ _ _ h _ => h, fun _ _ _ h _ => h, fun _ _ _ h _ => h, fun _ _ _ ⟨u31, r29, h⟩ q => ⟨u31, r29.gr q, h⟩, fun _ _ _ h _ => h, fun _ _ _ h _ => h, fun _ _ _ ⟨u34, r32, h⟩ q => ⟨u34, r32.gr q, h⟩, fun _ _ _ h _ => h, fun _ _ _ h _ => h, fun _ _ _ h _ => h, fun _ _ _ ⟨G38, b39, z41, h⟩ q => ⟨G38, b39.gr q, z41, h⟩, trivial⟩ ?_ ?_
      · refine ⟨?_, ?_, ?_, ?_, ?_, ?_, ?_, ?_, ?_, ?_, ?_, trivial⟩
        · intro ρz wz hz hk hd
          exact sk_val (v := u9) (by exact xr_move rfl ((hk 6 rfl).trans e6)) rfl rfl
        · intro ρz wz hz hk hd
          exact sk_val (v := .int .i64 t7.2.1) (by exact xr_move rfl ((hk 5 rfl).trans e5)) rfl rfl
        · intro ρz wz hz hk hd
          have d42 := hd 1 rfl 42 rfl
          exact sk_val (v := .int .i64 (IntKind.i64.wrap (28 + t7.2.1))) (by exact xr_add rfl rfl d42) rfl rfl
        · intro ρz wz hz hk hd
          have d41 := hd 0 rfl 41 rfl
          have d43 := hd 2 rfl 43 rfl
          exact sk_val (by exact xr_slice_lh (K := (kI .u8)) (v := u9) rfl Try.underlying22 sz5 d41 (o10.gr hz).rd rfl d43 g30.1 g30.2.1 g30.2.2) rfl ⟨_, (o10.gr hz).rd.cut (lo := 28) (hi := (IntKind.i64.wrap (28 + t7.2.1))) g30.1 g30.2.1 g30.2.2, rfl⟩
        · intro ρz wz hz hk hd
          obtain ⟨u31, r29, d44⟩ := hd 3 rfl 44 rfl
          exact sk_val (by exact xr_toStr rfl Try.underlying22 Try.underlying5 Try.underlying9 d44 r29) rfl rfl
        · intro ρz wz hz hk hd
          exact sk_val (v := u9) (by exact xr_move rfl ((hk 6 rfl).trans e6)) rfl rfl
        · intro ρz wz hz hk hd
          have d46 := hd 5 rfl 46 rfl
          exact sk_val (by exact xr_slice_h (K := (kI .u8)) (v := u9) rfl Try.underlying22 sz5 d46 (o10.gr hz).rd rfl (by decide) g33) rfl ⟨_, (o10.gr hz).rd.cut (lo := 0) (hi := 4) (by decide) (by decide) g33, rfl⟩
        · intro ρz wz hz hk hd
          obtain ⟨u34, r32, d47⟩ := hd 6 rfl 47 rfl
          refine sk_op (by exact opv_call rfl cal112 (ac d47 an) (octet_Read.ok fu _ (cut t7.2.2.1 0 4) u34 (r32) _ k36)) rfl ?_
          rintro _ wy ⟨rfl, q37⟩
          exact ⟨rfl, q37⟩
        · intro ρz wz hz hk hd
          have d48 := hd 7 rfl 48 rfl
          exact sk_val (v := .int .i64 (IntKind.i64.wrap t35)) (by exact xr_conv rfl Try.underlying129 Try.underlying3 d48) rfl rfl
        · intro ρz wz hz hk hd
          have d45 := hd 4 rfl 45 rfl
          have d49 := hd 8 rfl 49 rfl
          exact sk_val (by exact xr_build (vals := [(0, sv (List.map toB (cut t7.2.2.1 28 (IntKind.i64.wrap (28 + t7.2.1))))), (1, .int .i64 (IntKind.i64.wrap t35))]) rfl ⟨rfl, d45, ⟨rfl, d49, trivial⟩⟩ (bl98_0_1 (List.map toB (cut t7.2.2.1 28 (IntKind.i64.wrap (28 + t7.2.1)))) (IntKind.i64.wrap t35) _)) rfl rfl
        · intro ρz wz hz hk hd
          refine sk_op (by exact opv_alloc (ss := [Seg.cell (sv []), Seg.cell (.int .i64 (0 : Int)), Kd.seg (kA 12 (kI .i64)) (Arr.rep 12 (0 : Int))]) rfl ze98 rfl) rfl ?_
          rintro _ wy ⟨G38, rfl, b39, q40, z41⟩
          exact ⟨⟨G38, b39, Nat.le_trans hz.size z41, rfl⟩, q40⟩
      · intro ρ43 w44 q45 hk hd
        have e2 := (hk 2 rfl).trans e2
        have e6 := (hk 6 rfl).trans e6
        obtain ⟨G46, b47, z48, e8⟩ := hd 10 rfl 8 rfl
        have e50 := hd 9 rfl 50 rfl
        have n49 := b2.ne z48
        have z48 := Nat.le_trans fB.size z48
        have b2 := b2.gr q45
        have o10 := o10.gr q45
        have fB := fB.gr q45
        have f51 := off_ty b47 o10 (by decide)
        refine ol_op0 (by exact opv_store (ss' := [Seg.cell (sv (List.map toB (cut t7.2.2.1 28 (IntKind.i64.wrap (28 + t7.2.1))))), Seg.cell (.int .i64 (IntKind.i64.wrap t35)), Kd.seg (kA 12 (kI .i64)) (Arr.rep 12 (0 : Int))]) (xs := cellsOf [Seg.cell (sv (List.map toB (cut t7.2.2.1 28 (IntKind.i64.wrap (28 + t7.2.1))))), Seg.cell (.int .i64 (IntKind.i64.wrap t35)), Kd.seg (kA 12 (kI .i64)) (Arr.rep 12 (0 : Int))]) rfl sz98 e8 e50 rfl (len_cellsOf _) (one_cellsOf _) b47 (Spl.segs _ 0 3 [Seg.cell (sv (List.map toB (cut t7.2.2.1 28 (IntKind.i64.wrap (28 + t7.2.1))))), Seg.cell (.int .i64 (IntKind.i64.wrap t35)), Kd.seg (kA 12 (kI .i64)) (Arr.rep 12 (0 : Int))] rfl rfl)) rfl rfl ?_
        rintro _ w52 ⟨b47, q50⟩
        have b2 := b2.wr q50 n49
        have o10 := o10.wr q50 f51
        have fB := fB.wr q50 z48
        refine ol_nil ?_
        refine cw_seq ?_
        refine cw_seq ?_
        refine cw_region ?_
        refine ol_val (v := .int .i64 0) (by exact xr_move rfl rfl) rfl rfl rfl ?_
        refine ol_nil ?_
        obtain ⟨e54, l55, h56⟩ := bs h
        refine cw_mid (fun ρ' w' => ρ' 2 = .pointer (some ⟨G1, 0, none⟩) ∧ ρ' 8 = .pointer (some ⟨G46, 0, none⟩) ∧ Blk w' G1 98 [Seg.cell (sv []), Seg.cell (.int .i64 (0 : Int)), Kd.seg (kA 12 (kI .i64)) (Arr.rep 12 (0 : Int))] ∧ Blk w' G46 98 [Seg.cell (sv e54.Name), Seg.cell (.int .i64 e54.Count), Kd.seg (kA 12 (kI .i64)) e54.Roots] ∧ Gr w w') ?_ ?_
        · refine cw_block ?_
          refine cw_round (fun (s53 : Int × S_api_Queue) ρ' w' => ∃ o10 : Own (kI .u8) 5 w' w.heap.size u9 t7.2.2.1, ρ' 2 = .pointer (some ⟨G1, 0, none⟩) ∧ ρ' 6 = u9 ∧ ρ' 8 = .pointer (some ⟨G46, 0, none⟩) ∧ ρ' 51 = .int .i64 s53.1 ∧ Blk w' G1 98 [Seg.cell (sv []), Seg.cell (.int .i64 (0 : Int)), Kd.seg (kA 12 (kI .i64)) (Arr.rep 12 (0 : Int))] ∧ Blk w' G46 98 [Seg.cell (sv s53.2.Name), Seg.cell (.int .i64 s53.2.Count), Kd.seg (kA 12 (kI .i64)) s53.2.Roots] ∧ Gr w w') l55 ?_ ?_
          · skip
            exact ⟨o10, e2, e6, e8, rfl, b2, b47, fB⟩
          · rintro s53 x59 ρ57 w58 ⟨o10, e2, e6, e8, e51, b2, b47, fB⟩ h
            unfold label_GetQueue.s0 at h
            refine cw_seq ?_
            refine cw_region ?_
            refine ol_val (v := .bool (decide (s53.1 < 12))) (by exact xr_lss rfl e51 rfl) rfl rfl rfl ?_
            refine ol_nil ?_
            refine cw_seq ?_
            rcases is h with ⟨c60, h⟩ | ⟨c60, h⟩
            · refine cw_condT rfl c60 ?_
              refine cw_skip ?_
              refine cw_seq ?_
              refine cw_block ?_
              refine cw_seq ?_
              refine cw_region ?_
              refine ol_val (v := .int .i64 s53.1) (by exact xr_move rfl e51) rfl rfl rfl ?_
              refine ol_val (v := .int .i64 s53.1) (by exact xr_assign rfl rfl) rfl rfl rfl ?_
              refine ol_nil ?_
              refine cw_seq ?_
              refine cw_region ?_
              refine ol_val (v := .int .i64 s53.1) (by exact xr_move rfl rfl) rfl rfl rfl ?_
              refine ol_val (v := .int .i64 (IntKind.i64.wrap (2 * s53.1))) (by exact xr_mul rfl rfl rfl) rfl rfl rfl ?_
              refine ol_val (v := .int .i64 (IntKind.i64.wrap (4 + (IntKind.i64.wrap (2 * s53.1))))) (by exact xr_add rfl rfl rfl) rfl rfl rfl ?_
              refine ol_val (v := .int .i64 (IntKind.i64.wrap (4 + (IntKind.i64.wrap (2 * s53.1))))) (by exact xr_assign rfl rfl) rfl rfl rfl ?_
              refine ol_nil ?_
              refine cw_region ?_
              refine ol_val (v := .int .i64 s53.1) (by exact xr_move rfl rfl) rfl rfl rfl ?_
              refine ol_val (v := u9) (by exact xr_move rfl e6) rfl rfl rfl ?_
              refine ol_val (v := .int .i64 (IntKind.i64.wrap (4 + (IntKind.i64.wrap (2 * s53.1))))) (by exact xr_move rfl rfl) rfl rfl rfl ?_
              refine ol_val (v := .int .i64 (IntKind.i64.wrap (4 + (IntKind.i64.wrap (2 * s53.1))))) (by exact xr_move rfl rfl) rfl rfl rfl ?_
              refine ol_val (v := .int .i64 (IntKind.i64.wrap ((IntKind.i64.wrap (4 + (IntKind.i64.wrap (2 * s53.1)))) + 2))) (by exact xr_add rfl rfl rfl) rfl rfl rfl ?_
              obtain ⟨g62, h⟩ := gs h
              refine ol_val (v := subv 1 u9 (Int.toNat (IntKind.i64.wrap (4 + (IntKind.i64.wrap (2 * s53.1))))) (Int.toNat (IntKind.i64.wrap ((IntKind.i64.wrap (4 + (IntKind.i64.wrap (2 * s53.1)))) + 2)))) (by exact xr_slice_lh (K := (kI .u8)) (v := u9) rfl Try.underlying22 sz5 rfl o10.rd rfl rfl g62.1 g62.2.1 g62.2.2) rfl rfl rfl ?_
              have r61 : Rd (kI .u8) w58 (subv 1 u9 (Int.toNat (IntKind.i64.wrap (4 + (IntKind.i64.wrap (2 * s53.1))))) (Int.toNat (IntKind.i64.wrap ((IntKind.i64.wrap (4 + (IntKind.i64.wrap (2 * s53.1)))) + 2)))) (cut t7.2.2.1 (IntKind.i64.wrap (4 + (IntKind.i64.wrap (2 * s53.1)))) (IntKind.i64.wrap ((IntKind.i64.wrap (4 + (IntKind.i64.wrap (2 * s53.1)))) + 2))) := o10.rd.cut (lo := (IntKind.i64.wrap (4 + (IntKind.i64.wrap (2 * s53.1))))) (hi := (IntKind.i64.wrap ((IntKind.i64.wrap (4 + (IntKind.i64.wrap (2 * s53.1)))) + 2))) g62.1 g62.2.1 g62.2.2
              obtain ⟨t63, k64, h⟩ := bs h
              refine ol_op (by exact opv_call rfl cal112 (ac rfl an) (octet_Read.ok fu _ (cut t7.2.2.1 (IntKind.i64.wrap (4 + (IntKind.i64.wrap (2 * s53.1)))) (IntKind.i64.wrap ((IntKind.i64.wrap (4 + (IntKind.i64.wrap (2 * s53.1)))) + 2))) (subv 1 u9 (Int.toNat (IntKind.i64.wrap (4 + (IntKind.i64.wrap (2 * s53.1))))) (Int.toNat (IntKind.i64.wrap ((IntKind.i64.wrap (4 + (IntKind.i64.wrap (2 * s53.1)))) + 2)))) (r61) _ k64)) rfl rfl rfl ?_
              rintro _ w66 ⟨rfl, q65⟩
              have b2 := b2.gr q65
              have b47 := b47.gr q65
              have o10 := o10.gr q65
              have fB := fB.gr q65
              refine ol_val (v := .int .i64 (IntKind.i64.wrap t63)) (by exact xr_conv rfl Try.underlying129 Try.underlying3 rfl) rfl rfl rfl ?_
              refine ol_val (v := .pointer (some ⟨G46, 2, none⟩)) (by exact xr_fieldAddr (p := 0) (q := 2) rfl fl98_2 e8) rfl rfl rfl ?_
              obtain ⟨g67, h⟩ := gs h
              refine ol_val (v := .pointer (some ⟨G46, 2 + Int.toNat s53.1 * 1, none⟩)) (by exact xr_indexA (p := 2) (s := 1) rfl Try.underlying96 sz3 rfl rfl g67.1 g67.2) rfl rfl rfl ?_
              have f69 := off_ty b47 o10 (by decide)
              refine ol_op0 (by exact opv_store (ss' := [Seg.cell (sv s53.2.Name), Seg.cell (.int .i64 s53.2.Count), Kd.seg (kA 12 (kI .i64)) (Arr.set s53.2.Roots s53.1 (IntKind.i64.wrap t63))]) (xs := cellsOf [Seg.cell (.int .i64 (IntKind.i64.wrap t63))]) rfl sz3 rfl rfl rfl (len_cellsOf _) (one_cellsOf _) b47 (Spl.seg_in _ 2 (Kd.seg (kA 12 (kI .i64)) (Arr.set s53.2.Roots s53.1 (IntKind.i64.wrap t63))) rfl rfl (Spl.arr s53.2.Roots s53.1 (IntKind.i64.wrap t63) g67.1 g67.2 (Spl.whole ((Kd.len _ _).trans (Kd.len _ _).symm))))) rfl rfl ?_
              rintro _ w70 ⟨b47, q68⟩
              have b2 := b2.wr q68 n49
              have o10 := o10.wr q68 f69
              have fB := fB.wr q68 z48
              refine ol_nil ?_
              refine blk_i ?_
              refine cw_region ?_
              refine ol_val (v := .int .i64 (IntKind.i64.wrap (s53.1 + 1))) (by exact xr_add rfl e51 rfl) rfl rfl rfl ?_
              refine ol_val (v := .int .i64 (IntKind.i64.wrap (s53.1 + 1))) (by exact xr_move rfl rfl) rfl rfl rfl ?_
              refine ol_nil ?_
              obtain rfl := Option.some.inj h
              refine lp_in ?_
              exact ⟨o10, e2, e6, e8, rfl, b2, b47, fB⟩
            · refine cw_condF rfl c60 ?_
              refine cw_exit ?_
              repeat (first | with_reducible refine thn_e ?_ | with_reducible refine blk_e rfl ?_)
              obtain rfl := Option.some.inj h
              refine lp_exit ?_
              rintro rfl
              refine thn_x ?_
              exact ⟨e2, e8, b2, b47, fB⟩
        · rintro ρ71 w72 ⟨e2, e8, b2, b47, fB⟩
          have h := h56
          refine cw_seq ?_
          refine cw_seq ?_
          refine cw_region ?_
          refine ol_val (v := aggV [Seg.cell (sv e54.Name), Seg.cell (.int .i64 e54.Count), Kd.seg (kA 12 (kI .i64)) e54.Roots]) (by exact xr_loadS (ss := [Seg.cell (sv e54.Name), Seg.cell (.int .i64 e54.Count), Kd.seg (kA 12 (kI .i64)) e54.Roots]) rfl ag98 sz98 rfl e8 (b47.segs 0 3 rfl)) rfl rfl rfl ?_
          obtain ⟨t73, k74, h⟩ := bs h
          refine ol_op (by exact opv_call rfl cal76 (ac rfl an) (label_RightQueue.ok fu _ e54 _ k74)) rfl rfl rfl ?_
          rintro _ w76 ⟨rfl, q75⟩
          have b2 := b2.gr q75
          have b47 := b47.gr q75
          have fB := fB.gr q75
          refine ol_val (v := .bool (!t73)) (by exact xr_not rfl rfl) rfl rfl rfl ?_
          refine ol_nil ?_
          rcases is h with ⟨c77, h⟩ | ⟨c77, h⟩
          · refine cw_condT rfl c77 ?_
            refine cw_seq ?_
            refine cw_region ?_
            refine ol_val (v := aggV [Seg.cell (sv []), Seg.cell (.int .i64 (0 : Int)), Kd.seg (kA 12 (kI .i64)) (Arr.rep 12 (0 : Int))]) (by exact xr_build (vals := []) rfl trivial (bl98_ _)) rfl rfl rfl ?_
            refine ol_op0 (by exact opv_store (ss' := [Seg.cell (sv []), Seg.cell (.int .i64 (0 : Int)), Kd.seg (kA 12 (kI .i64)) (Arr.rep 12 (0 : Int))]) (xs := cellsOf [Seg.cell (sv []), Seg.cell (.int .i64 (0 : Int)), Kd.seg (kA 12 (kI .i64)) (Arr.rep 12 (0 : Int))]) rfl sz98 e2 rfl rfl (len_cellsOf _) (one_cellsOf _) b2 (Spl.segs _ 0 3 [Seg.cell (sv []), Seg.cell (.int .i64 (0 : Int)), Kd.seg (kA 12 (kI .i64)) (Arr.rep 12 (0 : Int))] rfl rfl)) rfl rfl ?_
            rintro _ w79 ⟨b2, q78⟩
            have fB := fB.wr q78 z4
            refine ol_val (v := .bool false) (by exact xr_assign rfl rfl) rfl rfl rfl ?_
            refine ol_nil ?_
            refine cw_ret ?_
            repeat (first | with_reducible refine thn_r ?_ | with_reducible refine blk_r ?_)
            obtain rfl := Option.some.inj h
            refine fin_cell_tmp Try.results77 e2 ag98 sz98 b2 (by rfl) rfl ?_
            exact ⟨_, rfl, rfl, fB⟩
          · refine cw_condF rfl c77 ?_
            refine cw_skip ?_
            refine cw_seq ?_
            refine cw_region ?_
            refine ol_val (v := aggV [Seg.cell (sv e54.Name), Seg.cell (.int .i64 e54.Count), Kd.seg (kA 12 (kI .i64)) e54.Roots]) (by exact xr_loadS (ss := [Seg.cell (sv e54.Name), Seg.cell (.int .i64 e54.Count), Kd.seg (kA 12 (kI .i64)) e54.Roots]) rfl ag98 sz98 rfl e8 (b47.segs 0 3 rfl)) rfl rfl rfl ?_
            refine ol_op0 (by exact opv_store (ss' := [Seg.cell (sv e54.Name), Seg.cell (.int .i64 e54.Count), Kd.seg (kA 12 (kI .i64)) e54.Roots]) (xs := cellsOf [Seg.cell (sv e54.Name), Seg.cell (.int .i64 e54.Count), Kd.seg (kA 12 (kI .i64)) e54.Roots]) rfl sz98 e2 rfl rfl (len_cellsOf _) (one_cellsOf _) b2 (Spl.segs _ 0 3 [Seg.cell (sv e54.Name), Seg.cell (.int .i64 e54.Count), Kd.seg (kA 12 (kI .i64)) e54.Roots] rfl rfl)) rfl rfl ?_
            rintro _ w81 ⟨b2, q80⟩
            have fB := fB.wr q80 z4
            refine ol_val (v := .bool true) (by exact xr_assign rfl rfl) rfl rfl rfl ?_
            refine ol_nil ?_
            refine cw_ret ?_
            repeat (first | with_reducible refine thn_r ?_ | with_reducible refine blk_r ?_)
            obtain rfl := Option.some.inj h
            refine fin_cell_tmp Try.results77 e2 ag98 sz98 b2 (by rfl) rfl ?_
            exact ⟨_, rfl, rfl, fB⟩
end Go.Proofs.Ytjhajfkfhdnciaa

/- rickyard/label.Trees$1: its model, and that the Go function computes it: written by gen.py. -/
set_option linter.unusedVariables false
namespace Go.Proofs.Ytjhajfkfhdnciaa
open Go Go.Xw
def label_Trees_1.f (fu : Nat) (a0 : Int) : Option Bool := some ((decide (a0 = 0)))
set_option maxRecDepth 100000 in
set_option maxHeartbeats 400000 in
theorem label_Trees_1.ok (fu : Nat) (w : World) (a0 : Int) (r : Bool) (h : label_Trees_1.f fu a0 = some r) :
    Calls Try.prog 121 (([.int .i64 a0] : List Value).toArray) w (fun e w' => ∃ v, e = .returned v ∧ v = .bool r ∧ Gr w w') := by
  unfold label_Trees_1.f at h
  have fB : Gr w w := Fr.refl _ _
  refine calls_cw Try.func121 rfl Try.ntmps121 rfl ?_
  refine cw_seq ?_
  refine cw_region ?_
  refine ol_val (v := .bool false) (by exact xr_assign rfl rfl) rfl rfl rfl ?_
  refine ol_nil ?_
  refine cw_seq ?_
  refine cw_region ?_
  refine ol_val (v := .int .i64 a0) (by exact xr_move rfl rfl) rfl rfl rfl ?_
  refine ol_val (v := .bool (decide (a0 = 0))) (by exact xr_eqI rfl Try.underlying3 rfl rfl rfl) rfl rfl rfl ?_
  refine ol_val (v := .bool (decide (a0 = 0))) (by exact xr_assign rfl rfl) rfl rfl rfl ?_
  refine ol_nil ?_
  refine cw_ret ?_
  repeat (first | with_reducible refine thn_r ?_ | with_reducible refine blk_r ?_)
  obtain rfl := Option.some.inj h
  refine fin_ret1 Try.results121 rfl ?_
  exact ⟨_, rfl, rfl, fB⟩
end Go.Proofs.Ytjhajfkfhdnciaa

/- slices.IndexFunc[[]int,int]: its model, and that the Go function computes it: written by gen.py. -/
set_option linter.unusedVariables false
namespace Go.Proofs.Ytjhajfkfhdnciaa
open Go Go.Xw
def slices_IndexFunc__label_Trees_1.s0 (fu : Nat) (a0 : List Int) : Int → Option (Sum (Sum Int Unit) Int) := fun s1 => (if (decide (s1 < (List.length a0 : Int))) = true then (if 0 ≤ s1 ∧ s1 < (List.length a0 : Int) then ((label_Trees_1.f fu (ix a0 s1) : Option Bool).bind fun t11 => (if t11 = true then some (Sum.inl (Sum.inl (s1))) else some (Sum.inr ((IntKind.i64.wrap (s1 + 1)))))) else none) else some (Sum.inl (Sum.inr ())))
def slices_IndexFunc__label_Trees_1.f (fu : Nat) (a0 : List Int) : Option Int := ((loopM (slices_IndexFunc__label_Trees_1.s0 fu a0) fu (0)).bind fun e2 => match e2 with | Sum.inl p => some p | Sum.inr x5 => some ((-1)))
set_option maxRecDepth 100000 in
set_option maxHeartbeats 400000 in
theorem slices_IndexFunc__label_Trees_1.ok (fu : Nat) (w : World) (a0 : List Int) (V0_0 : Value) (R0_0 : Rd (kI .i64) w V0_0 a0) (r : Int) (h : slices_IndexFunc__label_Trees_1.f fu a0 = some r) :
    Calls Try.prog 138 (([V0_0, Value.func (.func 121) #[] #[]] : List Value).toArray) w (fun e w' => ∃ v, e = .returned v ∧ v = .int .i64 r ∧ Gr w w') := by
  unfold slices_IndexFunc__label_Trees_1.f at h
  have fB : Gr w w := Fr.refl _ _
  refine calls_cw Try.func138 rfl Try.ntmps138 rfl ?_
  refine cw_seq ?_
  refine cw_region ?_
  refine ol_val (v := .int .i64 0) (by exact xr_assign rfl rfl) rfl rfl rfl ?_
  refine ol_nil ?_
  refine cw_seq ?_
  refine cw_seq ?_
  refine cw_region ?_
  refine ol_val (v := V0_0) (by exact xr_move rfl rfl) rfl rfl rfl ?_
  refine ol_val (v := .int .i64 (List.length a0 : Int)) (by exact xr_lenR rfl Try.underlying45 rfl (R0_0.gr fB)) rfl rfl rfl ?_
  refine ol_val (v := .int .i64 0) (by exact xr_move rfl rfl) rfl rfl rfl ?_
  refine ol_nil ?_
  obtain ⟨e2, l3, h4⟩ := bs h
  refine cw_mid (fun ρ' w' => ∃ x5, e2 = Sum.inr x5 ∧ Gr w w') ?_ ?_
  · refine cw_block ?_
    refine cw_round (fun (s1 : Int) ρ' w' => ρ' 0 = V0_0 ∧ ρ' 1 = Value.func (.func 121) #[] #[] ∧ ρ' 7 = .int .i64 (List.length a0 : Int) ∧ ρ' 8 = .int .i64 s1 ∧ Gr w w') l3 ?_ ?_
    · skip
      exact ⟨rfl, rfl, rfl, rfl, fB⟩
    · rintro s1 x8 ρ6 w7 ⟨e0, e1, e7, e8, fB⟩ h
      unfold slices_IndexFunc__label_Trees_1.s0 at h
      refine cw_seq ?_
      refine cw_region ?_
      refine ol_val (v := .bool (decide (s1 < (List.length a0 : Int)))) (by exact xr_lss rfl e8 e7) rfl rfl rfl ?_
      refine ol_nil ?_
      refine cw_seq ?_
      rcases is h with ⟨c9, h⟩ | ⟨c9, h⟩
      · refine cw_condT rfl c9 ?_
        refine cw_skip ?_
        refine cw_seq ?_
        refine cw_block ?_
        refine cw_seq ?_
        refine cw_region ?_
        refine ol_val (v := .int .i64 s1) (by exact xr_move rfl e8) rfl rfl rfl ?_
        refine ol_val (v := .int .i64 s1) (by exact xr_assign rfl rfl) rfl rfl rfl ?_
        refine ol_nil ?_
        refine cw_seq ?_
        refine cw_region ?_
        refine ol_val (v := Value.func (.func 121) #[] #[]) (by exact xr_move rfl e1) rfl rfl rfl ?_
        refine ol_val (v := V0_0) (by exact xr_move rfl e0) rfl rfl rfl ?_
        refine ol_val (v := .int .i64 s1) (by exact xr_move rfl rfl) rfl rfl rfl ?_
        obtain ⟨g10, h⟩ := gs h
        refine ol_val (v := .pointer (some ⟨(sb V0_0), so V0_0 + Int.toNat s1 * 1, none⟩)) (by exact xr_indexR (K := (kI .i64)) (v := V0_0) rfl Try.underlying45 sz3 rfl (R0_0.gr fB) rfl g10.1 g10.2) rfl rfl rfl ?_
        refine ol_val (v := .int .i64 (ix a0 s1)) (by exact xr_load1 (v := .int .i64 (ix a0 s1)) rfl ag3 rfl ((R0_0.gr fB).elem g10.1 g10.2)) rfl rfl rfl ?_
        obtain ⟨t11, k12, h⟩ := bs h
        refine ol_op (by exact opv_callV (C := []) rfl rfl cal121 (ac rfl an) (label_Trees_1.ok fu _ (ix a0 s1) _ k12)) rfl rfl rfl ?_
        rintro _ w14 ⟨rfl, q13⟩
        have fB := fB.gr q13
        refine ol_nil ?_
        rcases is h with ⟨c15, h⟩ | ⟨c15, h⟩
        · refine cw_condT rfl c15 ?_
          refine cw_seq ?_
          refine cw_region ?_
          refine ol_val (v := .int .i64 s1) (by exact xr_move rfl rfl) rfl rfl rfl ?_
          refine ol_val (v := .int .i64 s1) (by exact xr_assign rfl rfl) rfl rfl rfl ?_
          refine ol_nil ?_
          refine cw_ret ?_
          repeat (first | with_reducible refine thn_r ?_ | with_reducible refine blk_r ?_)
          obtain rfl := Option.some.inj h
          refine lp_ret ?_
          rintro rfl
          repeat (first | with_reducible refine thn_r ?_ | with_reducible refine blk_r ?_)
          have h := h4
          obtain rfl := Option.some.inj h
          refine fin_ret1 Try.results138 rfl ?_
          exact ⟨_, rfl, rfl, fB⟩
        · refine cw_condF rfl c15 ?_
          refine cw_skip ?_
          refine blk_i ?_
          refine cw_region ?_
          refine ol_val (v := .int .i64 (IntKind.i64.wrap (s1 + 1))) (by exact xr_add rfl e8 rfl) rfl rfl rfl ?_
          refine ol_val (v := .int .i64 (IntKind.i64.wrap (s1 + 1))) (by exact xr_move rfl rfl) rfl rfl rfl ?_
          refine ol_nil ?_
          obtain rfl := Option.some.inj h
          refine lp_in ?_
          exact ⟨e0, e1, e7, rfl, fB⟩
      · refine cw_condF rfl c9 ?_
        refine cw_exit ?_
        repeat (first | with_reducible refine thn_e ?_ | with_reducible refine blk_e rfl ?_)
        obtain rfl := Option.some.inj h
        refine lp_exit ?_
        rintro rfl
        refine thn_x ?_
        exact ⟨_, rfl, fB⟩
  · rintro ρ16 w17 ⟨x5, rfl, fB⟩
    have h := h4
    refine cw_seq ?_
    refine cw_region ?_
    refine ol_val (v := .int .i64 (-1)) (by exact xr_assign rfl rfl) rfl rfl rfl ?_
    refine ol_nil ?_
    refine cw_ret ?_
    repeat (first | with_reducible refine thn_r ?_ | with_reducible refine blk_r ?_)
    obtain rfl := Option.some.inj h
    refine fin_ret1 Try.results138 rfl ?_
    exact ⟨_, rfl, rfl, fB⟩
end Go.Proofs.Ytjhajfkfhdnciaa

/- slices.DeleteFunc[[]int,int]: its model, and that the Go function computes it: written by gen.py. -/
set_option linter.unusedVariables false
namespace Go.Proofs.Ytjhajfkfhdnciaa
open Go Go.Xw
def slices_DeleteFunc__label_Trees_1w.s0 (fu : Nat) : (Int × Int × (Arr 12 Int)) → Option (Sum (Int × (Arr 12 Int)) (Int × Int × (Arr 12 Int))) := fun s8 => (if (decide (s8.2.1 < (List.length (Arr.l s8.2.2) : Int))) = true then (if 0 ≤ s8.2.1 ∧ s8.2.1 < (List.length (Arr.l s8.2.2) : Int) then ((label_Trees_1.f fu (ix (Arr.l s8.2.2) s8.2.1) : Option Bool).bind fun t17 => (((if (!t17) = true then (if 0 ≤ s8.1 ∧ s8.1 < (List.length (Arr.l s8.2.2) : Int) then some ((IntKind.i64.wrap (s8.1 + 1)), (Arr.set s8.2.2 s8.1 (ix (Arr.l s8.2.2) s8.2.1))) else none) else some (s8.1, s8.2.2)) : Option (Int × (Arr 12 Int))).bind fun x21 => some (Sum.inr (x21.1, (IntKind.i64.wrap (s8.2.1 + 1)), x21.2)))) else none) else some (Sum.inl (s8.1, s8.2.2)))
def slices_DeleteFunc__label_Trees_1w.f (fu : Nat) (a0 : Arr 12 Int) : Option ((List Int) × (Arr 12 Int)) := ((slices_IndexFunc__label_Trees_1.f fu (Arr.l a0) : Option Int).bind fun t3 => (if (decide (t3 = (-1))) = true then some ((Arr.l a0), a0) else ((loopM (slices_DeleteFunc__label_Trees_1w.s0 fu) fu (t3, (IntKind.i64.wrap (t3 + 1)), a0)).bind fun e9 => (if 0 ≤ e9.1 ∧ e9.1 ≤ (List.length (Arr.l e9.2) : Int) then (if Int.toNat e9.1 ≤ 12 then (if 0 ≤ e9.1 ∧ e9.1 ≤ (List.length (Arr.l (Arr.clr e9.2 (Int.toNat e9.1) (0 : Int))) : Int) then some ((cut (Arr.l (Arr.clr e9.2 (Int.toNat e9.1) (0 : Int))) 0 e9.1), (Arr.clr e9.2 (Int.toNat e9.1) (0 : Int))) else none) else none) else none))))
set_option maxRecDepth 100000 in
set_option maxHeartbeats 400000 in
theorem slices_DeleteFunc__label_Trees_1w.ok (fu : Nat) (w : World) (a0 : Arr 12 Int) (G_0 : Nat) (b_0 : Blk w G_0 96 [Kd.seg (kA 12 (kI .i64)) a0]) (r : (List Int) × (Arr 12 Int)) (h : slices_DeleteFunc__label_Trees_1w.f fu a0 = some r) :
    Calls Try.prog 120 (([.slice (some ⟨G_0, 0, none⟩) 12 12, Value.func (.func 121) #[] #[]] : List Value).toArray) w (fun e w' => ∃ v, e = .returned v ∧ ∃ u1 : Value, ∃ r2 : Rd (kI .i64) w' u1 r.1, v = u1 ∧ Blk w' G_0 96 [Kd.seg (kA 12 (kI .i64)) r.2] ∧ Fr (fun j => j = G_0) w w') := by
  unfold slices_DeleteFunc__label_Trees_1w.f at h
  have fB : Fr (fun j => j = G_0) w w := Fr.refl _ _
  refine calls_cw Try.func120 rfl Try.ntmps120 rfl ?_
  refine cw_seq ?_
  refine cw_region ?_
  refine ol_val (v := .slice none 0 0) (by exact xr_assign rfl rfl) rfl rfl rfl ?_
  refine ol_nil ?_
  refine cw_seq ?_
  refine cw_region ?_
  refine ol_val (v := .slice (some ⟨G_0, 0, none⟩) 12 12) (by exact xr_move rfl rfl) rfl rfl rfl ?_
  refine ol_val (v := Value.func (.func 121) #[] #[]) (by exact xr_move rfl rfl) rfl rfl rfl ?_
  obtain ⟨t3, k4, h⟩ := bs h
  refine ol_op (by exact opv_call rfl cal138 (ac rfl (ac rfl an)) (slices_IndexFunc__label_Trees_1.ok fu _ (Arr.l a0) (.slice (some ⟨G_0, 0, none⟩) 12 12) (Rd.arr (b_0.seg 0 rfl rfl)) _ k4)) rfl rfl rfl ?_
  rintro _ w6 ⟨rfl, q5⟩
  have b_0 := b_0.gr q5
  have fB := fB.gr q5
  refine ol_val (v := .int .i64 t3) (by exact xr_assign rfl rfl) rfl rfl rfl ?_
  refine ol_nil ?_
  refine cw_seq ?_
  refine cw_seq ?_
  refine cw_region ?_
  refine ol_val (v := .int .i64 t3) (by exact xr_move rfl rfl) rfl rfl rfl ?_
  refine ol_val (v := .bool (decide (t3 = (-1)))) (by exact xr_eqI rfl Try.underlying3 rfl rfl rfl) rfl rfl rfl ?_
  refine ol_nil ?_
  rcases is h with ⟨c7, h⟩ | ⟨c7, h⟩
  · refine cw_condT rfl c7 ?_
    refine cw_seq ?_
    refine cw_region ?_
    refine ol_val (v := .slice (some ⟨G_0, 0, none⟩) 12 12) (by exact xr_move rfl rfl) rfl rfl rfl ?_
    refine ol_val (v := .slice (some ⟨G_0, 0, none⟩) 12 12) (by exact xr_assign rfl rfl) rfl rfl rfl ?_
    refine ol_nil ?_
    refine cw_ret ?_
    repeat (first | with_reducible refine thn_r ?_ | with_reducible refine blk_r ?_)
    obtain rfl := Option.some.inj h
    refine fin_ret1 Try.results120 rfl ?_
    exact ⟨_, rfl, (.slice (some ⟨G_0, 0, none⟩) 12 12), (Rd.arr (b_0.seg 0 rfl rfl)), rfl, b_0, fB⟩
  · refine cw_condF rfl c7 ?_
    refine cw_skip ?_
    refine cw_seq ?_
    refine cw_seq ?_
    refine cw_region ?_
    refine ol_val (v := .int .i64 t3) (by exact xr_move rfl rfl) rfl rfl rfl ?_
    refine ol_val (v := .int .i64 (IntKind.i64.wrap (t3 + 1))) (by exact xr_add rfl rfl rfl) rfl rfl rfl ?_
    refine ol_val (v := .int .i64 (IntKind.i64.wrap (t3 + 1))) (by exact xr_assign rfl rfl) rfl rfl rfl ?_
    refine ol_nil ?_
    obtain ⟨e9, l10, h11⟩ := bs h
    refine cw_mid (fun ρ' w' => ρ' 0 = .slice (some ⟨G_0, 0, none⟩) 12 12 ∧ ρ' 5 = .int .i64 e9.1 ∧ Blk w' G_0 96 [Kd.seg (kA 12 (kI .i64)) e9.2] ∧ Fr (fun j => j = G_0) w w') ?_ ?_
    · refine cw_block ?_
      refine cw_round (fun (s8 : Int × Int × (Arr 12 Int)) ρ' w' => ρ' 0 = .slice (some ⟨G_0, 0, none⟩) 12 12 ∧ ρ' 1 = Value.func (.func 121) #[] #[] ∧ ρ' 5 = .int .i64 s8.1 ∧ ρ' 6 = .int .i64 s8.2.1 ∧ Blk w' G_0 96 [Kd.seg (kA 12 (kI .i64)) s8.2.2] ∧ Fr (fun j => j = G_0) w w') l10 ?_ ?_
      · skip
        exact ⟨rfl, rfl, rfl, rfl, b_0, fB⟩
      · rintro s8 x14 ρ12 w13 ⟨e0, e1, e5, e6, b_0, fB⟩ h
        unfold slices_DeleteFunc__label_Trees_1w.s0 at h
        refine cw_seq ?_
        refine cw_seq ?_
        refine cw_region ?_
        refine ol_val (v := .int .i64 s8.2.1) (by exact xr_move rfl e6) rfl rfl rfl ?_
        refine ol_val (v := .slice (some ⟨G_0, 0, none⟩) 12 12) (by exact xr_move rfl e0) rfl rfl rfl ?_
        refine ol_val (v := .int .i64 (List.length (Arr.l s8.2.2) : Int)) (by exact xr_lenR rfl Try.underlying45 rfl (Rd.arr (b_0.seg 0 rfl rfl))) rfl rfl rfl ?_
        refine ol_val (v := .bool (decide (s8.2.1 < (List.length (Arr.l s8.2.2) : Int)))) (by exact xr_lss rfl rfl rfl) rfl rfl rfl ?_
        refine ol_nil ?_
        rcases is h with ⟨c15, h⟩ | ⟨c15, h⟩
        · refine cw_condT rfl c15 ?_
          refine cw_skip ?_
          refine cw_seq ?_
          refine cw_block ?_
          refine cw_seq ?_
          refine cw_region ?_
          refine ol_val (v := .slice (some ⟨G_0, 0, none⟩) 12 12) (by exact xr_move rfl e0) rfl rfl rfl ?_
          refine ol_val (v := .int .i64 s8.2.1) (by exact xr_move rfl e6) rfl rfl rfl ?_
          obtain ⟨g16, h⟩ := gs h
          refine ol_val (v := .pointer (some ⟨(sb (.slice (some ⟨G_0, 0, none⟩) 12 12)), so (.slice (some ⟨G_0, 0, none⟩) 12 12) + Int.toNat s8.2.1 * 1, none⟩)) (by exact xr_indexR (K := (kI .i64)) (v := .slice (some ⟨G_0, 0, none⟩) 12 12) rfl Try.underlying45 sz3 rfl (Rd.arr (b_0.seg 0 rfl rfl)) rfl g16.1 g16.2) rfl rfl rfl ?_
          refine ol_val (v := .int .i64 (ix (Arr.l s8.2.2) s8.2.1)) (by exact xr_load1 (v := .int .i64 (ix (Arr.l s8.2.2) s8.2.1)) rfl ag3 rfl ((Rd.arr (b_0.seg 0 rfl rfl)).elem g16.1 g16.2)) rfl rfl rfl ?_
          refine ol_val (v := .int .i64 (ix (Arr.l s8.2.2) s8.2.1)) (by exact xr_assign rfl rfl) rfl rfl rfl ?_
          refine ol_nil ?_
          refine cw_seq ?_
          refine cw_region ?_
          refine ol_val (v := Value.func (.func 121) #[] #[]) (by exact xr_move rfl e1) rfl rfl rfl ?_
          refine ol_val (v := .int .i64 (ix (Arr.l s8.2.2) s8.2.1)) (by exact xr_move rfl rfl) rfl rfl rfl ?_
          obtain ⟨t17, k18, h⟩ := bs h
          refine ol_op (by exact opv_callV (C := []) rfl rfl cal121 (ac rfl an) (label_Trees_1.ok fu _ (ix (Arr.l s8.2.2) s8.2.1) _ k18)) rfl rfl rfl ?_
          rintro _ w20 ⟨rfl, q19⟩
          have b_0 := b_0.gr q19
          have fB := fB.gr q19
          refine ol_val (v := .bool (!t17)) (by exact xr_not rfl rfl) rfl rfl rfl ?_
          refine ol_nil ?_
          obtain ⟨x21, j22, h23⟩ := bs h
          refine cw_mid (fun ρ' w' => ρ' 0 = .slice (some ⟨G_0, 0, none⟩) 12 12 ∧ ρ' 1 = Value.func (.func 121) #[] #[] ∧ ρ' 5 = .int .i64 x21.1 ∧ ρ' 6 = .int .i64 s8.2.1 ∧ Blk w' G_0 96 [Kd.seg (kA 12 (kI .i64)) x21.2] ∧ Fr (fun j => j = G_0) w w') ?_ ?_
          · have h := j22
            rcases is h with ⟨c24, h⟩ | ⟨c24, h⟩
            · refine cw_condT rfl c24 ?_
              refine cw_seq ?_
              refine cw_region ?_
              refine ol_val (v := .slice (some ⟨G_0, 0, none⟩) 12 12) (by exact xr_move rfl e0) rfl rfl rfl ?_
              refine ol_val (v := .int .i64 s8.1) (by exact xr_move rfl e5) rfl rfl rfl ?_
              refine ol_val (v := .int .i64 (ix (Arr.l s8.2.2) s8.2.1)) (by exact xr_move rfl rfl) rfl rfl rfl ?_
              obtain ⟨g25, h⟩ := gs h
              refine ol_val (v := .pointer (some ⟨(sb (.slice (some ⟨G_0, 0, none⟩) 12 12)), so (.slice (some ⟨G_0, 0, none⟩) 12 12) + Int.toNat s8.1 * 1, none⟩)) (by exact xr_indexR (K := (kI .i64)) (v := .slice (some ⟨G_0, 0, none⟩) 12 12) rfl Try.underlying45 sz3 rfl (Rd.arr (b_0.seg 0 rfl rfl)) rfl g25.1 g25.2) rfl rfl rfl ?_
              refine ol_op0 (by exact opv_store (ss' := [Kd.seg (kA 12 (kI .i64)) (Arr.set s8.2.2 s8.1 (ix (Arr.l s8.2.2) s8.2.1))]) (xs := cellsOf [Seg.cell (.int .i64 (ix (Arr.l s8.2.2) s8.2.1))]) rfl sz3 rfl rfl rfl (len_cellsOf _) (one_cellsOf _) b_0 (Spl.seg_in _ 0 (Kd.seg (kA 12 (kI .i64)) (Arr.set s8.2.2 s8.1 (ix (Arr.l s8.2.2) s8.2.1))) rfl rfl (Spl.arr s8.2.2 s8.1 (ix (Arr.l s8.2.2) s8.2.1) g25.1 (Arr.blt g25.2) (Spl.whole ((Kd.len _ _).trans (Kd.len _ _).symm))))) rfl rfl ?_
              rintro _ w27 ⟨b_0, q26⟩
              have fB := fB.wrS q26 rfl
              refine ol_nil ?_
              refine cw_region ?_
              refine ol_val (v := .int .i64 s8.1) (by exact xr_move rfl e5) rfl rfl rfl ?_
              refine ol_val (v := .int .i64 (IntKind.i64.wrap (s8.1 + 1))) (by exact xr_add rfl rfl rfl) rfl rfl rfl ?_
              refine ol_val (v := .int .i64 (IntKind.i64.wrap (s8.1 + 1))) (by exact xr_assign rfl rfl) rfl rfl rfl ?_
              refine ol_nil ?_
              obtain rfl := Option.some.inj h
              refine thn_i ?_
              exact ⟨e0, e1, rfl, e6, b_0, fB⟩
            · refine cw_condF rfl c24 ?_
              refine cw_skip ?_
              obtain rfl := Option.some.inj h
              refine thn_i ?_
              exact ⟨e0, e1, e5, e6, b_0, fB⟩
          · rintro ρ28 w29 ⟨e0, e1, e5, e6, b_0, fB⟩
            have h := h23
            refine blk_i ?_
            refine cw_region ?_
            refine ol_val (v := .int .i64 s8.2.1) (by exact xr_move rfl e6) rfl rfl rfl ?_
            refine ol_val (v := .int .i64 (IntKind.i64.wrap (s8.2.1 + 1))) (by exact xr_add rfl rfl rfl) rfl rfl rfl ?_
            refine ol_val (v := .int .i64 (IntKind.i64.wrap (s8.2.1 + 1))) (by exact xr_assign rfl rfl) rfl rfl rfl ?_
            refine ol_nil ?_
            obtain rfl := Option.some.inj h
            refine lp_in ?_
            exact ⟨e0, e1, e5, rfl, b_0, fB⟩
        · refine cw_condF rfl c15 ?_
          refine cw_exit ?_
          repeat (first | with_reducible refine thn_e ?_ | with_reducible refine blk_e rfl ?_)
          obtain rfl := Option.some.inj h
          refine lp_exit ?_
          rintro rfl
          refine thn_x ?_
          exact ⟨e0, e5, b_0, fB⟩
    · rintro ρ30 w31 ⟨e0, e5, b_0, fB⟩
      have h := h11
      refine cw_seq ?_
      refine cw_region ?_
      refine ol_val (v := .slice (some ⟨G_0, 0, none⟩) 12 12) (by exact xr_move rfl e0) rfl rfl rfl ?_
      refine ol_val (v := .int .i64 e9.1) (by exact xr_move rfl e5) rfl rfl rfl ?_
      obtain ⟨g33, h⟩ := gs h
      refine ol_val (v := subv 1 (.slice (some ⟨G_0, 0, none⟩) 12 12) (Int.toNat e9.1) (List.length (Arr.l e9.2))) (by exact xr_slice_l (K := (kI .i64)) (v := .slice (some ⟨G_0, 0, none⟩) 12 12) rfl Try.underlying45 sz3 rfl (Rd.arr (b_0.seg 0 rfl rfl)) rfl g33.1 g33.2) rfl rfl rfl ?_
      have r32 : Rd (kI .i64) w31 (subv 1 (.slice (some ⟨G_0, 0, none⟩) 12 12) (Int.toNat e9.1) (List.length (Arr.l e9.2))) (cut (Arr.l e9.2) e9.1 (List.length (Arr.l e9.2) : Int)) := (Rd.arr (b_0.seg 0 rfl rfl)).cut (lo := e9.1) (hi := (List.length (Arr.l e9.2) : Int)) g33.1 g33.2 (Int.le_refl _)
      obtain ⟨g35, h⟩ := gs h
      refine ol_op0 (by exact opv_clearArr (K := (kI .i64)) (a := e9.2) (z := (0 : Int)) (ss' := [Kd.seg (kA 12 (kI .i64)) (Arr.clr e9.2 (Int.toNat e9.1) (0 : Int))]) rfl Try.underlying45 el3 rfl rfl (Arr.h _) rfl g35 b_0 0 rfl rfl rfl) rfl rfl ?_
      rintro _ w36 ⟨_, b_0, q34⟩
      have fB := fB.wrS q34 rfl
      refine ol_nil ?_
      refine cw_seq ?_
      refine cw_region ?_
      refine ol_val (v := .slice (some ⟨G_0, 0, none⟩) 12 12) (by exact xr_move rfl e0) rfl rfl rfl ?_
      refine ol_val (v := .int .i64 e9.1) (by exact xr_move rfl e5) rfl rfl rfl ?_
      obtain ⟨g38, h⟩ := gs h
      refine ol_val (v := subv 1 (.slice (some ⟨G_0, 0, none⟩) 12 12) 0 (Int.toNat e9.1)) (by exact xr_slice_h (K := (kI .i64)) (v := .slice (some ⟨G_0, 0, none⟩) 12 12) rfl Try.underlying45 sz3 rfl (Rd.arr (b_0.seg 0 rfl rfl)) rfl g38.1 g38.2) rfl rfl rfl ?_
      have r37 : Rd (kI .i64) w36 (subv 1 (.slice (some ⟨G_0, 0, none⟩) 12 12) 0 (Int.toNat e9.1)) (cut (Arr.l (Arr.clr e9.2 (Int.toNat e9.1) (0 : Int))) 0 e9.1) := (Rd.arr (b_0.seg 0 rfl rfl)).cut (lo := 0) (hi := e9.1) (by decide) g38.1 g38.2
      refine ol_val (v := subv 1 (.slice (some ⟨G_0, 0, none⟩) 12 12) 0 (Int.toNat e9.1)) (by exact xr_assign rfl rfl) rfl rfl rfl ?_
      refine ol_nil ?_
      refine cw_ret ?_
      repeat (first | with_reducible refine thn_r ?_ | with_reducible refine blk_r ?_)
      obtain rfl := Option.some.inj h
      refine fin_ret1 Try.results120 rfl ?_
      exact ⟨_, rfl, (subv 1 (.slice (some ⟨G_0, 0, none⟩) 12 12) 0 (Int.toNat e9.1)), r37, rfl, b_0, fB⟩
end Go.Proofs.Ytjhajfkfhdnciaa

/- rickyard/label.Trees: its model, and that the Go function computes it: written by gen.py. -/
set_option linter.unusedVariables false
namespace Go.Proofs.Ytjhajfkfhdnciaa
open Go Go.Xw
def label_Trees.f (fu : Nat) (a0 : Arr 12 Int) : Option (List Int) := ((slices_DeleteFunc__label_Trees_1w.f fu a0 : Option ((List Int) × (Arr 12 Int))).bind fun t9 => some (t9.1))
set_option maxRecDepth 100000 in
set_option maxHeartbeats 400000 in
theorem label_Trees.ok (fu : Nat) (w : World) (a0 : Arr 12 Int) (r : (List Int)) (h : label_Trees.f fu a0 = some r) :
    Calls Try.prog 79 (([aggV [Kd.seg (kA 12 (kI .i64)) a0]] : List Value).toArray) w (fun e w' => ∃ v, e = .returned v ∧ ∃ u1 : Value, ∃ r2 : Rd (kI .i64) w' u1 r, v = u1 ∧ Gr w w') := by
  unfold label_Trees.f at h
  have fB : Gr w w := Fr.refl _ _
  refine calls_cw Try.func79 rfl Try.ntmps79 rfl ?_
  refine cw_seq ?_
  refine cw_region ?_
  refine ol_op (by exact opv_box (ss := [Kd.seg (kA 12 (kI .i64)) a0]) rfl rfl rfl) rfl rfl rfl ?_
  rintro _ w8 ⟨G3, rfl, b4, q5, z6⟩
  have z6 := Nat.le_trans fB.size z6
  have fB := fB.gr q5
  refine ol_val (v := .slice none 0 0) (by exact xr_assign rfl rfl) rfl rfl rfl ?_
  refine ol_nil ?_
  refine cw_seq ?_
  refine cw_region ?_
  refine ol_val (v := .slice (some ⟨G3, 0, none⟩) 12 12) (by exact xr_sliceArr rfl Try.underlying96 sz3 rfl) rfl rfl rfl ?_
  obtain ⟨t9, k10, h⟩ := bs h
  refine ol_op (by exact opv_call rfl cal120 (ac rfl (ac rfl an)) (slices_DeleteFunc__label_Trees_1w.ok fu _ a0 G3 b4 _ k10)) rfl rfl rfl ?_
  rintro u11 w14 ⟨_, r12, rfl, b4, q13⟩
  have fB := fB.wr q13 z6
  refine ol_val (v := u11) (by exact xr_assign rfl rfl) rfl rfl rfl ?_
  refine ol_nil ?_
  refine cw_ret ?_
  repeat (first | with_reducible refine thn_r ?_ | with_reducible refine blk_r ?_)
  obtain rfl := Option.some.inj h
  refine fin_ret1 Try.results79 rfl ?_
  exact ⟨_, rfl, u11, r12, rfl, fB⟩
end Go.Proofs.Ytjhajfkfhdnciaa

/- slices.Index[[]int,int]: its model, and that the Go function computes it: written by gen.py. -/
set_option linter.unusedVariables false
namespace Go.Proofs.Ytjhajfkfhdnciaa
open Go Go.Xw
def slices_Index.s0 (fu : Nat) (a0 : List Int) (a1 : Int) : Int → Option (Sum (Sum Int Unit) Int) := fun s1 => (if (decide (s1 < (List.length a0 : Int))) = true then (if 0 ≤ s1 ∧ s1 < (List.length a0 : Int) then (if (decide (a1 = (ix a0 s1))) = true then some (Sum.inl (Sum.inl (s1))) else some (Sum.inr ((IntKind.i64.wrap (s1 + 1))))) else none) else some (Sum.inl (Sum.inr ())))
def slices_Index.f (fu : Nat) (a0 : List Int) (a1 : Int) : Option Int := ((loopM (slices_Index.s0 fu a0 a1) fu (0)).bind fun e2 => match e2 with | Sum.inl p => some p | Sum.inr x5 => some ((-1)))
set_option maxRecDepth 100000 in
set_option maxHeartbeats 400000 in
theorem slices_Index.ok (fu : Nat) (w : World) (a0 : List Int) (V0_0 : Value) (R0_0 : Rd (kI .i64) w V0_0 a0) (a1 : Int) (r : Int) (h : slices_Index.f fu a0 a1 = some r) :
    Calls Try.prog 142 (([V0_0, .int .i64 a1] : List Value).toArray) w (fun e w' => ∃ v, e = .returned v ∧ v = .int .i64 r ∧ Gr w w') := by
  unfold slices_Index.f at h
  have fB : Gr w w := Fr.refl _ _
  refine calls_cw Try.func142 rfl Try.ntmps142 rfl ?_
  refine cw_seq ?_
  refine cw_region ?_
  refine ol_val (v := .int .i64 0) (by exact xr_assign rfl rfl) rfl rfl rfl ?_
  refine ol_nil ?_
  refine cw_seq ?_
  refine cw_seq ?_
  refine cw_region ?_
  refine ol_val (v := V0_0) (by exact xr_move rfl rfl) rfl rfl rfl ?_
  refine ol_val (v := .int .i64 (List.length a0 : Int)) (by exact xr_lenR rfl Try.underlying45 rfl (R0_0.gr fB)) rfl rfl rfl ?_
  refine ol_val (v := .int .i64 0) (by exact xr_move rfl rfl) rfl rfl rfl ?_
  refine ol_nil ?_
  obtain ⟨e2, l3, h4⟩ := bs h
  refine cw_mid (fun ρ' w' => ∃ x5, e2 = Sum.inr x5 ∧ Gr w w') ?_ ?_
  · refine cw_block ?_
    refine cw_round (fun (s1 : Int) ρ' w' => ρ' 0 = V0_0 ∧ ρ' 1 = .int .i64 a1 ∧ ρ' 7 = .int .i64 (List.length a0 : Int) ∧ ρ' 8 = .int .i64 s1 ∧ Gr w w') l3 ?_ ?_
    · skip
      exact ⟨rfl, rfl, rfl, rfl, fB⟩
    · rintro s1 x8 ρ6 w7 ⟨e0, e1, e7, e8, fB⟩ h
      unfold slices_Index.s0 at h
      refine cw_seq ?_
      refine cw_region ?_
      refine ol_val (v := .bool (decide (s1 < (List.length a0 : Int)))) (by exact xr_lss rfl e8 e7) rfl rfl rfl ?_
      refine ol_nil ?_
      refine cw_seq ?_
      rcases is h with ⟨c9, h⟩ | ⟨c9, h⟩
      · refine cw_condT rfl c9 ?_
        refine cw_skip ?_
        refine cw_seq ?_
        refine cw_block ?_
        refine cw_seq ?_
        refine cw_region ?_
        refine ol_val (v := .int .i64 s1) (by exact xr_move rfl e8) rfl rfl rfl ?_
        refine ol_val (v := .int .i64 s1) (by exact xr_assign rfl rfl) rfl rfl rfl ?_
        refine ol_nil ?_
        refine cw_seq ?_
        refine cw_region ?_
        refine ol_val (v := .int .i64 a1) (by exact xr_move rfl e1) rfl rfl rfl ?_
        refine ol_val (v := V0_0) (by exact xr_move rfl e0) rfl rfl rfl ?_
        refine ol_val (v := .int .i64 s1) (by exact xr_move rfl rfl) rfl rfl rfl ?_
        obtain ⟨g10, h⟩ := gs h
        refine ol_val (v := .pointer (some ⟨(sb V0_0), so V0_0 + Int.toNat s1 * 1, none⟩)) (by exact xr_indexR (K := (kI .i64)) (v := V0_0) rfl Try.underlying45 sz3 rfl (R0_0.gr fB) rfl g10.1 g10.2) rfl rfl rfl ?_
        refine ol_val (v := .int .i64 (ix a0 s1)) (by exact xr_load1 (v := .int .i64 (ix a0 s1)) rfl ag3 rfl ((R0_0.gr fB).elem g10.1 g10.2)) rfl rfl rfl ?_
        refine ol_val (v := .bool (decide (a1 = (ix a0 s1)))) (by exact xr_eqI rfl Try.underlying3 rfl rfl rfl) rfl rfl rfl ?_
        refine ol_nil ?_
        rcases is h with ⟨c11, h⟩ | ⟨c11, h⟩
        · refine cw_condT rfl c11 ?_
          refine cw_seq ?_
          refine cw_region ?_
          refine ol_val (v := .int .i64 s1) (by exact xr_move rfl rfl) rfl rfl rfl ?_
          refine ol_val (v := .int .i64 s1) (by exact xr_assign rfl rfl) rfl rfl rfl ?_
          refine ol_nil ?_
          refine cw_ret ?_
          repeat (first | with_reducible refine thn_r ?_ | with_reducible refine blk_r ?_)
          obtain rfl := Option.some.inj h
          refine lp_ret ?_
          rintro rfl
          repeat (first | with_reducible refine thn_r ?_ | with_reducible refine blk_r ?_)
          have h := h4
          obtain rfl := Option.some.inj h
          refine fin_ret1 Try.results142 rfl ?_
          exact ⟨_, rfl, rfl, fB⟩
        · refine cw_condF rfl c11 ?_
          refine cw_skip ?_
          refine blk_i ?_
          refine cw_region ?_
          refine ol_val (v := .int .i64 (IntKind.i64.wrap (s1 + 1))) (by exact xr_add rfl e8 rfl) rfl rfl rfl ?_
          refine ol_val (v := .int .i64 (IntKind.i64.wrap (s1 + 1))) (by exact xr_move rfl rfl) rfl rfl rfl ?_
          refine ol_nil ?_
          obtain rfl := Option.some.inj h
          refine lp_in ?_
          exact ⟨e0, e1, e7, rfl, fB⟩
      · refine cw_condF rfl c9 ?_
        refine cw_exit ?_
        repeat (first | with_reducible refine thn_e ?_ | with_reducible refine blk_e rfl ?_)
        obtain rfl := Option.some.inj h
        refine lp_exit ?_
        rintro rfl
        refine thn_x ?_
        exact ⟨_, rfl, fB⟩
  · rintro ρ12 w13 ⟨x5, rfl, fB⟩
    have h := h4
    refine cw_seq ?_
    refine cw_region ?_
    refine ol_val (v := .int .i64 (-1)) (by exact xr_assign rfl rfl) rfl rfl rfl ?_
    refine ol_nil ?_
    refine cw_ret ?_
    repeat (first | with_reducible refine thn_r ?_ | with_reducible refine blk_r ?_)
    obtain rfl := Option.some.inj h
    refine fin_ret1 Try.results142 rfl ?_
    exact ⟨_, rfl, rfl, fB⟩
end Go.Proofs.Ytjhajfkfhdnciaa

/- slices.Contains[[]int,int]: its model, and that the Go function computes it: written by gen.py. -/
set_option linter.unusedVariables false
namespace Go.Proofs.Ytjhajfkfhdnciaa
open Go Go.Xw
def slices_Contains.f (fu : Nat) (a0 : List Int) (a1 : Int) : Option Bool := ((slices_Index.f fu a0 a1 : Option Int).bind fun t1 => some ((decide (t1 ≥ 0))))
set_option maxRecDepth 100000 in
set_option maxHeartbeats 400000 in
theorem slices_Contains.ok (fu : Nat) (w : World) (a0 : List Int) (V0_0 : Value) (R0_0 : Rd (kI .i64) w V0_0 a0) (a1 : Int) (r : Bool) (h : slices_Contains.f fu a0 a1 = some r) :
    Calls Try.prog 122 (([V0_0, .int .i64 a1] : List Value).toArray) w (fun e w' => ∃ v, e = .returned v ∧ v = .bool r ∧ Gr w w') := by
  unfold slices_Contains.f at h
  have fB : Gr w w := Fr.refl _ _
  refine calls_cw Try.func122 rfl Try.ntmps122 rfl ?_
  refine cw_seq ?_
  refine cw_region ?_
  refine ol_val (v := .bool false) (by exact xr_assign rfl rfl) rfl rfl rfl ?_
  refine ol_nil ?_
  refine cw_seq ?_
  refine cw_region ?_
  refine ol_val (v := V0_0) (by exact xr_move rfl rfl) rfl rfl rfl ?_
  refine ol_val (v := .int .i64 a1) (by exact xr_move rfl rfl) rfl rfl rfl ?_
  obtain ⟨t1, k2, h⟩ := bs h
  refine ol_op (by exact opv_call rfl cal142 (ac rfl (ac rfl an)) (slices_Index.ok fu _ a0 V0_0 (R0_0.gr fB) a1 _ k2)) rfl rfl rfl ?_
  rintro _ w4 ⟨rfl, q3⟩
  have fB := fB.gr q3
  refine ol_val (v := .bool (decide (t1 ≥ 0))) (by exact xr_geq rfl rfl rfl) rfl rfl rfl ?_
  refine ol_val (v := .bool (decide (t1 ≥ 0))) (by exact xr_assign rfl rfl) rfl rfl rfl ?_
  refine ol_nil ?_
  refine cw_ret ?_
  repeat (first | with_reducible refine thn_r ?_ | with_reducible refine blk_r ?_)
  obtain rfl := Option.some.inj h
  refine fin_ret1 Try.results122 rfl ?_
  exact ⟨_, rfl, rfl, fB⟩
end Go.Proofs.Ytjhajfkfhdnciaa

/- rickyard/label.RightDir: its model, and that the Go function computes it: written by gen.py. -/
set_option linter.unusedVariables false
namespace Go.Proofs.Ytjhajfkfhdnciaa
open Go Go.Xw
def label_RightDir.s0 (fu : Nat) (a0 : S_api_Dir) : Int → Option (Sum (Sum Bool Unit) Int) := fun s10 => (if (decide (s10 < (List.length a0.Queues : Int))) = true then (if 0 ≤ s10 ∧ s10 < (List.length a0.Queues : Int) then ((((label_blockNumber.f fu (ix a0.Queues s10) : Option Bool).bind fun t22 => (if (!t22) = true then some (true) else (if 0 ≤ s10 ∧ s10 ≤ (List.length a0.Queues : Int) then ((slices_Contains.f fu (cut a0.Queues 0 s10) (ix a0.Queues s10) : Option Bool).bind fun t29 => some (t29)) else none))) : Option Bool).bind fun x20 => (if x20 = true then some (Sum.inl (Sum.inl (false))) else some (Sum.inr ((IntKind.i64.wrap (s10 + 1)))))) else none) else some (Sum.inl (Sum.inr ())))
def label_RightDir.f (fu : Nat) (a0 : S_api_Dir) : Option Bool := (if (if (decide ((List.length a0.Queues : Int) < 1)) = true then true else (decide ((List.length a0.Queues : Int) > 16))) = true then some (false) else ((loopM (label_RightDir.s0 fu a0) fu (0)).bind fun e11 => match e11 with | Sum.inl p => some p | Sum.inr x14 => some (true)))
set_option maxRecDepth 100000 in
set_option maxHeartbeats 400000 in
theorem label_RightDir.ok (fu : Nat) (w : World) (a0 : S_api_Dir) (V0_0 : Value) (R0_0 : Rd (kI .i64) w V0_0 a0.Queues) (r : Bool) (h : label_RightDir.f fu a0 = some r) :
    Calls Try.prog 83 (([aggV [Seg.cell V0_0 R0_0.one]] : List Value).toArray) w (fun e w' => ∃ v, e = .returned v ∧ v = .bool r ∧ Gr w w') := by
  unfold label_RightDir.f at h
  have fB : Gr w w := Fr.refl _ _
  refine calls_cw Try.func83 rfl Try.ntmps83 rfl ?_
  refine cw_seq ?_
  refine cw_region ?_
  refine ol_op (by exact opv_box (ss := [Seg.cell V0_0 R0_0.one]) rfl rfl rfl) rfl rfl rfl ?_
  rintro _ w6 ⟨G1, rfl, b2, q3, z4⟩
  have z4 := Nat.le_trans fB.size z4
  have fB := fB.gr q3
  refine ol_val (v := .bool false) (by exact xr_assign rfl rfl) rfl rfl rfl ?_
  refine ol_nil ?_
  refine cw_seq ?_
  refine cw_seq ?_
  refine cw_mid (fun ρ' w' => ρ' 1 = .pointer (some ⟨G1, 0, none⟩) ∧ ρ' 14 = .bool (if (decide ((List.length a0.Queues : Int) < 1)) = true then true else (decide ((List.length a0.Queues : Int) > 16))) ∧ w6 = w') ?_ ?_
  · skip
    refine cw_region ?_
    refine ol_val (v := .pointer (some ⟨G1, 0, none⟩)) (by exact xr_fieldAddr (p := 0) (q := 0) rfl fl107_0 rfl) rfl rfl rfl ?_
    refine ol_val (v := V0_0) (by exact xr_load1 (v := V0_0) rfl ag45 rfl (b2.seg 0 rfl rfl)) rfl rfl rfl ?_
    refine ol_val (v := .int .i64 (List.length a0.Queues : Int)) (by exact xr_lenR rfl Try.underlying45 rfl (R0_0.gr fB)) rfl rfl rfl ?_
    refine ol_val (v := .bool (decide ((List.length a0.Queues : Int) < 1))) (by exact xr_lss rfl rfl rfl) rfl rfl rfl ?_
    refine ol_val (v := .bool (decide ((List.length a0.Queues : Int) < 1))) (by exact xr_move rfl rfl) rfl rfl rfl ?_
    rcases bt (decide ((List.length a0.Queues : Int) < 1)) with c7 | c7
    · skip
      refine ol_gskip rfl rfl rfl rfl rfl c7 ?_
      refine ol_gskip rfl rfl rfl rfl rfl c7 ?_
      refine ol_gskip rfl rfl rfl rfl rfl c7 ?_
      refine ol_gskip rfl rfl rfl rfl rfl c7 ?_
      refine ol_val (v := .bool true) (by exact xr_pickT rfl rfl c7 rfl) rfl rfl rfl ?_
      refine ol_nil ?_
      refine thn_i ?_
      exact ⟨rfl, (rfl).trans (congrArg (fun z => (.bool z : Value)) (show true = (if (decide ((List.length a0.Queues : Int) < 1)) = true then true else (decide ((List.length a0.Queues : Int) > 16))) from by rw [ite_t c7])), rfl⟩
    · skip
      refine ol_gval (v := .pointer (some ⟨G1, 0, none⟩)) (by exact xr_fieldAddr (p := 0) (q := 0) rfl fl107_0 rfl) rfl rfl rfl rfl rfl c7 ?_
      refine ol_gval (v := V0_0) (by exact xr_load1 (v := V0_0) rfl ag45 rfl (b2.seg 0 rfl rfl)) rfl rfl rfl rfl rfl c7 ?_
      refine ol_gval (v := .int .i64 (List.length a0.Queues : Int)) (by exact xr_lenR rfl Try.underlying45 rfl (R0_0.gr fB)) rfl rfl rfl rfl rfl c7 ?_
      refine ol_gval (v := .bool (decide ((List.length a0.Queues : Int) > 16))) (by exact xr_gtr rfl rfl rfl) rfl rfl rfl rfl rfl c7 ?_
      refine ol_val (v := .bool (decide ((List.length a0.Queues : Int) > 16))) (by exact xr_pickF rfl rfl c7 rfl) rfl rfl rfl ?_
      refine ol_nil ?_
      refine thn_i ?_
      exact ⟨rfl, (rfl).trans (congrArg (fun z => (.bool z : Value)) (show (decide ((List.length a0.Queues : Int) > 16)) = (if (decide ((List.length a0.Queues : Int) < 1)) = true then true else (decide ((List.length a0.Queues : Int) > 16))) from by rw [ite_f c7])), rfl⟩
  · skip
    rintro ρ8 _ ⟨e1, e14, rfl⟩
    rcases is h with ⟨c9, h⟩ | ⟨c9, h⟩
    · refine cw_condT e14 c9 ?_
      refine cw_seq ?_
      refine cw_region ?_
      refine ol_val (v := .bool false) (by exact xr_assign rfl rfl) rfl rfl rfl ?_
      refine ol_nil ?_
      refine cw_ret ?_
      repeat (first | with_reducible refine thn_r ?_ | with_reducible refine blk_r ?_)
      obtain rfl := Option.some.inj h
      refine fin_ret1 Try.results83 rfl ?_
      exact ⟨_, rfl, rfl, fB⟩
    · refine cw_condF e14 c9 ?_
      refine cw_skip ?_
      refine cw_seq ?_
      refine cw_seq ?_
      refine cw_region ?_
      refine ol_val (v := .pointer (some ⟨G1, 0, none⟩)) (by exact xr_fieldAddr (p := 0) (q := 0) rfl fl107_0 e1) rfl rfl rfl ?_
      refine ol_val (v := V0_0) (by exact xr_load1 (v := V0_0) rfl ag45 rfl (b2.seg 0 rfl rfl)) rfl rfl rfl ?_
      refine ol_val (v := .int .i64 (List.length a0.Queues : Int)) (by exact xr_lenR rfl Try.underlying45 rfl (R0_0.gr fB)) rfl rfl rfl ?_
      refine ol_val (v := .int .i64 0) (by exact xr_move rfl rfl) rfl rfl rfl ?_
      refine ol_nil ?_
      obtain ⟨e11, l12, h13⟩ := bs h
      refine cw_mid (fun ρ' w' => ∃ x14, e11 = Sum.inr x14 ∧ Gr w w') ?_ ?_
      · refine cw_block ?_
        refine cw_round (fun (s10 : Int) ρ' w' => ρ' 1 = .pointer (some ⟨G1, 0, none⟩) ∧ ρ' 16 = V0_0 ∧ ρ' 17 = .int .i64 (List.length a0.Queues : Int) ∧ ρ' 18 = .int .i64 s10 ∧ Blk w' G1 107 [Seg.cell V0_0 R0_0.one] ∧ Gr w w') l12 ?_ ?_
        · skip
          exact ⟨e1, rfl, rfl, rfl, b2, fB⟩
        · rintro s10 x17 ρ15 w16 ⟨e1, e16, e17, e18, b2, fB⟩ h
          unfold label_RightDir.s0 at h
          refine cw_seq ?_
          refine cw_region ?_
          refine ol_val (v := .bool (decide (s10 < (List.length a0.Queues : Int)))) (by exact xr_lss rfl e18 e17) rfl rfl rfl ?_
          refine ol_nil ?_
          refine cw_seq ?_
          rcases is h with ⟨c18, h⟩ | ⟨c18, h⟩
          · refine cw_condT rfl c18 ?_
            refine cw_skip ?_
            refine cw_seq ?_
            refine cw_block ?_
            refine cw_seq ?_
            refine cw_region ?_
            refine ol_val (v := .int .i64 s10) (by exact xr_move rfl e18) rfl rfl rfl ?_
            obtain ⟨g19, h⟩ := gs h
            refine ol_val (v := .pointer (some ⟨(sb V0_0), so V0_0 + Int.toNat s10 * 1, none⟩)) (by exact xr_indexR (K := (kI .i64)) (v := V0_0) rfl Try.underlying45 sz3 e16 (R0_0.gr fB) e18 g19.1 g19.2) rfl rfl rfl ?_
            refine ol_val (v := .int .i64 (ix a0.Queues s10)) (by exact xr_load1 (v := .int .i64 (ix a0.Queues s10)) rfl ag3 rfl ((R0_0.gr fB).elem g19.1 g19.2)) rfl rfl rfl ?_
            refine ol_val (v := .int .i64 s10) (by exact xr_assign rfl rfl) rfl rfl rfl ?_
            refine ol_val (v := .int .i64 (ix a0.Queues s10)) (by exact xr_assign rfl rfl) rfl rfl rfl ?_
            refine ol_nil ?_
            refine cw_seq ?_
            obtain ⟨x20, j21, h⟩ := bs h
            refine cw_mid (fun ρ' w' => ρ' 1 = .pointer (some ⟨G1, 0, none⟩) ∧ ρ' 16 = V0_0 ∧ ρ' 17 = .int .i64 (List.length a0.Queues : Int) ∧ ρ' 18 = .int .i64 s10 ∧ ρ' 33 = .bool x20 ∧ Gr w16 w') ?_ ?_
            · skip
              refine cw_region ?_
              refine ol_val (v := .int .i64 (ix a0.Queues s10)) (by exact xr_move rfl rfl) rfl rfl rfl ?_
              obtain ⟨t22, k23, j21⟩ := bs j21
              refine ol_op (by exact opv_call rfl cal119 (ac rfl an) (label_blockNumber.ok fu _ (ix a0.Queues s10) _ k23)) rfl rfl rfl ?_
              rintro _ w25 ⟨rfl, q24⟩
              have b2 := b2.gr q24
              have fB := fB.gr q24
              refine ol_val (v := .bool (!t22)) (by exact xr_not rfl rfl) rfl rfl rfl ?_
              refine ol_val (v := .bool (!t22)) (by exact xr_move rfl rfl) rfl rfl rfl ?_
              rcases is j21 with ⟨c26, j21⟩ | ⟨c26, j21⟩
              · skip
                refine ol_gskip rfl rfl rfl rfl rfl c26 ?_
                refine ol_gskip rfl rfl rfl rfl rfl c26 ?_
                refine ol_gskip rfl rfl rfl rfl rfl c26 ?_
                refine ol_gskip rfl rfl rfl rfl rfl c26 ?_
                refine ol_gskip rfl rfl rfl rfl rfl c26 ?_
                refine ol_gskip rfl rfl rfl rfl rfl c26 ?_
                refine ol_val (v := .bool true) (by exact xr_pickT rfl rfl c26 rfl) rfl rfl rfl ?_
                refine ol_nil ?_
                obtain rfl := Option.some.inj j21
                refine thn_i ?_
                exact ⟨e1, e16, e17, e18, rfl, q24⟩
              · skip
                refine ol_gval (v := .pointer (some ⟨G1, 0, none⟩)) (by exact xr_fieldAddr (p := 0) (q := 0) rfl fl107_0 e1) rfl rfl rfl rfl rfl c26 ?_
                refine ol_gval (v := V0_0) (by exact xr_load1 (v := V0_0) rfl ag45 rfl (b2.seg 0 rfl rfl)) rfl rfl rfl rfl rfl c26 ?_
                refine ol_gval (v := .int .i64 s10) (by exact xr_move rfl rfl) rfl rfl rfl rfl rfl c26 ?_
                obtain ⟨g28, j21⟩ := gs j21
                refine ol_gval (v := subv 1 V0_0 0 (Int.toNat s10)) (by exact xr_slice_h (K := (kI .i64)) (v := V0_0) rfl Try.underlying45 sz3 rfl (R0_0.gr fB) rfl g28.1 g28.2) rfl rfl rfl rfl rfl c26 ?_
                have r27 : Rd (kI .i64) w25 (subv 1 V0_0 0 (Int.toNat s10)) (cut a0.Queues 0 s10) := (R0_0.gr fB).cut (lo := 0) (hi := s10) (by decide) g28.1 g28.2
                refine ol_gval (v := .int .i64 (ix a0.Queues s10)) (by exact xr_move rfl rfl) rfl rfl rfl rfl rfl c26 ?_
                obtain ⟨t29, k30, j21⟩ := bs j21
                refine ol_gop (by exact opv_call rfl cal122 (ac rfl (ac rfl an)) (slices_Contains.ok fu _ (cut a0.Queues 0 s10) (subv 1 V0_0 0 (Int.toNat s10)) (r27) (ix a0.Queues s10) _ k30)) rfl rfl rfl rfl rfl c26 ?_
                rintro _ w32 ⟨rfl, q31⟩
                have b2 := b2.gr q31
                have r27 := r27.gr q31
                have fB := fB.gr q31
                refine ol_val (v := .bool t29) (by exact xr_pickF rfl rfl c26 rfl) rfl rfl rfl ?_
                refine ol_nil ?_
                obtain rfl := Option.some.inj j21
                refine thn_i ?_
                exact ⟨e1, e16, e17, e18, rfl, (q24.gr q31)⟩
            · skip
              rintro ρ33 w34 ⟨e1, e16, e17, e18, e33, q35⟩
              have b2 := b2.gr q35
              have fB := fB.gr q35
              rcases is h with ⟨c36, h⟩ | ⟨c36, h⟩
              · refine cw_condT e33 c36 ?_
                refine cw_seq ?_
                refine cw_region ?_
                refine ol_val (v := .bool false) (by exact xr_assign rfl rfl) rfl rfl rfl ?_
                refine ol_nil ?_
                refine cw_ret ?_
                repeat (first | with_reducible refine thn_r ?_ | with_reducible refine blk_r ?_)
                obtain rfl := Option.some.inj h
                refine lp_ret ?_
                rintro rfl
                repeat (first | with_reducible refine thn_r ?_ | with_reducible refine blk_r ?_)
                have h := h13
                obtain rfl := Option.some.inj h
                refine fin_ret1 Try.results83 rfl ?_
                exact ⟨_, rfl, rfl, fB⟩
              · refine cw_condF e33 c36 ?_
                refine cw_skip ?_
                refine blk_i ?_
                refine cw_region ?_
                refine ol_val (v := .int .i64 (IntKind.i64.wrap (s10 + 1))) (by exact xr_add rfl e18 rfl) rfl rfl rfl ?_
                refine ol_val (v := .int .i64 (IntKind.i64.wrap (s10 + 1))) (by exact xr_move rfl rfl) rfl rfl rfl ?_
                refine ol_nil ?_
                obtain rfl := Option.some.inj h
                refine lp_in ?_
                exact ⟨e1, e16, e17, rfl, b2, fB⟩
          · refine cw_condF rfl c18 ?_
            refine cw_exit ?_
            repeat (first | with_reducible refine thn_e ?_ | with_reducible refine blk_e rfl ?_)
            obtain rfl := Option.some.inj h
            refine lp_exit ?_
            rintro rfl
            refine thn_x ?_
            exact ⟨_, rfl, fB⟩
      · rintro ρ37 w38 ⟨x14, rfl, fB⟩
        have h := h13
        refine cw_seq ?_
        refine cw_region ?_
        refine ol_val (v := .bool true) (by exact xr_assign rfl rfl) rfl rfl rfl ?_
        refine ol_nil ?_
        refine cw_ret ?_
        repeat (first | with_reducible refine thn_r ?_ | with_reducible refine blk_r ?_)
        obtain rfl := Option.some.inj h
        refine fin_ret1 Try.results83 rfl ?_
        exact ⟨_, rfl, rfl, fB⟩
end Go.Proofs.Ytjhajfkfhdnciaa

/- rickyard/label.PutDir: its model, and that the Go function computes it: written by gen.py. -/
set_option linter.unusedVariables false
namespace Go.Proofs.Ytjhajfkfhdnciaa
open Go Go.Xw
def label_PutDir.s0 (fu : Nat) (a0 : S_api_Dir) : ((List Int) × Int) → Option (Sum (List Int) ((List Int) × Int)) := fun s15 => (if (decide (s15.2 < (List.length a0.Queues : Int))) = true then (if 0 ≤ s15.2 ∧ s15.2 < (List.length a0.Queues : Int) then ((octet_Lay.f fu (IntKind.u64.wrap (ix a0.Queues s15.2)) 2 : Option (List Int)).bind fun t30 => (if List.length s15.1 + List.length t30 ≤ LIM then some (Sum.inr ((s15.1 ++ t30), (IntKind.i64.wrap (s15.2 + 1)))) else none)) else none) else some (Sum.inl (s15.1)))
def label_PutDir.f (fu : Nat) (a0 : S_api_Dir) : Option ((List Int) × Bool) := ((label_RightDir.f fu a0 : Option Bool).bind fun t10 => (if (!t10) = true then some ([], false) else ((loopM (label_PutDir.s0 fu a0) fu ([], 0)).bind fun e16 => ((block_Seal.f fu 6 (List.length a0.Queues : Int) e16 : Option ((List Int) × Bool)).bind fun t49 => some (t49.1, t49.2)))))
set_option maxRecDepth 100000 in
set_option maxHeartbeats 400000 in
theorem label_PutDir.ok (fu : Nat) (w : World) (a0 : S_api_Dir) (V0_0 : Value) (R0_0 : Rd (kI .i64) w V0_0 a0.Queues) (r : (List Int) × Bool) (h : label_PutDir.f fu a0 = some r) :
    Calls Try.prog 80 (([aggV [Seg.cell V0_0 R0_0.one]] : List Value).toArray) w (fun e w' => ∃ v, e = .returned v ∧ ∃ u1 : Value, ∃ o2 : Own (kI .u8) 5 w' w.heap.size u1 r.1, v = .tuple #[u1, .bool r.2] ∧ Gr w w') := by
  unfold label_PutDir.f at h
  have fB : Gr w w := Fr.refl _ _
  refine calls_cw Try.func80 rfl Try.ntmps80 rfl ?_
  refine cw_seq ?_
  refine cw_region ?_
  refine ol_op (by exact opv_box (ss := [Seg.cell V0_0 R0_0.one]) rfl rfl rfl) rfl rfl rfl ?_
  rintro _ w9 ⟨G4, rfl, b5, q6, z7⟩
  have z7 := Nat.le_trans fB.size z7
  have fB := fB.gr q6
  refine ol_val (v := .slice none 0 0) (by exact xr_assign rfl rfl) rfl rfl rfl ?_
  refine ol_val (v := .bool false) (by exact xr_assign rfl rfl) rfl rfl rfl ?_
  refine ol_nil ?_
  refine cw_seq ?_
  refine cw_seq ?_
  refine cw_region ?_
  refine ol_val (v := aggV [Seg.cell V0_0 R0_0.one]) (by exact xr_loadS (ss := [Seg.cell V0_0 R0_0.one]) rfl ag107 sz107 rfl rfl (b5.segs 0 1 rfl)) rfl rfl rfl ?_
  obtain ⟨t10, k11, h⟩ := bs h
  refine ol_op (by exact opv_call rfl cal83 (ac rfl an) (label_RightDir.ok fu _ a0 V0_0 (R0_0.gr fB) _ k11)) rfl rfl rfl ?_
  rintro _ w13 ⟨rfl, q12⟩
  have b5 := b5.gr q12
  have fB := fB.gr q12
  refine ol_val (v := .bool (!t10)) (by exact xr_not rfl rfl) rfl rfl rfl ?_
  refine ol_nil ?_
  rcases is h with ⟨c14, h⟩ | ⟨c14, h⟩
  · refine cw_condT rfl c14 ?_
    refine cw_seq ?_
    refine cw_region ?_
    refine ol_val (v := .slice none 0 0) (by exact xr_assign rfl rfl) rfl rfl rfl ?_
    refine ol_val (v := .bool false) (by exact xr_assign rfl rfl) rfl rfl rfl ?_
    refine ol_nil ?_
    refine cw_ret ?_
    repeat (first | with_reducible refine thn_r ?_ | with_reducible refine blk_r ?_)
    obtain rfl := Option.some.inj h
    refine fin_ret2 Try.results80 rfl rfl ?_
    exact ⟨_, rfl, (.slice none 0 0), Own.nil _ _ _ _, rfl, fB⟩
  · refine cw_condF rfl c14 ?_
    refine cw_skip ?_
    refine cw_seq ?_
    refine cw_region ?_
    refine ol_val (v := .slice none 0 0) (by exact xr_assign rfl rfl) rfl rfl rfl ?_
    refine ol_nil ?_
    refine cw_seq ?_
    refine cw_seq ?_
    refine cw_region ?_
    refine ol_val (v := .pointer (some ⟨G4, 0, none⟩)) (by exact xr_fieldAddr (p := 0) (q := 0) rfl fl107_0 rfl) rfl rfl rfl ?_
    refine ol_val (v := V0_0) (by exact xr_load1 (v := V0_0) rfl ag45 rfl (b5.seg 0 rfl rfl)) rfl rfl rfl ?_
    refine ol_val (v := .int .i64 (List.length a0.Queues : Int)) (by exact xr_lenR rfl Try.underlying45 rfl (R0_0.gr fB)) rfl rfl rfl ?_
    refine ol_val (v := .int .i64 0) (by exact xr_move rfl rfl) rfl rfl rfl ?_
    refine ol_nil ?_
    obtain ⟨e16, l17, h18⟩ := bs h
    refine cw_mid (fun ρ' w' => ∃ v19 : Value, ∃ o20 : Own (kI .u8) 5 w' w.heap.size v19 e16, ρ' 1 = .pointer (some ⟨G4, 0, none⟩) ∧ ρ' 4 = v19 ∧ Blk w' G4 107 [Seg.cell V0_0 R0_0.one] ∧ Gr w w') ?_ ?_
    · refine cw_block ?_
      refine cw_round (fun (s15 : (List Int) × Int) ρ' w' => ∃ v22 : Value, ∃ o23 : Own (kI .u8) 5 w' w.heap.size v22 s15.1, ρ' 1 = .pointer (some ⟨G4, 0, none⟩) ∧ ρ' 4 = v22 ∧ ρ' 11 = V0_0 ∧ ρ' 12 = .int .i64 (List.length a0.Queues : Int) ∧ ρ' 13 = .int .i64 s15.2 ∧ Blk w' G4 107 [Seg.cell V0_0 R0_0.one] ∧ Gr w w') l17 ?_ ?_
      · skip
        exact ⟨(.slice none 0 0), Own.nil _ _ _ _, rfl, rfl, rfl, rfl, rfl, b5, fB⟩
      · rintro s15 x27 ρ25 w26 ⟨v22, o23, e1, e4, e11, e12, e13, b5, fB⟩ h
        unfold label_PutDir.s0 at h
        refine cw_seq ?_
        refine cw_region ?_
        refine ol_val (v := .bool (decide (s15.2 < (List.length a0.Queues : Int)))) (by exact xr_lss rfl e13 e12) rfl rfl rfl ?_
        refine ol_nil ?_
        refine cw_seq ?_
        rcases is h with ⟨c28, h⟩ | ⟨c28, h⟩
        · refine cw_condT rfl c28 ?_
          refine cw_skip ?_
          refine cw_seq ?_
          refine cw_block ?_
          refine cw_seq ?_
          refine cw_region ?_
          obtain ⟨g29, h⟩ := gs h
          refine ol_val (v := .pointer (some ⟨(sb V0_0), so V0_0 + Int.toNat s15.2 * 1, none⟩)) (by exact xr_indexR (K := (kI .i64)) (v := V0_0) rfl Try.underlying45 sz3 e11 (R0_0.gr fB) e13 g29.1 g29.2) rfl rfl rfl ?_
          refine ol_val (v := .int .i64 (ix a0.Queues s15.2)) (by exact xr_load1 (v := .int .i64 (ix a0.Queues s15.2)) rfl ag3 rfl ((R0_0.gr fB).elem g29.1 g29.2)) rfl rfl rfl ?_
          refine ol_val (v := .int .i64 (ix a0.Queues s15.2)) (by exact xr_assign rfl rfl) rfl rfl rfl ?_
          refine ol_nil ?_
          refine cw_region ?_
          refine ol_val (v := v22) (by exact xr_move rfl e4) rfl rfl rfl ?_
          refine ol_val (v := .int .i64 (ix a0.Queues s15.2)) (by exact xr_move rfl rfl) rfl rfl rfl ?_
          refine ol_val (v := .int .u64 (IntKind.u64.wrap (ix a0.Queues s15.2))) (by exact xr_conv rfl Try.underlying3 Try.underlying129 rfl) rfl rfl rfl ?_
          obtain ⟨t30, k31, h⟩ := bs h
          refine ol_op (by exact opv_call rfl cal95 (ac rfl (ac rfl an)) (octet_Lay.ok fu _ (IntKind.u64.wrap (ix a0.Queues s15.2)) 2 _ k31)) rfl rfl rfl ?_
          rintro u32 w36 ⟨_, o33, rfl, q35⟩
          have a37 := OffV.call o23 o33
          have o33 := Own.base o33 fB.size
          have b5 := b5.gr q35
          have o23 := o23.gr q35
          have fB := fB.gr q35
          obtain ⟨g42, h⟩ := gs h
          have f44 := off_ty b5 o23 (by decide)
          have f45 := o23.geO
          refine ol_op (by exact opv_append (K := (kI .u8)) rfl Try.underlying22 el5 rfl rfl rfl rfl rfl o23 o33.rd g42 fB.size) rfl rfl rfl ?_
          rintro v38 w46 ⟨o39, q40, n41⟩
          have b5 := b5.wrO q40 f44
          have fB := fB.wrO q40 f45
          refine ol_val (v := v38) (by exact xr_assign rfl rfl) rfl rfl rfl ?_
          refine ol_nil ?_
          refine blk_i ?_
          refine cw_region ?_
          refine ol_val (v := .int .i64 (IntKind.i64.wrap (s15.2 + 1))) (by exact xr_add rfl e13 rfl) rfl rfl rfl ?_
          refine ol_val (v := .int .i64 (IntKind.i64.wrap (s15.2 + 1))) (by exact xr_move rfl rfl) rfl rfl rfl ?_
          refine ol_nil ?_
          obtain rfl := Option.some.inj h
          refine lp_in ?_
          exact ⟨v38, o39, e1, rfl, e11, e12, rfl, b5, fB⟩
        · refine cw_condF rfl c28 ?_
          refine cw_exit ?_
          repeat (first | with_reducible refine thn_e ?_ | with_reducible refine blk_e rfl ?_)
          obtain rfl := Option.some.inj h
          refine lp_exit ?_
          rintro rfl
          refine thn_x ?_
          exact ⟨v22, o23, e1, e4, b5, fB⟩
    · rintro ρ47 w48 ⟨v19, o20, e1, e4, b5, fB⟩
      have h := h18
      refine cw_seq ?_
      refine cw_region ?_
      refine ol_val (v := .pointer (some ⟨G4, 0, none⟩)) (by exact xr_fieldAddr (p := 0) (q := 0) rfl fl107_0 e1) rfl rfl rfl ?_
      refine ol_val (v := V0_0) (by exact xr_load1 (v := V0_0) rfl ag45 rfl (b5.seg 0 rfl rfl)) rfl rfl rfl ?_
      refine ol_val (v := .int .i64 (List.length a0.Queues : Int)) (by exact xr_lenR rfl Try.underlying45 rfl (R0_0.gr fB)) rfl rfl rfl ?_
      refine ol_val (v := v19) (by exact xr_move rfl e4) rfl rfl rfl ?_
      obtain ⟨t49, k50, h⟩ := bs h
      refine ol_op (by exact opv_call rfl cal28 (ac rfl (ac rfl (ac rfl an))) (block_Seal.ok fu _ 6 (List.length a0.Queues : Int) e16 v19 (o20.rd) _ k50)) rfl rfl rfl ?_
      rintro _ w55 ⟨u51, o52, rfl, q54⟩
      have o52 := Own.base o52 fB.size
      have fB := fB.gr q54
      refine ol_val (v := u51) (by exact xr_extract rfl rfl rfl) rfl rfl rfl ?_
      refine ol_val (v := .bool t49.2) (by exact xr_extract rfl rfl rfl) rfl rfl rfl ?_
      refine ol_val (v := u51) (by exact xr_assign rfl rfl) rfl rfl rfl ?_
      refine ol_val (v := .bool t49.2) (by exact xr_assign rfl rfl) rfl rfl rfl ?_
      refine ol_nil ?_
      refine cw_ret ?_
      repeat (first | with_reducible refine thn_r ?_ | with_reducible refine blk_r ?_)
      obtain rfl := Option.some.inj h
      refine fin_ret2 Try.results80 rfl rfl ?_
      exact ⟨_, rfl, u51, o52, rfl, fB⟩
end Go.Proofs.Ytjhajfkfhdnciaa

/- rickyard/rickyardlaw11.awake: its model, and that the Go function computes it: written by gen.py. -/
set_option linter.unusedVariables false
namespace Go.Proofs.Ytjhajfkfhdnciaa
open Go Go.Xw
def rickyardlaw11_awake.f (fu : Nat) : Option Bool := ((label_PutQueue.f fu (⟨[97], 5, (Arr.set (Arr.set (Arr.rep 12 (0 : Int)) 0 7) 2 9)⟩ : S_api_Queue) : Option ((List Int) × Bool)).bind fun t13 => ((label_GetQueue.f fu t13.1 : Option (S_api_Queue × Bool)).bind fun t20 => ((label_PutDir.f fu (⟨[5]⟩ : S_api_Dir) : Option ((List Int) × Bool)).bind fun t40 => (((if t13.2 = true then (if t20.2 = true then (if t40.2 = true then (if (decide ((List.length t13.1 : Int) = 64)) = true then (if (decide ((List.length t40.1 : Int) = 64)) = true then (if (decide (t20.1 = (⟨[97], 5, (Arr.set (Arr.set (Arr.rep 12 (0 : Int)) 0 7) 2 9)⟩ : S_api_Queue))) = true then ((label_Trees.f fu (Arr.set (Arr.set (Arr.rep 12 (0 : Int)) 0 7) 2 9) : Option (List Int)).bind fun t56 => some ((decide ((List.length t56 : Int) = 2)))) else some (false)) else some (false)) else some (false)) else some (false)) else some (false)) else some (false)) : Option Bool).bind fun x48 => some (x48)))))
set_option maxRecDepth 100000 in
set_option maxHeartbeats 400000 in
theorem rickyardlaw11_awake.ok (fu : Nat) (w : World)  (r : Bool) (h : rickyardlaw11_awake.f fu = some r) :
    Calls Try.prog 73 (([] : List Value).toArray) w (fun e w' => ∃ v, e = .returned v ∧ v = .bool r ∧ Gr w w') := by
  unfold rickyardlaw11_awake.f at h
  have fB : Gr w w := Fr.refl _ _
  refine calls_cw Try.func73 rfl Try.ntmps73 rfl ?_
  refine cw_seq ?_
  refine cw_region ?_
  refine ol_val (v := .bool false) (by exact xr_assign rfl rfl) rfl rfl rfl ?_
  refine ol_nil ?_
  refine cw_seq ?_
  refine cw_region ?_
  refine ol_val (v := aggV [Seg.cell (sv [97]), Seg.cell (.int .i64 5), Kd.seg (kA 12 (kI .i64)) (Arr.rep 12 (0 : Int))]) (by exact xr_build (vals := [(0, sv [97]), (1, .int .i64 5)]) rfl ⟨rfl, rfl, ⟨rfl, rfl, trivial⟩⟩ (bl98_0_1 [97] 5 _)) rfl rfl rfl ?_
  refine ol_op (by exact opv_alloc (ss := [Seg.cell (sv []), Seg.cell (.int .i64 (0 : Int)), Kd.seg (kA 12 (kI .i64)) (Arr.rep 12 (0 : Int))]) rfl ze98 rfl) rfl rfl rfl ?_
  rintro _ w6 ⟨G1, rfl, b2, q3, z4⟩
  have z4 := Nat.le_trans fB.size z4
  have fB := fB.gr q3
  refine ol_op0 (by exact opv_store (ss' := [Seg.cell (sv [97]), Seg.cell (.int .i64 5), Kd.seg (kA 12 (kI .i64)) (Arr.rep 12 (0 : Int))]) (xs := cellsOf [Seg.cell (sv [97]), Seg.cell (.int .i64 5), Kd.seg (kA 12 (kI .i64)) (Arr.rep 12 (0 : Int))]) rfl sz98 rfl rfl rfl (len_cellsOf _) (one_cellsOf _) b2 (Spl.segs _ 0 3 [Seg.cell (sv [97]), Seg.cell (.int .i64 5), Kd.seg (kA 12 (kI .i64)) (Arr.rep 12 (0 : Int))] rfl rfl)) rfl rfl ?_
  rintro _ w8 ⟨b2, q7⟩
  have fB := fB.wr q7 z4
  refine ol_nil ?_
  refine cw_seq ?_
  refine cw_region ?_
  refine ol_val (v := .pointer (some ⟨G1, 2, none⟩)) (by exact xr_fieldAddr (p := 0) (q := 2) rfl fl98_2 rfl) rfl rfl rfl ?_
  refine ol_val (v := .pointer (some ⟨G1, 2 + Int.toNat 0 * 1, none⟩)) (by exact xr_indexA (p := 2) (s := 1) rfl Try.underlying96 sz3 rfl rfl (by decide) (by decide)) rfl rfl rfl ?_
  refine ol_op0 (by exact opv_store (ss' := [Seg.cell (sv [97]), Seg.cell (.int .i64 5), Kd.seg (kA 12 (kI .i64)) (Arr.set (Arr.rep 12 (0 : Int)) 0 7)]) (xs := cellsOf [Seg.cell (.int .i64 7)]) rfl sz3 rfl rfl rfl (len_cellsOf _) (one_cellsOf _) b2 (Spl.seg_in _ 2 (Kd.seg (kA 12 (kI .i64)) (Arr.set (Arr.rep 12 (0 : Int)) 0 7)) rfl rfl (Spl.arr (Arr.rep 12 (0 : Int)) 0 7 (by decide) (by decide) (Spl.whole ((Kd.len _ _).trans (Kd.len _ _).symm))))) rfl rfl ?_
  rintro _ w10 ⟨b2, q9⟩
  have fB := fB.wr q9 z4
  refine ol_val (v := .pointer (some ⟨G1, 2, none⟩)) (by exact xr_fieldAddr (p := 0) (q := 2) rfl fl98_2 rfl) rfl rfl rfl ?_
  refine ol_val (v := .pointer (some ⟨G1, 2 + Int.toNat 2 * 1, none⟩)) (by exact xr_indexA (p := 2) (s := 1) rfl Try.underlying96 sz3 rfl rfl (by decide) (by decide)) rfl rfl rfl ?_
  refine ol_op0 (by exact opv_store (ss' := [Seg.cell (sv [97]), Seg.cell (.int .i64 5), Kd.seg (kA 12 (kI .i64)) (Arr.set (Arr.set (Arr.rep 12 (0 : Int)) 0 7) 2 9)]) (xs := cellsOf [Seg.cell (.int .i64 9)]) rfl sz3 rfl rfl rfl (len_cellsOf _) (one_cellsOf _) b2 (Spl.seg_in _ 2 (Kd.seg (kA 12 (kI .i64)) (Arr.set (Arr.set (Arr.rep 12 (0 : Int)) 0 7) 2 9)) rfl rfl (Spl.arr (Arr.set (Arr.rep 12 (0 : Int)) 0 7) 2 9 (by decide) (by decide) (Spl.whole ((Kd.len _ _).trans (Kd.len _ _).symm))))) rfl rfl ?_
  rintro _ w12 ⟨b2, q11⟩
  have fB := fB.wr q11 z4
  refine ol_nil ?_
  refine cw_seq ?_
  refine cw_region ?_
  refine ol_val (v := aggV [Seg.cell (sv [97]), Seg.cell (.int .i64 5), Kd.seg (kA 12 (kI .i64)) (Arr.set (Arr.set (Arr.rep 12 (0 : Int)) 0 7) 2 9)]) (by exact xr_loadS (ss := [Seg.cell (sv [97]), Seg.cell (.int .i64 5), Kd.seg (kA 12 (kI .i64)) (Arr.set (Arr.set (Arr.rep 12 (0 : Int)) 0 7) 2 9)]) rfl ag98 sz98 rfl rfl (b2.segs 0 3 rfl)) rfl rfl rfl ?_
  obtain ⟨t13, k14, h⟩ := bs h
  refine ol_op (by exact opv_call rfl cal74 (ac rfl an) (label_PutQueue.ok fu _ (⟨[97], 5, (Arr.set (Arr.set (Arr.rep 12 (0 : Int)) 0 7) 2 9)⟩ : S_api_Queue) _ k14)) rfl rfl rfl ?_
  rintro _ w19 ⟨u15, o16, rfl, q18⟩
  have o16 := Own.base o16 fB.size
  have b2 := b2.gr q18
  have fB := fB.gr q18
  refine ol_val (v := .tuple #[u15, .bool t13.2]) (by exact xr_move rfl rfl) rfl rfl rfl ?_
  refine ol_val (v := u15) (by exact xr_extract rfl rfl rfl) rfl rfl rfl ?_
  refine ol_val (v := .bool t13.2) (by exact xr_extract rfl rfl rfl) rfl rfl rfl ?_
  refine ol_val (v := u15) (by exact xr_assign rfl rfl) rfl rfl rfl ?_
  refine ol_val (v := .bool t13.2) (by exact xr_assign rfl rfl) rfl rfl rfl ?_
  refine ol_nil ?_
  refine cw_seq ?_
  refine cw_region ?_
  refine ol_val (v := u15) (by exact xr_move rfl rfl) rfl rfl rfl ?_
  obtain ⟨t20, k21, h⟩ := bs h
  refine ol_op (by exact opv_call rfl cal77 (ac rfl an) (label_GetQueue.ok fu _ t13.1 u15 (o16.rd) _ k21)) rfl rfl rfl ?_
  rintro _ w23 ⟨rfl, q22⟩
  have b2 := b2.gr q22
  have o16 := o16.gr q22
  have fB := fB.gr q22
  refine ol_val (v := .tuple #[aggV [Seg.cell (sv t20.1.Name), Seg.cell (.int .i64 t20.1.Count), Kd.seg (kA 12 (kI .i64)) t20.1.Roots], .bool t20.2]) (by exact xr_move rfl rfl) rfl rfl rfl ?_
  refine ol_val (v := aggV [Seg.cell (sv t20.1.Name), Seg.cell (.int .i64 t20.1.Count), Kd.seg (kA 12 (kI .i64)) t20.1.Roots]) (by exact xr_extract rfl rfl rfl) rfl rfl rfl ?_
  refine ol_val (v := .bool t20.2) (by exact xr_extract rfl rfl rfl) rfl rfl rfl ?_
  refine ol_op (by exact opv_alloc (ss := [Seg.cell (sv []), Seg.cell (.int .i64 (0 : Int)), Kd.seg (kA 12 (kI .i64)) (Arr.rep 12 (0 : Int))]) rfl ze98 rfl) rfl rfl rfl ?_
  rintro _ w29 ⟨G24, rfl, b25, q26, z27⟩
  have n30 := b2.ne z27
  have z27 := Nat.le_trans fB.size z27
  have b2 := b2.gr q26
  have o16 := o16.gr q26
  have fB := fB.gr q26
  have f32 := off_ty b25 o16 (by decide)
  refine ol_op0 (by exact opv_store (ss' := [Seg.cell (sv t20.1.Name), Seg.cell (.int .i64 t20.1.Count), Kd.seg (kA 12 (kI .i64)) t20.1.Roots]) (xs := cellsOf [Seg.cell (sv t20.1.Name), Seg.cell (.int .i64 t20.1.Count), Kd.seg (kA 12 (kI .i64)) t20.1.Roots]) rfl sz98 rfl rfl rfl (len_cellsOf _) (one_cellsOf _) b25 (Spl.segs _ 0 3 [Seg.cell (sv t20.1.Name), Seg.cell (.int .i64 t20.1.Count), Kd.seg (kA 12 (kI .i64)) t20.1.Roots] rfl rfl)) rfl rfl ?_
  rintro _ w33 ⟨b25, q31⟩
  have b2 := b2.wr q31 n30
  have o16 := o16.wr q31 f32
  have fB := fB.wr q31 z27
  refine ol_val (v := .bool t20.2) (by exact xr_assign rfl rfl) rfl rfl rfl ?_
  refine ol_nil ?_
  refine cw_seq ?_
  refine cw_region ?_
  refine ol_op (by exact opv_buildSlice (K := (kI .i64)) (xs := [5]) (vals := [.int .i64 5]) rfl Try.underlying45 el3 rfl rfl ⟨rfl, rfl, trivial⟩ rfl rfl rfl fB.size) rfl rfl rfl ?_
  rintro v34 w39 ⟨o36, q35, z37⟩
  have b2 := b2.gr q35
  have b25 := b25.gr q35
  have o16 := o16.gr q35
  have fB := fB.gr q35
  refine ol_val (v := aggV [Seg.cell v34 o36.one]) (by exact xr_buildS (vals := [(0, v34)]) (res := [Seg.cell v34 o36.one]) rfl ⟨rfl, rfl, trivial⟩ Try.underlying107 ze107 pl107 (fl_cons (xs := cellsOf [Seg.cell v34 o36.one]) (cs' := cellsOf [Seg.cell v34 o36.one]) rfl (cells_one o36.one) (len_cellsOf _) (Spl.segs [Seg.cell (.slice none 0 0) (by rfl)] 0 1 [Seg.cell v34 o36.one] rfl rfl) fl_nil)) rfl rfl rfl ?_
  obtain ⟨t40, k41, h⟩ := bs h
  refine ol_op (by exact opv_call rfl cal80 (ac rfl an) (label_PutDir.ok fu _ (⟨[5]⟩ : S_api_Dir) v34 (o36.rd) _ k41)) rfl rfl rfl ?_
  rintro _ w46 ⟨u42, o43, rfl, q45⟩
  have a47 := OffV.call o16 o43
  have o43 := Own.base o43 fB.size
  have b2 := b2.gr q45
  have b25 := b25.gr q45
  have o16 := o16.gr q45
  have fB := fB.gr q45
  refine ol_val (v := .tuple #[u42, .bool t40.2]) (by exact xr_move rfl rfl) rfl rfl rfl ?_
  refine ol_val (v := u42) (by exact xr_extract rfl rfl rfl) rfl rfl rfl ?_
  refine ol_val (v := .bool t40.2) (by exact xr_extract rfl rfl rfl) rfl rfl rfl ?_
  refine ol_val (v := u42) (by exact xr_assign rfl rfl) rfl rfl rfl ?_
  refine ol_val (v := .bool t40.2) (by exact xr_assign rfl rfl) rfl rfl rfl ?_
  refine ol_nil ?_
  refine cw_seq ?_
  obtain ⟨x48, j49, h⟩ := bs h
  refine cw_mid (fun ρ' w' => ρ' 0 = .bool x48 ∧ Gr w46 w') ?_ ?_
  · skip
    refine cw_region ?_
    refine ol_val (v := .bool t13.2) (by exact xr_move rfl rfl) rfl rfl rfl ?_
    refine ol_val (v := .bool t13.2) (by exact xr_move rfl rfl) rfl rfl rfl ?_
    rcases is j49 with ⟨c50, j49⟩ | ⟨c50, j49⟩
    · skip
      refine ol_gval (v := .bool t20.2) (by exact xr_move rfl rfl) rfl rfl rfl rfl rfl c50 ?_
      refine ol_val (v := .bool t20.2) (by exact xr_pickT rfl rfl c50 rfl) rfl rfl rfl ?_
      refine ol_val (v := .bool t20.2) (by exact xr_move rfl rfl) rfl rfl rfl ?_
      rcases is j49 with ⟨c51, j49⟩ | ⟨c51, j49⟩
      · skip
        refine ol_gval (v := .bool t40.2) (by exact xr_move rfl rfl) rfl rfl rfl rfl rfl c51 ?_
        refine ol_val (v := .bool t40.2) (by exact xr_pickT rfl rfl c51 rfl) rfl rfl rfl ?_
        refine ol_val (v := .bool t40.2) (by exact xr_move rfl rfl) rfl rfl rfl ?_
        rcases is j49 with ⟨c52, j49⟩ | ⟨c52, j49⟩
        · skip
          refine ol_gval (v := u15) (by exact xr_move rfl rfl) rfl rfl rfl rfl rfl c52 ?_
          refine ol_gval (v := .int .i64 (List.length t13.1 : Int)) (by exact xr_lenR rfl Try.underlying22 rfl o16.rd) rfl rfl rfl rfl rfl c52 ?_
          refine ol_gval (v := .bool (decide ((List.length t13.1 : Int) = 64))) (by exact xr_eqI rfl Try.underlying3 rfl rfl rfl) rfl rfl rfl rfl rfl c52 ?_
          refine ol_val (v := .bool (decide ((List.length t13.1 : Int) = 64))) (by exact xr_pickT rfl rfl c52 rfl) rfl rfl rfl ?_
          refine ol_val (v := .bool (decide ((List.length t13.1 : Int) = 64))) (by exact xr_move rfl rfl) rfl rfl rfl ?_
          rcases is j49 with ⟨c53, j49⟩ | ⟨c53, j49⟩
          · skip
            refine ol_gval (v := u42) (by exact xr_move rfl rfl) rfl rfl rfl rfl rfl c53 ?_
            refine ol_gval (v := .int .i64 (List.length t40.1 : Int)) (by exact xr_lenR rfl Try.underlying22 rfl o43.rd) rfl rfl rfl rfl rfl c53 ?_
            refine ol_gval (v := .bool (decide ((List.length t40.1 : Int) = 64))) (by exact xr_eqI rfl Try.underlying3 rfl rfl rfl) rfl rfl rfl rfl rfl c53 ?_
            refine ol_val (v := .bool (decide ((List.length t40.1 : Int) = 64))) (by exact xr_pickT rfl rfl c53 rfl) rfl rfl rfl ?_
            refine ol_val (v := .bool (decide ((List.length t40.1 : Int) = 64))) (by exact xr_move rfl rfl) rfl rfl rfl ?_
            rcases is j49 with ⟨c54, j49⟩ | ⟨c54, j49⟩
            · skip
              refine ol_gval (v := aggV [Seg.cell (sv t20.1.Name), Seg.cell (.int .i64 t20.1.Count), Kd.seg (kA 12 (kI .i64)) t20.1.Roots]) (by exact xr_loadS (ss := [Seg.cell (sv t20.1.Name), Seg.cell (.int .i64 t20.1.Count), Kd.seg (kA 12 (kI .i64)) t20.1.Roots]) rfl ag98 sz98 rfl rfl (b25.segs 0 3 rfl)) rfl rfl rfl rfl rfl c54 ?_
              refine ol_gval (v := aggV [Seg.cell (sv [97]), Seg.cell (.int .i64 5), Kd.seg (kA 12 (kI .i64)) (Arr.set (Arr.set (Arr.rep 12 (0 : Int)) 0 7) 2 9)]) (by exact xr_loadS (ss := [Seg.cell (sv [97]), Seg.cell (.int .i64 5), Kd.seg (kA 12 (kI .i64)) (Arr.set (Arr.set (Arr.rep 12 (0 : Int)) 0 7) 2 9)]) rfl ag98 sz98 rfl rfl (b2.segs 0 3 rfl)) rfl rfl rfl rfl rfl c54 ?_
              refine ol_gval (v := .bool (decide (t20.1 = (⟨[97], 5, (Arr.set (Arr.set (Arr.rep 12 (0 : Int)) 0 7) 2 9)⟩ : S_api_Queue)))) (by exact xr_eqA (a := t20.1) (b := (⟨[97], 5, (Arr.set (Arr.set (Arr.rep 12 (0 : Int)) 0 7) 2 9)⟩ : S_api_Queue)) rfl eqa98 rfl Try.eqGuardType97 rfl rfl rfl rfl) rfl rfl rfl rfl rfl c54 ?_
              refine ol_val (v := .bool (decide (t20.1 = (⟨[97], 5, (Arr.set (Arr.set (Arr.rep 12 (0 : Int)) 0 7) 2 9)⟩ : S_api_Queue)))) (by exact xr_pickT rfl rfl c54 rfl) rfl rfl rfl ?_
              refine ol_val (v := .bool (decide (t20.1 = (⟨[97], 5, (Arr.set (Arr.set (Arr.rep 12 (0 : Int)) 0 7) 2 9)⟩ : S_api_Queue)))) (by exact xr_move rfl rfl) rfl rfl rfl ?_
              rcases is j49 with ⟨c55, j49⟩ | ⟨c55, j49⟩
              · skip
                refine ol_gval (v := .pointer (some ⟨G1, 2, none⟩)) (by exact xr_fieldAddr (p := 0) (q := 2) rfl fl98_2 rfl) rfl rfl rfl rfl rfl c55 ?_
                refine ol_gval (v := aggV [Kd.seg (kA 12 (kI .i64)) (Arr.set (Arr.set (Arr.rep 12 (0 : Int)) 0 7) 2 9)]) (by exact xr_loadS (ss := [Kd.seg (kA 12 (kI .i64)) (Arr.set (Arr.set (Arr.rep 12 (0 : Int)) 0 7) 2 9)]) rfl ag96 sz96 rfl rfl (b2.segs 2 1 rfl)) rfl rfl rfl rfl rfl c55 ?_
                obtain ⟨t56, k57, j49⟩ := bs j49
                refine ol_gop (by exact opv_call rfl cal79 (ac rfl an) (label_Trees.ok fu _ (Arr.set (Arr.set (Arr.rep 12 (0 : Int)) 0 7) 2 9) _ k57)) rfl rfl rfl rfl rfl c55 ?_
                rintro u58 w61 ⟨_, r59, rfl, q60⟩
                have fB := fB.gr q60
                refine ol_gval (v := .int .i64 (List.length t56 : Int)) (by exact xr_lenR rfl Try.underlying45 rfl r59) rfl rfl rfl rfl rfl c55 ?_
                refine ol_gval (v := .bool (decide ((List.length t56 : Int) = 2))) (by exact xr_eqI rfl Try.underlying3 rfl rfl rfl) rfl rfl rfl rfl rfl c55 ?_
                refine ol_val (v := .bool (decide ((List.length t56 : Int) = 2))) (by exact xr_pickT rfl rfl c55 rfl) rfl rfl rfl ?_
                refine ol_val (v := .bool (decide ((List.length t56 : Int) = 2))) (by exact xr_assign rfl rfl) rfl rfl rfl ?_
                refine ol_nil ?_
                obtain rfl := Option.some.inj j49
                refine thn_i ?_
                exact ⟨rfl, q60⟩
              · skip
                refine ol_gskip rfl rfl rfl rfl rfl c55 ?_
                refine ol_gskip rfl rfl rfl rfl rfl c55 ?_
                refine ol_gskip rfl rfl rfl rfl rfl c55 ?_
                refine ol_gskip rfl rfl rfl rfl rfl c55 ?_
                refine ol_gskip rfl rfl rfl rfl rfl c55 ?_
                refine ol_val (v := .bool false) (by exact xr_pickF rfl rfl c55 rfl) rfl rfl rfl ?_
                refine ol_val (v := .bool false) (by exact xr_assign rfl rfl) rfl rfl rfl ?_
                refine ol_nil ?_
                obtain rfl := Option.some.inj j49
                refine thn_i ?_
                exact ⟨rfl, Fr.refl _ _⟩
            · skip
              refine ol_gskip rfl rfl rfl rfl rfl c54 ?_
              refine ol_gskip rfl rfl rfl rfl rfl c54 ?_
              refine ol_gskip rfl rfl rfl rfl rfl c54 ?_
              refine ol_val (v := .bool false) (by exact xr_pickF rfl rfl c54 rfl) rfl rfl rfl ?_
              refine ol_val (v := .bool false) (by exact xr_move rfl rfl) rfl rfl rfl ?_
              refine ol_gskip rfl rfl rfl rfl rfl rfl ?_
              refine ol_gskip rfl rfl rfl rfl rfl rfl ?_
              refine ol_gskip rfl rfl rfl rfl rfl rfl ?_
              refine ol_gskip rfl rfl rfl rfl rfl rfl ?_
              refine ol_gskip rfl rfl rfl rfl rfl rfl ?_
              refine ol_val (v := .bool false) (by exact xr_pickF rfl rfl rfl rfl) rfl rfl rfl ?_
              refine ol_val (v := .bool false) (by exact xr_assign rfl rfl) rfl rfl rfl ?_
              refine ol_nil ?_
              obtain rfl := Option.some.inj j49
              refine thn_i ?_
              exact ⟨rfl, Fr.refl _ _⟩
          · skip
            refine ol_gskip rfl rfl rfl rfl rfl c53 ?_
            refine ol_gskip rfl rfl rfl rfl rfl c53 ?_
            refine ol_gskip rfl rfl rfl rfl rfl c53 ?_
            refine ol_val (v := .bool false) (by exact xr_pickF rfl rfl c53 rfl) rfl rfl rfl ?_
            refine ol_val (v := .bool false) (by exact xr_move rfl rfl) rfl rfl rfl ?_
            refine ol_gskip rfl rfl rfl rfl rfl rfl ?_
            refine ol_gskip rfl rfl rfl rfl rfl rfl ?_
            refine ol_gskip rfl rfl rfl rfl rfl rfl ?_
            refine ol_val (v := .bool false) (by exact xr_pickF rfl rfl rfl rfl) rfl rfl rfl ?_
            refine ol_val (v := .bool false) (by exact xr_move rfl rfl) rfl rfl rfl ?_
            refine ol_gskip rfl rfl rfl rfl rfl rfl ?_
            refine ol_gskip rfl rfl rfl rfl rfl rfl ?_
            refine ol_gskip rfl rfl rfl rfl rfl rfl ?_
            refine ol_gskip rfl rfl rfl rfl rfl rfl ?_
            refine ol_gskip rfl rfl rfl rfl rfl rfl ?_
            refine ol_val (v := .bool false) (by exact xr_pickF rfl rfl rfl rfl) rfl rfl rfl ?_
            refine ol_val (v := .bool false) (by exact xr_assign rfl rfl) rfl rfl rfl ?_
            refine ol_nil ?_
            obtain rfl := Option.some.inj j49
            refine thn_i ?_
            exact ⟨rfl, Fr.refl _ _⟩
        · skip
          refine ol_gskip rfl rfl rfl rfl rfl c52 ?_
          refine ol_gskip rfl rfl rfl rfl rfl c52 ?_
          refine ol_gskip rfl rfl rfl rfl rfl c52 ?_
          refine ol_val (v := .bool false) (by exact xr_pickF rfl rfl c52 rfl) rfl rfl rfl ?_
          refine ol_val (v := .bool false) (by exact xr_move rfl rfl) rfl rfl rfl ?_
          refine ol_gskip rfl rfl rfl rfl rfl rfl ?_
          refine ol_gskip rfl rfl rfl rfl rfl rfl ?_
          refine ol_gskip rfl rfl rfl rfl rfl rfl ?_
          refine ol_val (v := .bool false) (by exact xr_pickF rfl rfl rfl rfl) rfl rfl rfl ?_
          refine ol_val (v := .bool false) (by exact xr_move rfl rfl) rfl rfl rfl ?_
          refine ol_gskip rfl rfl rfl rfl rfl rfl ?_
          refine ol_gskip rfl rfl rfl rfl rfl rfl ?_
          refine ol_gskip rfl rfl rfl rfl rfl rfl ?_
          refine ol_val (v := .bool false) (by exact xr_pickF rfl rfl rfl rfl) rfl rfl rfl ?_
          refine ol_val (v := .bool false) (by exact xr_move rfl rfl) rfl rfl rfl ?_
          refine ol_gskip rfl rfl rfl rfl rfl rfl ?_
          refine ol_gskip rfl rfl rfl rfl rfl rfl ?_
          refine ol_gskip rfl rfl rfl rfl rfl rfl ?_
          refine ol_gskip rfl rfl rfl rfl rfl rfl ?_
          refine ol_gskip rfl rfl rfl rfl rfl rfl ?_
          refine ol_val (v := .bool false) (by exact xr_pickF rfl rfl rfl rfl) rfl rfl rfl ?_
          refine ol_val (v := .bool false) (by exact xr_assign rfl rfl) rfl rfl rfl ?_
          refine ol_nil ?_
          obtain rfl := Option.some.inj j49
          refine thn_i ?_
          exact ⟨rfl, Fr.refl _ _⟩
      · skip
        refine ol_gskip rfl rfl rfl rfl rfl c51 ?_
        refine ol_val (v := .bool false) (by exact xr_pickF rfl rfl c51 rfl) rfl rfl rfl ?_
        refine ol_val (v := .bool false) (by exact xr_move rfl rfl) rfl rfl rfl ?_
        refine ol_gskip rfl rfl rfl rfl rfl rfl ?_
        refine ol_gskip rfl rfl rfl rfl rfl rfl ?_
        refine ol_gskip rfl rfl rfl rfl rfl rfl ?_
        refine ol_val (v := .bool false) (by exact xr_pickF rfl rfl rfl rfl) rfl rfl rfl ?_
        refine ol_val (v := .bool false) (by exact xr_move rfl rfl) rfl rfl rfl ?_
        refine ol_gskip rfl rfl rfl rfl rfl rfl ?_
        refine ol_gskip rfl rfl rfl rfl rfl rfl ?_
        refine ol_gskip rfl rfl rfl rfl rfl rfl ?_
        refine ol_val (v := .bool false) (by exact xr_pickF rfl rfl rfl rfl) rfl rfl rfl ?_
        refine ol_val (v := .bool false) (by exact xr_move rfl rfl) rfl rfl rfl ?_
        refine ol_gskip rfl rfl rfl rfl rfl rfl ?_
        refine ol_gskip rfl rfl rfl rfl rfl rfl ?_
        refine ol_gskip rfl rfl rfl rfl rfl rfl ?_
        refine ol_val (v := .bool false) (by exact xr_pickF rfl rfl rfl rfl) rfl rfl rfl ?_
        refine ol_val (v := .bool false) (by exact xr_move rfl rfl) rfl rfl rfl ?_
        refine ol_gskip rfl rfl rfl rfl rfl rfl ?_
        refine ol_gskip rfl rfl rfl rfl rfl rfl ?_
        refine ol_gskip rfl rfl rfl rfl rfl rfl ?_
        refine ol_gskip rfl rfl rfl rfl rfl rfl ?_
        refine ol_gskip rfl rfl rfl rfl rfl rfl ?_
        refine ol_val (v := .bool false) (by exact xr_pickF rfl rfl rfl rfl) rfl rfl rfl ?_
        refine ol_val (v := .bool false) (by exact xr_assign rfl rfl) rfl rfl rfl ?_
        refine ol_nil ?_
        obtain rfl := Option.some.inj j49
        refine thn_i ?_
        exact ⟨rfl, Fr.refl _ _⟩
    · skip
      refine ol_gskip rfl rfl rfl rfl rfl c50 ?_
      refine ol_val (v := .bool false) (by exact xr_pickF rfl rfl c50 rfl) rfl rfl rfl ?_
      refine ol_val (v := .bool false) (by exact xr_move rfl rfl) rfl rfl rfl ?_
      refine ol_gskip rfl rfl rfl rfl rfl rfl ?_
      refine ol_val (v := .bool false) (by exact xr_pickF rfl rfl rfl rfl) rfl rfl rfl ?_
      refine ol_val (v := .bool false) (by exact xr_move rfl rfl) rfl rfl rfl ?_
      refine ol_gskip rfl rfl rfl rfl rfl rfl ?_
      refine ol_gskip rfl rfl rfl rfl rfl rfl ?_
      refine ol_gskip rfl rfl rfl rfl rfl rfl ?_
      refine ol_val (v := .bool false) (by exact xr_pickF rfl rfl rfl rfl) rfl rfl rfl ?_
      refine ol_val (v := .bool false) (by exact xr_move rfl rfl) rfl rfl rfl ?_
      refine ol_gskip rfl rfl rfl rfl rfl rfl ?_
      refine ol_gskip rfl rfl rfl rfl rfl rfl ?_
      refine ol_gskip rfl rfl rfl rfl rfl rfl ?_
      refine ol_val (v := .bool false) (by exact xr_pickF rfl rfl rfl rfl) rfl rfl rfl ?_
      refine ol_val (v := .bool false) (by exact xr_move rfl rfl) rfl rfl rfl ?_
      refine ol_gskip rfl rfl rfl rfl rfl rfl ?_
      refine ol_gskip rfl rfl rfl rfl rfl rfl ?_
      refine ol_gskip rfl rfl rfl rfl rfl rfl ?_
      refine ol_val (v := .bool false) (by exact xr_pickF rfl rfl rfl rfl) rfl rfl rfl ?_
      refine ol_val (v := .bool false) (by exact xr_move rfl rfl) rfl rfl rfl ?_
      refine ol_gskip rfl rfl rfl rfl rfl rfl ?_
      refine ol_gskip rfl rfl rfl rfl rfl rfl ?_
      refine ol_gskip rfl rfl rfl rfl rfl rfl ?_
      refine ol_gskip rfl rfl rfl rfl rfl rfl ?_
      refine ol_gskip rfl rfl rfl rfl rfl rfl ?_
      refine ol_val (v := .bool false) (by exact xr_pickF rfl rfl rfl rfl) rfl rfl rfl ?_
      refine ol_val (v := .bool false) (by exact xr_assign rfl rfl) rfl rfl rfl ?_
      refine ol_nil ?_
      obtain rfl := Option.some.inj j49
      refine thn_i ?_
      exact ⟨rfl, Fr.refl _ _⟩
  · skip
    rintro ρ62 w63 ⟨e0, q64⟩
    have fB := fB.gr q64
    refine cw_ret ?_
    repeat (first | with_reducible refine thn_r ?_ | with_reducible refine blk_r ?_)
    obtain rfl := Option.some.inj h
    refine fin_ret1 Try.results73 e0 ?_
    exact ⟨_, rfl, rfl, fB⟩
end Go.Proofs.Ytjhajfkfhdnciaa

/- rickyard/rickyardref07.Fill: its model, and that the Go function computes it: written by gen.py. -/
set_option linter.unusedVariables false
namespace Go.Proofs.Ytjhajfkfhdnciaa
open Go Go.Xw
def rickyardref07_Fill.f (fu : Nat) (a0 : List UInt8) (a1 : Int) : Option (List UInt8) := (if 0 ≤ (mxI (IntKind.i64.wrap (a1 - (List.length a0 : Int))) 0) ∧ Int.toNat (mxI (IntKind.i64.wrap (a1 - (List.length a0 : Int))) 0) ≤ LIM then (if List.length a0 + List.length (List.map toB (List.replicate (Int.toNat (mxI (IntKind.i64.wrap (a1 - (List.length a0 : Int))) 0)) (0 : Int))) ≤ LIM then some ((a0 ++ (List.map toB (List.replicate (Int.toNat (mxI (IntKind.i64.wrap (a1 - (List.length a0 : Int))) 0)) (0 : Int))))) else none) else none)
set_option maxRecDepth 100000 in
set_option maxHeartbeats 400000 in
theorem rickyardref07_Fill.ok (fu : Nat) (w : World) (a0 : List UInt8) (a1 : Int) (r : (List UInt8)) (h : rickyardref07_Fill.f fu a0 a1 = some r) :
    Calls Try.prog 31 (([sv a0, .int .i64 a1] : List Value).toArray) w (fun e w' => ∃ v, e = .returned v ∧ v = sv r ∧ Gr w w') := by
  unfold rickyardref07_Fill.f at h
  have fB : Gr w w := Fr.refl _ _
  refine calls_cw Try.func31 rfl Try.ntmps31 rfl ?_
  refine cw_seq ?_
  refine cw_region ?_
  refine ol_val (v := sv []) (by exact xr_assign rfl rfl) rfl rfl rfl ?_
  refine ol_nil ?_
  refine cw_seq ?_
  refine cw_region ?_
  refine ol_val (v := sv a0) (by exact xr_move rfl rfl) rfl rfl rfl ?_
  refine ol_val (v := .int .i64 a1) (by exact xr_move rfl rfl) rfl rfl rfl ?_
  refine ol_val (v := sv a0) (by exact xr_move rfl rfl) rfl rfl rfl ?_
  refine ol_val (v := .int .i64 (List.length a0 : Int)) (by exact xr_lenStr rfl Try.underlying9 rfl) rfl rfl rfl ?_
  refine ol_val (v := .int .i64 (IntKind.i64.wrap (a1 - (List.length a0 : Int)))) (by exact xr_sub rfl rfl rfl) rfl rfl rfl ?_
  refine ol_val (v := .int .i64 (mxI (IntKind.i64.wrap (a1 - (List.length a0 : Int))) 0)) (by exact xr_max2 rfl rfl rfl) rfl rfl rfl ?_
  obtain ⟨g1, h⟩ := gs h
  refine ol_op (by exact opv_make (K := (kI .u8)) (z := (0 : Int)) rfl Try.underlying22 el5 rfl rfl rfl g1.1 g1.2 rfl fB.size) rfl rfl rfl ?_
  rintro v2 w7 ⟨o4, q3, z5⟩
  have fB := fB.gr q3
  refine ol_val (v := sv (List.map toB (List.replicate (Int.toNat (mxI (IntKind.i64.wrap (a1 - (List.length a0 : Int))) 0)) (0 : Int)))) (by exact xr_toStr rfl Try.underlying22 Try.underlying5 Try.underlying9 rfl o4.rd) rfl rfl rfl ?_
  obtain ⟨g8, h⟩ := gs h
  refine ol_val (v := sv (a0 ++ (List.map toB (List.replicate (Int.toNat (mxI (IntKind.i64.wrap (a1 - (List.length a0 : Int))) 0)) (0 : Int))))) (by exact xr_addStr rfl rfl rfl g8) rfl rfl rfl ?_
  refine ol_val (v := sv (a0 ++ (List.map toB (List.replicate (Int.toNat (mxI (IntKind.i64.wrap (a1 - (List.length a0 : Int))) 0)) (0 : Int))))) (by exact xr_assign rfl rfl) rfl rfl rfl ?_
  refine ol_nil ?_
  refine cw_ret ?_
  repeat (first | with_reducible refine thn_r ?_ | with_reducible refine blk_r ?_)
  obtain rfl := Option.some.inj h
  refine fin_ret1 Try.results31 rfl ?_
  exact ⟨_, rfl, rfl, fB⟩
end Go.Proofs.Ytjhajfkfhdnciaa

/- rickyard/rickyardref01.Octet: its model, and that the Go function computes it: written by gen.py. -/
set_option linter.unusedVariables false
namespace Go.Proofs.Ytjhajfkfhdnciaa
open Go Go.Xw
def rickyardref01_Octet.s0 (fu : Nat) (a1 : Int) : (Int × Int) → Option (Sum Int (Int × Int)) := fun s1 => (if (decide (s1.2 < a1)) = true then some (Sum.inr ((IntKind.u64.wrap (Int.tdiv s1.1 256)), (IntKind.i64.wrap (s1.2 + 1)))) else some (Sum.inl (s1.1)))
def rickyardref01_Octet.f (fu : Nat) (a0 : Int) (a1 : Int) : Option Int := ((loopM (rickyardref01_Octet.s0 fu a1) fu (a0, 0)).bind fun e2 => some ((IntKind.u8.wrap (Int.tmod e2 256))))
set_option maxRecDepth 100000 in
set_option maxHeartbeats 400000 in
theorem rickyardref01_Octet.ok (fu : Nat) (w : World) (a0 : Int) (a1 : Int) (r : Int) (h : rickyardref01_Octet.f fu a0 a1 = some r) :
    Calls Try.prog 132 (([.int .u64 a0, .int .i64 a1] : List Value).toArray) w (fun e w' => ∃ v, e = .returned v ∧ v = .int .u8 r ∧ Gr w w') := by
  unfold rickyardref01_Octet.f at h
  have fB : Gr w w := Fr.refl _ _
  refine calls_cw Try.func132 rfl Try.ntmps132 rfl ?_
  refine cw_seq ?_
  refine cw_region ?_
  refine ol_val (v := .int .u8 0) (by exact xr_assign rfl rfl) rfl rfl rfl ?_
  refine ol_nil ?_
  refine cw_seq ?_
  refine cw_seq ?_
  refine cw_region ?_
  refine ol_val (v := .int .i64 0) (by exact xr_assign rfl rfl) rfl rfl rfl ?_
  refine ol_nil ?_
  obtain ⟨e2, l3, h4⟩ := bs h
  refine cw_mid (fun ρ' w' => ρ' 0 = .int .u64 e2 ∧ Gr w w') ?_ ?_
  · refine cw_block ?_
    refine cw_round (fun (s1 : Int × Int) ρ' w' => ρ' 0 = .int .u64 s1.1 ∧ ρ' 1 = .int .i64 a1 ∧ ρ' 5 = .int .i64 s1.2 ∧ Gr w w') l3 ?_ ?_
    · skip
      exact ⟨rfl, rfl, rfl, fB⟩
    · rintro s1 x7 ρ5 w6 ⟨e0, e1, e5, fB⟩ h
      unfold rickyardref01_Octet.s0 at h
      refine cw_seq ?_
      refine cw_seq ?_
      refine cw_region ?_
      refine ol_val (v := .int .i64 s1.2) (by exact xr_move rfl e5) rfl rfl rfl ?_
      refine ol_val (v := .int .i64 a1) (by exact xr_move rfl e1) rfl rfl rfl ?_
      refine ol_val (v := .bool (decide (s1.2 < a1))) (by exact xr_lss rfl rfl rfl) rfl rfl rfl ?_
      refine ol_nil ?_
      rcases is h with ⟨c8, h⟩ | ⟨c8, h⟩
      · refine cw_condT rfl c8 ?_
        refine cw_skip ?_
        refine cw_seq ?_
        refine cw_block ?_
        refine cw_region ?_
        refine ol_val (v := .int .u64 s1.1) (by exact xr_move rfl e0) rfl rfl rfl ?_
        refine ol_val (v := .int .u64 (IntKind.u64.wrap (Int.tdiv s1.1 256))) (by exact xr_quo rfl rfl rfl (by decide)) rfl rfl rfl ?_
        refine ol_val (v := .int .u64 (IntKind.u64.wrap (Int.tdiv s1.1 256))) (by exact xr_assign rfl rfl) rfl rfl rfl ?_
        refine ol_nil ?_
        refine blk_i ?_
        refine cw_region ?_
        refine ol_val (v := .int .i64 s1.2) (by exact xr_move rfl e5) rfl rfl rfl ?_
        refine ol_val (v := .int .i64 (IntKind.i64.wrap (s1.2 + 1))) (by exact xr_add rfl rfl rfl) rfl rfl rfl ?_
        refine ol_val (v := .int .i64 (IntKind.i64.wrap (s1.2 + 1))) (by exact xr_assign rfl rfl) rfl rfl rfl ?_
        refine ol_nil ?_
        obtain rfl := Option.some.inj h
        refine lp_in ?_
        exact ⟨rfl, e1, rfl, fB⟩
      · refine cw_condF rfl c8 ?_
        refine cw_exit ?_
        repeat (first | with_reducible refine thn_e ?_ | with_reducible refine blk_e rfl ?_)
        obtain rfl := Option.some.inj h
        refine lp_exit ?_
        rintro rfl
        refine thn_x ?_
        exact ⟨e0, fB⟩
  · rintro ρ9 w10 ⟨e0, fB⟩
    have h := h4
    refine cw_seq ?_
    refine cw_region ?_
    refine ol_val (v := .int .u64 e2) (by exact xr_move rfl e0) rfl rfl rfl ?_
    refine ol_val (v := .int .u64 (Int.tmod e2 256)) (by exact xr_rem rfl rfl rfl (by decide)) rfl rfl rfl ?_
    refine ol_val (v := .int .u8 (IntKind.u8.wrap (Int.tmod e2 256))) (by exact xr_conv rfl Try.underlying129 Try.underlying5 rfl) rfl rfl rfl ?_
    refine ol_val (v := .int .u8 (IntKind.u8.wrap (Int.tmod e2 256))) (by exact xr_assign rfl rfl) rfl rfl rfl ?_
    refine ol_nil ?_
    refine cw_ret ?_
    repeat (first | with_reducible refine thn_r ?_ | with_reducible refine blk_r ?_)
    obtain rfl := Option.some.inj h
    refine fin_ret1 Try.results132 rfl ?_
    exact ⟨_, rfl, rfl, fB⟩
end Go.Proofs.Ytjhajfkfhdnciaa

/- rickyard/rickyardref01.Lay: its model, and that the Go function computes it: written by gen.py. -/
set_option linter.unusedVariables false
namespace Go.Proofs.Ytjhajfkfhdnciaa
open Go Go.Xw
def rickyardref01_Lay.s0 (fu : Nat) (a0 : Int) (a1 : Int) : ((List UInt8) × Int) → Option (Sum (List UInt8) ((List UInt8) × Int)) := fun s1 => (if (decide (s1.2 < a1)) = true then ((rickyardref01_Octet.f fu a0 s1.2 : Option Int).bind fun t9 => (if List.length s1.1 + List.length (List.map toB [t9]) ≤ LIM then some (Sum.inr ((s1.1 ++ (List.map toB [t9])), (IntKind.i64.wrap (s1.2 + 1)))) else none)) else some (Sum.inl (s1.1)))
def rickyardref01_Lay.f (fu : Nat) (a0 : Int) (a1 : Int) : Option (List UInt8) := ((loopM (rickyardref01_Lay.s0 fu a0 a1) fu ([], 0)).bind fun e2 => some (e2))
set_option maxRecDepth 100000 in
set_option maxHeartbeats 400000 in
theorem rickyardref01_Lay.ok (fu : Nat) (w : World) (a0 : Int) (a1 : Int) (r : (List UInt8)) (h : rickyardref01_Lay.f fu a0 a1 = some r) :
    Calls Try.prog 99 (([.int .u64 a0, .int .i64 a1] : List Value).toArray) w (fun e w' => ∃ v, e = .returned v ∧ v = sv r ∧ Gr w w') := by
  unfold rickyardref01_Lay.f at h
  have fB : Gr w w := Fr.refl _ _
  refine calls_cw Try.func99 rfl Try.ntmps99 rfl ?_
  refine cw_seq ?_
  refine cw_region ?_
  refine ol_val (v := sv []) (by exact xr_assign rfl rfl) rfl rfl rfl ?_
  refine ol_nil ?_
  refine cw_seq ?_
  refine cw_region ?_
  refine ol_val (v := sv []) (by exact xr_assign rfl rfl) rfl rfl rfl ?_
  refine ol_nil ?_
  refine cw_seq ?_
  refine cw_seq ?_
  refine cw_region ?_
  refine ol_val (v := .int .i64 0) (by exact xr_assign rfl rfl) rfl rfl rfl ?_
  refine ol_nil ?_
  obtain ⟨e2, l3, h4⟩ := bs h
  refine cw_mid (fun ρ' w' => ρ' 5 = sv e2 ∧ Gr w w') ?_ ?_
  · refine cw_block ?_
    refine cw_round (fun (s1 : (List UInt8) × Int) ρ' w' => ρ' 0 = .int .u64 a0 ∧ ρ' 1 = .int .i64 a1 ∧ ρ' 5 = sv s1.1 ∧ ρ' 6 = .int .i64 s1.2 ∧ Gr w w') l3 ?_ ?_
    · skip
      exact ⟨rfl, rfl, rfl, rfl, fB⟩
    · rintro s1 x7 ρ5 w6 ⟨e0, e1, e5, e6, fB⟩ h
      unfold rickyardref01_Lay.s0 at h
      refine cw_seq ?_
      refine cw_seq ?_
      refine cw_region ?_
      refine ol_val (v := .int .i64 s1.2) (by exact xr_move rfl e6) rfl rfl rfl ?_
      refine ol_val (v := .int .i64 a1) (by exact xr_move rfl e1) rfl rfl rfl ?_
      refine ol_val (v := .bool (decide (s1.2 < a1))) (by exact xr_lss rfl rfl rfl) rfl rfl rfl ?_
      refine ol_nil ?_
      rcases is h with ⟨c8, h⟩ | ⟨c8, h⟩
      · refine cw_condT rfl c8 ?_
        refine cw_skip ?_
        refine cw_seq ?_
        refine cw_block ?_
        refine cw_region ?_
        refine ol_val (v := sv s1.1) (by exact xr_move rfl e5) rfl rfl rfl ?_
        refine ol_val (v := .int .u64 a0) (by exact xr_move rfl e0) rfl rfl rfl ?_
        refine ol_val (v := .int .i64 s1.2) (by exact xr_move rfl e6) rfl rfl rfl ?_
        obtain ⟨t9, k10, h⟩ := bs h
        refine ol_op (by exact opv_call rfl cal132 (ac rfl (ac rfl an)) (rickyardref01_Octet.ok fu _ a0 s1.2 _ k10)) rfl rfl rfl ?_
        rintro _ w12 ⟨rfl, q11⟩
        have fB := fB.gr q11
        refine ol_op (by exact opv_buildSlice (K := (kI .u8)) (xs := [t9]) (vals := [.int .u8 t9]) rfl Try.underlying22 el5 rfl rfl ⟨rfl, rfl, trivial⟩ rfl rfl rfl fB.size) rfl rfl rfl ?_
        rintro v13 w18 ⟨o15, q14, z16⟩
        have fB := fB.gr q14
        refine ol_val (v := sv (List.map toB [t9])) (by exact xr_toStr rfl Try.underlying22 Try.underlying5 Try.underlying9 rfl o15.rd) rfl rfl rfl ?_
        obtain ⟨g19, h⟩ := gs h
        refine ol_val (v := sv (s1.1 ++ (List.map toB [t9]))) (by exact xr_addStr rfl rfl rfl g19) rfl rfl rfl ?_
        refine ol_val (v := sv (s1.1 ++ (List.map toB [t9]))) (by exact xr_assign rfl rfl) rfl rfl rfl ?_
        refine ol_nil ?_
        refine blk_i ?_
        refine cw_region ?_
        refine ol_val (v := .int .i64 s1.2) (by exact xr_move rfl e6) rfl rfl rfl ?_
        refine ol_val (v := .int .i64 (IntKind.i64.wrap (s1.2 + 1))) (by exact xr_add rfl rfl rfl) rfl rfl rfl ?_
        refine ol_val (v := .int .i64 (IntKind.i64.wrap (s1.2 + 1))) (by exact xr_assign rfl rfl) rfl rfl rfl ?_
        refine ol_nil ?_
        obtain rfl := Option.some.inj h
        refine lp_in ?_
        exact ⟨e0, e1, rfl, rfl, fB⟩
      · refine cw_condF rfl c8 ?_
        refine cw_exit ?_
        repeat (first | with_reducible refine thn_e ?_ | with_reducible refine blk_e rfl ?_)
        obtain rfl := Option.some.inj h
        refine lp_exit ?_
        rintro rfl
        refine thn_x ?_
        exact ⟨e5, fB⟩
  · rintro ρ20 w21 ⟨e5, fB⟩
    have h := h4
    refine cw_seq ?_
    refine cw_region ?_
    refine ol_val (v := sv e2) (by exact xr_move rfl e5) rfl rfl rfl ?_
    refine ol_val (v := sv e2) (by exact xr_assign rfl rfl) rfl rfl rfl ?_
    refine ol_nil ?_
    refine cw_ret ?_
    repeat (first | with_reducible refine thn_r ?_ | with_reducible refine blk_r ?_)
    obtain rfl := Option.some.inj h
    refine fin_ret1 Try.results99 rfl ?_
    exact ⟨_, rfl, rfl, fB⟩
end Go.Proofs.Ytjhajfkfhdnciaa

/- rickyard/rickyardref02.Step: its model, and that the Go function computes it: written by gen.py. -/
set_option linter.unusedVariables false
namespace Go.Proofs.Ytjhajfkfhdnciaa
open Go Go.Xw
def rickyardref02_Step.f (fu : Nat) (a0 : Int) : Option Int := (if (decide ((Int.tmod a0 2) = 1)) = true then some ((bXor .u32 (IntKind.u32.wrap (Int.tdiv a0 2)) 2197175160)) else some ((IntKind.u32.wrap (Int.tdiv a0 2))))
set_option maxRecDepth 100000 in
set_option maxHeartbeats 400000 in
theorem rickyardref02_Step.ok (fu : Nat) (w : World) (a0 : Int) (r : Int) (h : rickyardref02_Step.f fu a0 = some r) :
    Calls Try.prog 146 (([.int .u32 a0] : List Value).toArray) w (fun e w' => ∃ v, e = .returned v ∧ v = .int .u32 r ∧ Gr w w') := by
  unfold rickyardref02_Step.f at h
  have fB : Gr w w := Fr.refl _ _
  refine calls_cw Try.func146 rfl Try.ntmps146 rfl ?_
  refine cw_seq ?_
  refine cw_region ?_
  refine ol_val (v := .int .u32 0) (by exact xr_assign rfl rfl) rfl rfl rfl ?_
  refine ol_nil ?_
  refine cw_seq ?_
  refine cw_seq ?_
  refine cw_region ?_
  refine ol_val (v := .int .u32 a0) (by exact xr_move rfl rfl) rfl rfl rfl ?_
  refine ol_val (v := .int .u32 (Int.tmod a0 2)) (by exact xr_rem rfl rfl rfl (by decide)) rfl rfl rfl ?_
  refine ol_val (v := .bool (decide ((Int.tmod a0 2) = 1))) (by exact xr_eqI rfl Try.underlying36 rfl rfl rfl) rfl rfl rfl ?_
  refine ol_nil ?_
  rcases is h with ⟨c1, h⟩ | ⟨c1, h⟩
  · refine cw_condT rfl c1 ?_
    refine cw_seq ?_
    refine cw_region ?_
    refine ol_val (v := .int .u32 a0) (by exact xr_move rfl rfl) rfl rfl rfl ?_
    refine ol_val (v := .int .u32 (IntKind.u32.wrap (Int.tdiv a0 2))) (by exact xr_quo rfl rfl rfl (by decide)) rfl rfl rfl ?_
    refine ol_val (v := .int .u32 (bXor .u32 (IntKind.u32.wrap (Int.tdiv a0 2)) 2197175160)) (by exact xr_xor rfl rfl rfl) rfl rfl rfl ?_
    refine ol_val (v := .int .u32 (bXor .u32 (IntKind.u32.wrap (Int.tdiv a0 2)) 2197175160)) (by exact xr_assign rfl rfl) rfl rfl rfl ?_
    refine ol_nil ?_
    refine cw_ret ?_
    repeat (first | with_reducible refine thn_r ?_ | with_reducible refine blk_r ?_)
    obtain rfl := Option.some.inj h
    refine fin_ret1 Try.results146 rfl ?_
    exact ⟨_, rfl, rfl, fB⟩
  · refine cw_condF rfl c1 ?_
    refine cw_skip ?_
    refine cw_seq ?_
    refine cw_region ?_
    refine ol_val (v := .int .u32 a0) (by exact xr_move rfl rfl) rfl rfl rfl ?_
    refine ol_val (v := .int .u32 (IntKind.u32.wrap (Int.tdiv a0 2))) (by exact xr_quo rfl rfl rfl (by decide)) rfl rfl rfl ?_
    refine ol_val (v := .int .u32 (IntKind.u32.wrap (Int.tdiv a0 2))) (by exact xr_assign rfl rfl) rfl rfl rfl ?_
    refine ol_nil ?_
    refine cw_ret ?_
    repeat (first | with_reducible refine thn_r ?_ | with_reducible refine blk_r ?_)
    obtain rfl := Option.some.inj h
    refine fin_ret1 Try.results146 rfl ?_
    exact ⟨_, rfl, rfl, fB⟩
end Go.Proofs.Ytjhajfkfhdnciaa

/- rickyard/rickyardref02.Steps: its model, and that the Go function computes it: written by gen.py. -/
set_option linter.unusedVariables false
namespace Go.Proofs.Ytjhajfkfhdnciaa
open Go Go.Xw
def rickyardref02_Steps.s0 (fu : Nat) (a1 : Int) : (Int × Int) → Option (Sum Int (Int × Int)) := fun s1 => (if (decide (s1.2 < a1)) = true then ((rickyardref02_Step.f fu s1.1 : Option Int).bind fun t9 => some (Sum.inr (t9, (IntKind.i64.wrap (s1.2 + 1))))) else some (Sum.inl (s1.1)))
def rickyardref02_Steps.f (fu : Nat) (a0 : Int) (a1 : Int) : Option Int := ((loopM (rickyardref02_Steps.s0 fu a1) fu (a0, 0)).bind fun e2 => some (e2))
set_option maxRecDepth 100000 in
set_option maxHeartbeats 400000 in
theorem rickyardref02_Steps.ok (fu : Nat) (w : World) (a0 : Int) (a1 : Int) (r : Int) (h : rickyardref02_Steps.f fu a0 a1 = some r) :
    Calls Try.prog 133 (([.int .u32 a0, .int .i64 a1] : List Value).toArray) w (fun e w' => ∃ v, e = .returned v ∧ v = .int .u32 r ∧ Gr w w') := by
  unfold rickyardref02_Steps.f at h
  have fB : Gr w w := Fr.refl _ _
  refine calls_cw Try.func133 rfl Try.ntmps133 rfl ?_
  refine cw_seq ?_
  refine cw_region ?_
  refine ol_val (v := .int .u32 0) (by exact xr_assign rfl rfl) rfl rfl rfl ?_
  refine ol_nil ?_
  refine cw_seq ?_
  refine cw_seq ?_
  refine cw_region ?_
  refine ol_val (v := .int .i64 0) (by exact xr_assign rfl rfl) rfl rfl rfl ?_
  refine ol_nil ?_
  obtain ⟨e2, l3, h4⟩ := bs h
  refine cw_mid (fun ρ' w' => ρ' 0 = .int .u32 e2 ∧ Gr w w') ?_ ?_
  · refine cw_block ?_
    refine cw_round (fun (s1 : Int × Int) ρ' w' => ρ' 0 = .int .u32 s1.1 ∧ ρ' 1 = .int .i64 a1 ∧ ρ' 5 = .int .i64 s1.2 ∧ Gr w w') l3 ?_ ?_
    · skip
      exact ⟨rfl, rfl, rfl, fB⟩
    · rintro s1 x7 ρ5 w6 ⟨e0, e1, e5, fB⟩ h
      unfold rickyardref02_Steps.s0 at h
      refine cw_seq ?_
      refine cw_seq ?_
      refine cw_region ?_
      refine ol_val (v := .int .i64 s1.2) (by exact xr_move rfl e5) rfl rfl rfl ?_
      refine ol_val (v := .int .i64 a1) (by exact xr_move rfl e1) rfl rfl rfl ?_
      refine ol_val (v := .bool (decide (s1.2 < a1))) (by exact xr_lss rfl rfl rfl) rfl rfl rfl ?_
      refine ol_nil ?_
      rcases is h with ⟨c8, h⟩ | ⟨c8, h⟩
      · refine cw_condT rfl c8 ?_
        refine cw_skip ?_
        refine cw_seq ?_
        refine cw_block ?_
        refine cw_region ?_
        refine ol_val (v := .int .u32 s1.1) (by exact xr_move rfl e0) rfl rfl rfl ?_
        obtain ⟨t9, k10, h⟩ := bs h
        refine ol_op (by exact opv_call rfl cal146 (ac rfl an) (rickyardref02_Step.ok fu _ s1.1 _ k10)) rfl rfl rfl ?_
        rintro _ w12 ⟨rfl, q11⟩
        have fB := fB.gr q11
        refine ol_val (v := .int .u32 t9) (by exact xr_assign rfl rfl) rfl rfl rfl ?_
        refine ol_nil ?_
        refine blk_i ?_
        refine cw_region ?_
        refine ol_val (v := .int .i64 s1.2) (by exact xr_move rfl e5) rfl rfl rfl ?_
        refine ol_val (v := .int .i64 (IntKind.i64.wrap (s1.2 + 1))) (by exact xr_add rfl rfl rfl) rfl rfl rfl ?_
        refine ol_val (v := .int .i64 (IntKind.i64.wrap (s1.2 + 1))) (by exact xr_assign rfl rfl) rfl rfl rfl ?_
        refine ol_nil ?_
        obtain rfl := Option.some.inj h
        refine lp_in ?_
        exact ⟨rfl, e1, rfl, fB⟩
      · refine cw_condF rfl c8 ?_
        refine cw_exit ?_
        repeat (first | with_reducible refine thn_e ?_ | with_reducible refine blk_e rfl ?_)
        obtain rfl := Option.some.inj h
        refine lp_exit ?_
        rintro rfl
        refine thn_x ?_
        exact ⟨e0, fB⟩
  · rintro ρ13 w14 ⟨e0, fB⟩
    have h := h4
    refine cw_seq ?_
    refine cw_region ?_
    refine ol_val (v := .int .u32 e2) (by exact xr_move rfl e0) rfl rfl rfl ?_
    refine ol_val (v := .int .u32 e2) (by exact xr_assign rfl rfl) rfl rfl rfl ?_
    refine ol_nil ?_
    refine cw_ret ?_
    repeat (first | with_reducible refine thn_r ?_ | with_reducible refine blk_r ?_)
    obtain rfl := Option.some.inj h
    refine fin_ret1 Try.results133 rfl ?_
    exact ⟨_, rfl, rfl, fB⟩
end Go.Proofs.Ytjhajfkfhdnciaa

/- rickyard/rickyardref02.Sum: its model, and that the Go function computes it: written by gen.py. -/
set_option linter.unusedVariables false
namespace Go.Proofs.Ytjhajfkfhdnciaa
open Go Go.Xw
def rickyardref02_Sum.s0 (fu : Nat) (a0 : List Int) : (Int × Int) → Option (Sum Int (Int × Int)) := fun s1 => (if (decide (s1.2 < (List.length a0 : Int))) = true then (if 0 ≤ s1.2 ∧ s1.2 < (List.length a0 : Int) then ((rickyardref02_Steps.f fu (bXor .u32 s1.1 (IntKind.u32.wrap (ix a0 s1.2))) 8 : Option Int).bind fun t10 => some (Sum.inr (t10, (IntKind.i64.wrap (s1.2 + 1))))) else none) else some (Sum.inl (s1.1)))
def rickyardref02_Sum.f (fu : Nat) (a0 : List Int) : Option Int := ((loopM (rickyardref02_Sum.s0 fu a0) fu (4294967295, 0)).bind fun e2 => some ((IntKind.u32.wrap (4294967295 - e2))))
set_option maxRecDepth 100000 in
set_option maxHeartbeats 400000 in
theorem rickyardref02_Sum.ok (fu : Nat) (w : World) (a0 : List Int) (V0_0 : Value) (R0_0 : Rd (kI .u8) w V0_0 a0) (r : Int) (h : rickyardref02_Sum.f fu a0 = some r) :
    Calls Try.prog 100 (([V0_0] : List Value).toArray) w (fun e w' => ∃ v, e = .returned v ∧ v = .int .u32 r ∧ Gr w w') := by
  unfold rickyardref02_Sum.f at h
  have fB : Gr w w := Fr.refl _ _
  refine calls_cw Try.func100 rfl Try.ntmps100 rfl ?_
  refine cw_seq ?_
  refine cw_region ?_
  refine ol_val (v := .int .u32 0) (by exact xr_assign rfl rfl) rfl rfl rfl ?_
  refine ol_nil ?_
  refine cw_seq ?_
  refine cw_region ?_
  refine ol_val (v := .int .u32 4294967295) (by exact xr_assign rfl rfl) rfl rfl rfl ?_
  refine ol_nil ?_
  refine cw_seq ?_
  refine cw_seq ?_
  refine cw_region ?_
  refine ol_val (v := .int .i64 0) (by exact xr_assign rfl rfl) rfl rfl rfl ?_
  refine ol_nil ?_
  obtain ⟨e2, l3, h4⟩ := bs h
  refine cw_mid (fun ρ' w' => ρ' 3 = .int .u32 e2 ∧ Gr w w') ?_ ?_
  · refine cw_block ?_
    refine cw_round (fun (s1 : Int × Int) ρ' w' => ρ' 0 = V0_0 ∧ ρ' 3 = .int .u32 s1.1 ∧ ρ' 4 = .int .i64 s1.2 ∧ Gr w w') l3 ?_ ?_
    · skip
      exact ⟨rfl, rfl, rfl, fB⟩
    · rintro s1 x7 ρ5 w6 ⟨e0, e3, e4, fB⟩ h
      unfold rickyardref02_Sum.s0 at h
      refine cw_seq ?_
      refine cw_seq ?_
      refine cw_region ?_
      refine ol_val (v := .int .i64 s1.2) (by exact xr_move rfl e4) rfl rfl rfl ?_
      refine ol_val (v := V0_0) (by exact xr_move rfl e0) rfl rfl rfl ?_
      refine ol_val (v := .int .i64 (List.length a0 : Int)) (by exact xr_lenR rfl Try.underlying22 rfl (R0_0.gr fB)) rfl rfl rfl ?_
      refine ol_val (v := .bool (decide (s1.2 < (List.length a0 : Int)))) (by exact xr_lss rfl rfl rfl) rfl rfl rfl ?_
      refine ol_nil ?_
      rcases is h with ⟨c8, h⟩ | ⟨c8, h⟩
      · refine cw_condT rfl c8 ?_
        refine cw_skip ?_
        refine cw_seq ?_
        refine cw_block ?_
        refine cw_region ?_
        refine ol_val (v := .int .u32 s1.1) (by exact xr_move rfl e3) rfl rfl rfl ?_
        refine ol_val (v := V0_0) (by exact xr_move rfl e0) rfl rfl rfl ?_
        refine ol_val (v := .int .i64 s1.2) (by exact xr_move rfl e4) rfl rfl rfl ?_
        obtain ⟨g9, h⟩ := gs h
        refine ol_val (v := .pointer (some ⟨(sb V0_0), so V0_0 + Int.toNat s1.2 * 1, none⟩)) (by exact xr_indexR (K := (kI .u8)) (v := V0_0) rfl Try.underlying22 sz5 rfl (R0_0.gr fB) rfl g9.1 g9.2) rfl rfl rfl ?_
        refine ol_val (v := .int .u8 (ix a0 s1.2)) (by exact xr_load1 (v := .int .u8 (ix a0 s1.2)) rfl ag5 rfl ((R0_0.gr fB).elem g9.1 g9.2)) rfl rfl rfl ?_
        refine ol_val (v := .int .u32 (IntKind.u32.wrap (ix a0 s1.2))) (by exact xr_conv rfl Try.underlying5 Try.underlying36 rfl) rfl rfl rfl ?_
        refine ol_val (v := .int .u32 (bXor .u32 s1.1 (IntKind.u32.wrap (ix a0 s1.2)))) (by exact xr_xor rfl rfl rfl) rfl rfl rfl ?_
        obtain ⟨t10, k11, h⟩ := bs h
        refine ol_op (by exact opv_call rfl cal133 (ac rfl (ac rfl an)) (rickyardref02_Steps.ok fu _ (bXor .u32 s1.1 (IntKind.u32.wrap (ix a0 s1.2))) 8 _ k11)) rfl rfl rfl ?_
        rintro _ w13 ⟨rfl, q12⟩
        have fB := fB.gr q12
        refine ol_val (v := .int .u32 t10) (by exact xr_assign rfl rfl) rfl rfl rfl ?_
        refine ol_nil ?_
        refine blk_i ?_
        refine cw_region ?_
        refine ol_val (v := .int .i64 s1.2) (by exact xr_move rfl e4) rfl rfl rfl ?_
        refine ol_val (v := .int .i64 (IntKind.i64.wrap (s1.2 + 1))) (by exact xr_add rfl rfl rfl) rfl rfl rfl ?_
        refine ol_val (v := .int .i64 (IntKind.i64.wrap (s1.2 + 1))) (by exact xr_assign rfl rfl) rfl rfl rfl ?_
        refine ol_nil ?_
        obtain rfl := Option.some.inj h
        refine lp_in ?_
        exact ⟨e0, rfl, rfl, fB⟩
      · refine cw_condF rfl c8 ?_
        refine cw_exit ?_
        repeat (first | with_reducible refine thn_e ?_ | with_reducible refine blk_e rfl ?_)
        obtain rfl := Option.some.inj h
        refine lp_exit ?_
        rintro rfl
        refine thn_x ?_
        exact ⟨e3, fB⟩
  · rintro ρ14 w15 ⟨e3, fB⟩
    have h := h4
    refine cw_seq ?_
    refine cw_region ?_
    refine ol_val (v := .int .u32 e2) (by exact xr_move rfl e3) rfl rfl rfl ?_
    refine ol_val (v := .int .u32 (IntKind.u32.wrap (4294967295 - e2))) (by exact xr_sub rfl rfl rfl) rfl rfl rfl ?_
    refine ol_val (v := .int .u32 (IntKind.u32.wrap (4294967295 - e2))) (by exact xr_assign rfl rfl) rfl rfl rfl ?_
    refine ol_nil ?_
    refine cw_ret ?_
    repeat (first | with_reducible refine thn_r ?_ | with_reducible refine blk_r ?_)
    obtain rfl := Option.some.inj h
    refine fin_ret1 Try.results100 rfl ?_
    exact ⟨_, rfl, rfl, fB⟩
end Go.Proofs.Ytjhajfkfhdnciaa

/- rickyard/rickyardref07.Seal: its model, and that the Go function computes it: written by gen.py. -/
set_option linter.unusedVariables false
namespace Go.Proofs.Ytjhajfkfhdnciaa
open Go Go.Xw
def rickyardref07_Seal.f (fu : Nat) (a0 : Int) (a1 : Int) (a2 : List UInt8) : Option (List UInt8) := ((rickyardref07_Fill.f fu a2 56 : Option (List UInt8)).bind fun t6 => (if List.length (List.map toB [(IntKind.u8.wrap a0), (IntKind.u8.wrap a1), 0, 0]) + List.length t6 ≤ LIM then ((rickyardref02_Sum.f fu (List.map ofB ((List.map toB [(IntKind.u8.wrap a0), (IntKind.u8.wrap a1), 0, 0]) ++ t6)) : Option Int).bind fun t17 => ((rickyardref01_Lay.f fu (IntKind.u64.wrap t17) 4 : Option (List UInt8)).bind fun t21 => (if List.length t21 + List.length ((List.map toB [(IntKind.u8.wrap a0), (IntKind.u8.wrap a1), 0, 0]) ++ t6) ≤ LIM then some ((t21 ++ ((List.map toB [(IntKind.u8.wrap a0), (IntKind.u8.wrap a1), 0, 0]) ++ t6))) else none))) else none))
set_option maxRecDepth 100000 in
set_option maxHeartbeats 400000 in
theorem rickyardref07_Seal.ok (fu : Nat) (w : World) (a0 : Int) (a1 : Int) (a2 : List UInt8) (r : (List UInt8)) (h : rickyardref07_Seal.f fu a0 a1 a2 = some r) :
    Calls Try.prog 30 (([.int .i64 a0, .int .i64 a1, sv a2] : List Value).toArray) w (fun e w' => ∃ v, e = .returned v ∧ v = sv r ∧ Gr w w') := by
  unfold rickyardref07_Seal.f at h
  have fB : Gr w w := Fr.refl _ _
  refine calls_cw Try.func30 rfl Try.ntmps30 rfl ?_
  refine cw_seq ?_
  refine cw_region ?_
  refine ol_val (v := sv []) (by exact xr_assign rfl rfl) rfl rfl rfl ?_
  refine ol_nil ?_
  refine cw_seq ?_
  obtain ⟨t6, k7, h⟩ := bs h
  refine cw_drawL 8 [fun vz wz => vz = (.int .i64 a0 : Value), fun vz wz => vz = (.int .u8 (IntKind.u8.wrap a0) : Value), fun vz wz => vz = (.int .i64 a1 : Value), fun vz wz => vz = (.int .u8 (IntKind.u8.wrap a1) : Value), fun vz wz => ∃ v1 : Value, ∃ o3 : Own (kI .u8) 5 wz w.heap.size v1 [(IntKind.u8.wrap a0), (IntKind.u8.wrap a1), 0, 0], vz = (v1 : Value), fun vz wz => vz = (sv (List.map toB [(IntKind.u8.wrap a0), (IntKind.u8.wrap a1), 0, 0]) : Value), fun vz wz => vz = (sv a2 : Value), fun vz wz => vz = (sv t6 : Value)] mo rfl ⟨fun _ _ _ h _ => h, fun _ _ _ h _ => h, fun _ _ _ h _ => h, fun _ _ _ h _ => h, fun _ _ _ ⟨v1, o3, h⟩ q => ⟨v1, o3.gr q, h⟩, fun _ _ _ h _ => h, fun _ _ _ h _ => h, fun _ _ _ h _ => h, trivial⟩ ?_ ?_
  · refine ⟨?_, ?_, ?_, ?_, ?_, ?_, ?_, ?_, trivial⟩
    · intro ρz wz hz hk hd
      exact sk_val (v := .int .i64 a0) (by exact xr_move rfl ((hk 0 rfl).trans rfl)) rfl rfl
    · intro ρz wz hz hk hd
      have d8 := hd 0 rfl 8 rfl
      exact sk_val (v := .int .u8 (IntKind.u8.wrap a0)) (by exact xr_conv rfl Try.underlying3 Try.underlying5 d8) rfl rfl
    · intro ρz wz hz hk hd
      exact sk_val (v := .int .i64 a1) (by exact xr_move rfl ((hk 1 rfl).trans rfl)) rfl rfl
    · intro ρz wz hz hk hd
      have d10 := hd 2 rfl 10 rfl
      exact sk_val (v := .int .u8 (IntKind.u8.wrap a1)) (by exact xr_conv rfl Try.underlying3 Try.underlying5 d10) rfl rfl
    · intro ρz wz hz hk hd
      have d9 := hd 1 rfl 9 rfl
      have d11 := hd 3 rfl 11 rfl
      refine sk_op (by exact opv_buildSlice (K := (kI .u8)) (xs := [(IntKind.u8.wrap a0), (IntKind.u8.wrap a1), 0, 0]) (vals := [.int .u8 (IntKind.u8.wrap a0), .int .u8 (IntKind.u8.wrap a1), .int .u8 0, .int .u8 0]) rfl Try.underlying22 el5 rfl rfl ⟨rfl, d9, ⟨rfl, d11, ⟨rfl, rfl, ⟨rfl, rfl, trivial⟩⟩⟩⟩ rfl rfl rfl (Nat.le_trans fB.size hz.size)) rfl ?_
      rintro v1 wy ⟨o3, q2, z4⟩
      exact ⟨⟨v1, o3, rfl⟩, q2⟩
    · intro ρz wz hz hk hd
      obtain ⟨v1, o3, d12⟩ := hd 4 rfl 12 rfl
      exact sk_val (by exact xr_toStr rfl Try.underlying22 Try.underlying5 Try.underlying9 d12 o3.rd) rfl rfl
    · intro ρz wz hz hk hd
      exact sk_val (v := sv a2) (by exact xr_move rfl ((hk 2 rfl).trans rfl)) rfl rfl
    · intro ρz wz hz hk hd
      have d14 := hd 6 rfl 14 rfl
      refine sk_op (by exact opv_call rfl cal31 (ac d14 (ac rfl an)) (rickyardref07_Fill.ok fu _ a2 56 _ k7)) rfl ?_
      rintro _ wy ⟨rfl, q8⟩
      exact ⟨rfl, q8⟩
  · intro ρ9 w10 q11 hk hd
    have e13 := hd 5 rfl 13 rfl
    have e15 := hd 7 rfl 15 rfl
    have fB := fB.gr q11
    obtain ⟨g12, h⟩ := gs h
    refine ol_val (v := sv ((List.map toB [(IntKind.u8.wrap a0), (IntKind.u8.wrap a1), 0, 0]) ++ t6)) (by exact xr_addStr rfl e13 e15 g12) rfl rfl rfl ?_
    refine ol_val (v := sv ((List.map toB [(IntKind.u8.wrap a0), (IntKind.u8.wrap a1), 0, 0]) ++ t6)) (by exact xr_assign rfl rfl) rfl rfl rfl ?_
    refine ol_nil ?_
    refine cw_seq ?_
    refine cw_region ?_
    refine ol_val (v := sv ((List.map toB [(IntKind.u8.wrap a0), (IntKind.u8.wrap a1), 0, 0]) ++ t6)) (by exact xr_move rfl rfl) rfl rfl rfl ?_
    refine ol_op (by exact opv_toBytes rfl Try.underlying9 Try.underlying22 Try.underlying5 rfl) rfl rfl rfl ?_
    rintro v13 w16 ⟨r15, q14⟩
    have fB := fB.gr q14
    obtain ⟨t17, k18, h⟩ := bs h
    refine ol_op (by exact opv_call rfl cal100 (ac rfl an) (rickyardref02_Sum.ok fu _ (List.map ofB ((List.map toB [(IntKind.u8.wrap a0), (IntKind.u8.wrap a1), 0, 0]) ++ t6)) v13 (r15) _ k18)) rfl rfl rfl ?_
    rintro _ w20 ⟨rfl, q19⟩
    have fB := fB.gr q19
    refine ol_val (v := .int .u64 (IntKind.u64.wrap t17)) (by exact xr_conv rfl Try.underlying36 Try.underlying129 rfl) rfl rfl rfl ?_
    obtain ⟨t21, k22, h⟩ := bs h
    refine ol_op (by exact opv_call rfl cal99 (ac rfl (ac rfl an)) (rickyardref01_Lay.ok fu _ (IntKind.u64.wrap t17) 4 _ k22)) rfl rfl rfl ?_
    rintro _ w24 ⟨rfl, q23⟩
    have fB := fB.gr q23
    refine ol_val (v := sv ((List.map toB [(IntKind.u8.wrap a0), (IntKind.u8.wrap a1), 0, 0]) ++ t6)) (by exact xr_move rfl rfl) rfl rfl rfl ?_
    obtain ⟨g25, h⟩ := gs h
    refine ol_val (v := sv (t21 ++ ((List.map toB [(IntKind.u8.wrap a0), (IntKind.u8.wrap a1), 0, 0]) ++ t6))) (by exact xr_addStr rfl rfl rfl g25) rfl rfl rfl ?_
    refine ol_val (v := sv (t21 ++ ((List.map toB [(IntKind.u8.wrap a0), (IntKind.u8.wrap a1), 0, 0]) ++ t6))) (by exact xr_assign rfl rfl) rfl rfl rfl ?_
    refine ol_nil ?_
    refine cw_ret ?_
    repeat (first | with_reducible refine thn_r ?_ | with_reducible refine blk_r ?_)
    obtain rfl := Option.some.inj h
    refine fin_ret1 Try.results30 rfl ?_
    exact ⟨_, rfl, rfl, fB⟩
end Go.Proofs.Ytjhajfkfhdnciaa

/- rickyard/rickyardref08.Block: its model, and that the Go function computes it: written by gen.py. -/
set_option linter.unusedVariables false
namespace Go.Proofs.Ytjhajfkfhdnciaa
open Go Go.Xw
def rickyardref08_Block.f (fu : Nat) (a0 : Int) : Option Bool := some ((if (decide (a0 ≥ 2)) = true then (decide (a0 ≤ 3071)) else false))
set_option maxRecDepth 100000 in
set_option maxHeartbeats 400000 in
theorem rickyardref08_Block.ok (fu : Nat) (w : World) (a0 : Int) (r : Bool) (h : rickyardref08_Block.f fu a0 = some r) :
    Calls Try.prog 107 (([.int .i64 a0] : List Value).toArray) w (fun e w' => ∃ v, e = .returned v ∧ v = .bool r ∧ Gr w w') := by
  unfold rickyardref08_Block.f at h
  have fB : Gr w w := Fr.refl _ _
  refine calls_cw Try.func107 rfl Try.ntmps107 rfl ?_
  refine cw_seq ?_
  refine cw_region ?_
  refine ol_val (v := .bool false) (by exact xr_assign rfl rfl) rfl rfl rfl ?_
  refine ol_nil ?_
  refine cw_seq ?_
  refine cw_mid (fun ρ' w' => ρ' 2 = .bool (if (decide (a0 ≥ 2)) = true then (decide (a0 ≤ 3071)) else false) ∧ w = w') ?_ ?_
  · skip
    refine cw_region ?_
    refine ol_val (v := .int .i64 a0) (by exact xr_move rfl rfl) rfl rfl rfl ?_
    refine ol_val (v := .bool (decide (a0 ≥ 2))) (by exact xr_geq rfl rfl rfl) rfl rfl rfl ?_
    refine ol_val (v := .bool (decide (a0 ≥ 2))) (by exact xr_move rfl rfl) rfl rfl rfl ?_
    rcases bt (decide (a0 ≥ 2)) with c1 | c1
    · skip
      refine ol_gval (v := .int .i64 a0) (by exact xr_move rfl rfl) rfl rfl rfl rfl rfl c1 ?_
      refine ol_gval (v := .bool (decide (a0 ≤ 3071))) (by exact xr_leq rfl rfl rfl) rfl rfl rfl rfl rfl c1 ?_
      refine ol_val (v := .bool (decide (a0 ≤ 3071))) (by exact xr_pickT rfl rfl c1 rfl) rfl rfl rfl ?_
      refine ol_val (v := .bool (decide (a0 ≤ 3071))) (by exact xr_assign rfl rfl) rfl rfl rfl ?_
      refine ol_nil ?_
      refine thn_i ?_
      exact ⟨(rfl).trans (congrArg (fun z => (.bool z : Value)) (show (decide (a0 ≤ 3071)) = (if (decide (a0 ≥ 2)) = true then (decide (a0 ≤ 3071)) else false) from by rw [ite_t c1])), rfl⟩
    · skip
      refine ol_gskip rfl rfl rfl rfl rfl c1 ?_
      refine ol_gskip rfl rfl rfl rfl rfl c1 ?_
      refine ol_val (v := .bool false) (by exact xr_pickF rfl rfl c1 rfl) rfl rfl rfl ?_
      refine ol_val (v := .bool false) (by exact xr_assign rfl rfl) rfl rfl rfl ?_
      refine ol_nil ?_
      refine thn_i ?_
      exact ⟨(rfl).trans (congrArg (fun z => (.bool z : Value)) (show false = (if (decide (a0 ≥ 2)) = true then (decide (a0 ≤ 3071)) else false) from by rw [ite_f c1])), rfl⟩
  · skip
    rintro ρ2 _ ⟨e2, rfl⟩
    refine cw_ret ?_
    repeat (first | with_reducible refine thn_r ?_ | with_reducible refine blk_r ?_)
    obtain rfl := Option.some.inj h
    refine fin_ret1 Try.results107 e2 ?_
    exact ⟨_, rfl, rfl, fB⟩
end Go.Proofs.Ytjhajfkfhdnciaa
