/- RootClears: texts merged, part 3 of 8. The last part proves that the law RootClears holds for every input. -/
import Derived.Test.YtklhbaghbmndeaaPkRootClears2
set_option maxRecDepth 100000
set_option maxHeartbeats 4000000
set_option linter.unusedVariables false
set_option linter.unusedSimpArgs false
namespace Go.Proofs.Ytklhbaghbmndeaa
open Go Go.Xw
def block_right.f (fu : Nat) (a0 : List Int) : Option Bool := (((if (decide ((List.length a0 : Int) = 64)) = true then (if (4 : Int) < (List.length a0 : Int) then (if (!decide ((ix a0 4) = 0)) = true then ((octet_Noughts.f fu a0 6 2).bind fun t6 => (if t6 = true then (if (4 : Int) ≤ (List.length a0 : Int) then ((octet_Read.f fu (cut a0 0 4)).bind fun t12 => (if (4 : Int) ≤ (List.length a0 : Int) then ((crc_Fits.f fu (IntKind.u32.wrap t12) [(cut a0 4 (List.length a0 : Int))]).bind fun t20 => some (t20)) else none)) else none) else some (false))) else some (false)) else none) else some (false)) : Option Bool).bind fun x1 => some (x1))
theorem block_right.ok (fu : Nat) (w : World) (a0 : List Int) (V0_0 : Value) (R0_0 : Rd (kI .u8) w V0_0 a0) (r : Bool) (h : block_right.f fu a0 = some r) :
  Calls Try.prog 141 (([V0_0] : List Value).toArray) w (fun e w' => ∃ v, e = .returned v ∧ v = .bool r ∧ Gr w w') := by
 unfold block_right.f at h
 have fB : Gr w w := Fr.refl _ _
 refine calls_cw Try.func141 rfl Try.ntmps141 rfl ?_
 refine cw_seq ?_
 refine cw_region ?_
 refine ol_val (v := .bool false) (xr_assign rfl rfl) rfl rfl rfl ?_
 refine ol_nil ?_
 refine cw_seq ?_
 obtain ⟨x1, j2, h⟩ := bs h
 refine cw_mid (fun ρ' w' => ρ' 2 = .bool x1 ∧ Gr w w') ?_ ?_
 ·skip
  rcases is j2 with ⟨c3, j2⟩ | ⟨c3, j2⟩
  ·skip
   obtain ⟨g4, j2⟩ := gs j2
   rcases is j2 with ⟨c5, j2⟩ | ⟨c5, j2⟩
   ·skip
    obtain ⟨t6, k7, j2⟩ := bs j2
    rcases is j2 with ⟨c9, j2⟩ | ⟨c9, j2⟩
    ·skip
     obtain ⟨g11, j2⟩ := gs j2
     obtain ⟨t12, k13, j2⟩ := bs j2
     obtain ⟨g16, j2⟩ := gs j2
     obtain ⟨t20, k21, j2⟩ := bs j2
     refine cw_drawL 22 [fun vz wz => vz = (V0_0 : Value), fun vz wz => vz = (.int .i64 (List.length a0 : Int) : Value), fun vz wz => vz = (.bool (decide ((List.length a0 : Int) = 64)) : Value), fun vz wz => vz = (.bool (decide ((List.length a0 : Int) = 64)) : Value), fun vz wz => vz = (V0_0 : Value), fun vz wz => vz = ((pt ((sb V0_0)) (so V0_0 + Int.toNat 4 * 1)) : Value), fun vz wz => vz = (.int .u8 (ix a0 4) : Value), fun vz wz => vz = (.bool (!decide ((ix a0 4) = 0)) : Value), fun vz wz => vz = (.bool (!decide ((ix a0 4) = 0)) : Value), fun vz wz => vz = (.bool (!decide ((ix a0 4) = 0)) : Value), fun vz wz => vz = (V0_0 : Value), fun vz wz => vz = (.bool t6 : Value), fun vz wz => vz = (.bool t6 : Value), fun vz wz => vz = (.bool t6 : Value), fun vz wz => vz = (V0_0 : Value), fun vz wz => ∃ r10 : Rd (kI .u8) wz (subv 1 V0_0 0 (Int.toNat 4)) (cut a0 0 4), vz = (subv 1 V0_0 0 (Int.toNat 4) : Value), fun vz wz => vz = (.int .u64 t12 : Value), fun vz wz => vz = (.int .u32 (IntKind.u32.wrap t12) : Value), fun vz wz => vz = (V0_0 : Value), fun vz wz => ∃ r15 : Rd (kI .u8) wz (subv 1 V0_0 (Int.toNat 4) (List.length a0)) (cut a0 4 (List.length a0 : Int)), vz = (subv 1 V0_0 (Int.toNat 4) (List.length a0) : Value), fun vz wz => ∃ v17 : Value, ∃ r19 : Rds (kI .u8) wz v17 [(cut a0 4 (List.length a0 : Int))], vz = (v17 : Value), fun vz wz => vz = (.bool t20 : Value)] mo rfl ⟨fun _ _ _ h _ => h, fun _ _ _ h _ => h, fun _ _ _ h _ => h, fun _ _ _ h _ => h, fun _ _ _ h _ => h, fun _ _ _ h _ => h, fun _ _ _ h _ => h, fun _ _ _ h _ => h, fun _ _ _ h _ => h, fun _ _ _ h _ => h, fun _ _ _ h _ => h, fun _ _ _ h _ => h, fun _ _ _ h _ => h, fun _ _ _ h _ => h, fun _ _ _ h _ => h, fun _ _ _ ⟨r10, h⟩ q => ⟨r10.gr q, h⟩, fun _ _ _ h _ => h, fun _ _ _ h _ => h, fun _ _ _ h _ => h, fun _ _ _ ⟨r15, h⟩ q => ⟨r15.gr q, h⟩, fun _ _ _ ⟨v17, r19, h⟩ q => ⟨v17, r19.gr q, h⟩, fun _ _ _ h _ => h, trivial⟩ ?_ ?_
     ·refine ⟨?_, ?_, ?_, ?_, ?_, ?_, ?_, ?_, ?_, ?_, ?_, ?_, ?_, ?_, ?_, ?_, ?_, ?_, ?_, ?_, ?_, ?_, trivial⟩
      ·intro ρz wz hz hk hd
       exact sk_val (v := V0_0) (xr_move rfl ((hk 0 rfl).trans rfl)) rfl rfl
      ·intro ρz wz hz hk hd
       exact sk_val (v := .int .i64 (List.length a0 : Int)) (xr_lenR rfl Try.underlying43 (hd 0 rfl 3 rfl) (R0_0.gr (fB.gr hz))) rfl rfl
      ·intro ρz wz hz hk hd
       exact sk_val (v := .bool (decide ((List.length a0 : Int) = 64))) (xr_eqI rfl Try.underlying3 rfl (hd 1 rfl 4 rfl) rfl) rfl rfl
      ·intro ρz wz hz hk hd
       exact sk_val (v := .bool (decide ((List.length a0 : Int) = 64))) (xr_move rfl (hd 2 rfl 5 rfl)) rfl rfl
      ·intro ρz wz hz hk hd
       exact sk_gval (v := V0_0) (xr_move rfl ((hk 0 rfl).trans rfl)) rfl rfl (hd 3 rfl 6 rfl) c3 rfl
      ·intro ρz wz hz hk hd
       exact sk_gval (xr_indexR (K := (kI .u8)) (v := V0_0) rfl Try.underlying43 sz5 (hd 4 rfl 7 rfl) (R0_0.gr (fB.gr hz)) rfl (by decide) g4) rfl rfl (hd 3 rfl 6 rfl) c3 rfl
      ·intro ρz wz hz hk hd
       exact sk_gval (v := .int .u8 (ix a0 4)) (xr_load1 (v := .int .u8 (ix a0 4)) rfl ag5 (hd 5 rfl 8 rfl) ((R0_0.gr (fB.gr hz)).elem (by decide) g4)) rfl rfl (hd 3 rfl 6 rfl) c3 rfl
      ·intro ρz wz hz hk hd
       exact sk_gval (v := .bool (!decide ((ix a0 4) = 0))) (xr_neI rfl Try.underlying5 rfl (hd 6 rfl 9 rfl) rfl) rfl rfl (hd 3 rfl 6 rfl) c3 rfl
      ·intro ρz wz hz hk hd
       exact sk_val (v := .bool (!decide ((ix a0 4) = 0))) (xr_pickT rfl (hd 3 rfl 6 rfl) c3 (hd 7 rfl 10 rfl)) rfl rfl
      ·intro ρz wz hz hk hd
       exact sk_val (v := .bool (!decide ((ix a0 4) = 0))) (xr_move rfl (hd 8 rfl 11 rfl)) rfl rfl
      ·intro ρz wz hz hk hd
       exact sk_gval (v := V0_0) (xr_move rfl ((hk 0 rfl).trans rfl)) rfl rfl (hd 9 rfl 12 rfl) c5 rfl
      ·intro ρz wz hz hk hd
       refine sk_gop (opv_call rfl cal133 (ac (hd 10 rfl 13 rfl) (ac rfl (ac rfl an))) (octet_Noughts.ok fu _ a0 V0_0 (R0_0.gr (fB.gr hz)) 6 2 _ k7)) rfl rfl (hd 9 rfl 12 rfl) c5 ?_
       rintro _ wy ⟨rfl, q8⟩
       exact ⟨rfl, q8⟩
      ·intro ρz wz hz hk hd
       exact sk_val (v := .bool t6) (xr_pickT rfl (hd 9 rfl 12 rfl) c5 (hd 11 rfl 14 rfl)) rfl rfl
      ·intro ρz wz hz hk hd
       exact sk_val (v := .bool t6) (xr_move rfl (hd 12 rfl 15 rfl)) rfl rfl
      ·intro ρz wz hz hk hd
       exact sk_gval (v := V0_0) (xr_move rfl ((hk 0 rfl).trans rfl)) rfl rfl (hd 13 rfl 16 rfl) c9 rfl
      ·intro ρz wz hz hk hd
       exact sk_gval (xr_slice_h (K := (kI .u8)) (v := V0_0) rfl Try.underlying43 sz5 (hd 14 rfl 17 rfl) (R0_0.gr (fB.gr hz)) rfl (by decide) g11) rfl rfl (hd 13 rfl 16 rfl) c9 ⟨(R0_0.gr (fB.gr hz)).cut (lo := 0) (hi := 4) (by decide) (by decide) g11, rfl⟩
      ·intro ρz wz hz hk hd
       obtain ⟨r10, d18⟩ := hd 15 rfl 18 rfl
       refine sk_gop (opv_call rfl cal109 (ac d18 an) (octet_Read.ok fu _ (cut a0 0 4) (subv 1 V0_0 0 (Int.toNat 4)) (r10) _ k13)) rfl rfl (hd 13 rfl 16 rfl) c9 ?_
       rintro _ wy ⟨rfl, q14⟩
       exact ⟨rfl, q14⟩
      ·intro ρz wz hz hk hd
       exact sk_gval (v := .int .u32 (IntKind.u32.wrap t12)) (xr_conv rfl Try.underlying22 Try.underlying191 (hd 16 rfl 19 rfl)) rfl rfl (hd 13 rfl 16 rfl) c9 rfl
      ·intro ρz wz hz hk hd
       exact sk_gval (v := V0_0) (xr_move rfl ((hk 0 rfl).trans rfl)) rfl rfl (hd 13 rfl 16 rfl) c9 rfl
      ·intro ρz wz hz hk hd
       exact sk_gval (xr_slice_l (K := (kI .u8)) (v := V0_0) rfl Try.underlying43 sz5 (hd 18 rfl 21 rfl) (R0_0.gr (fB.gr hz)) rfl (by decide) g16) rfl rfl (hd 13 rfl 16 rfl) c9 ⟨(R0_0.gr (fB.gr hz)).cut (lo := 4) (hi := (List.length a0 : Int)) (by decide) g16 (Int.le_refl _), rfl⟩
      ·intro ρz wz hz hk hd
       obtain ⟨r15, d22⟩ := hd 19 rfl 22 rfl
       refine sk_gop (opv_build1 rfl Try.underlying100 el43 rfl r15 d22) rfl rfl (hd 13 rfl 16 rfl) c9 ?_
       rintro v17 wy ⟨r19, q18⟩
       exact ⟨⟨v17, r19, rfl⟩, q18⟩
      intro ρz wz hz hk hd
      obtain ⟨v17, r19, d23⟩ := hd 20 rfl 23 rfl
      refine sk_gop (opv_call rfl cal150 (ac (hd 17 rfl 20 rfl) (ac d23 an)) (crc_Fits.ok fu _ (IntKind.u32.wrap t12) [(cut a0 4 (List.length a0 : Int))] v17 (r19) _ k21)) rfl rfl (hd 13 rfl 16 rfl) c9 ?_
      rintro _ wy ⟨rfl, q22⟩
      exact ⟨rfl, q22⟩
     intro ρ23 w24 q25 hk hd
     have e16 := hd 13 rfl 16 rfl
     have e24 := hd 21 rfl 24 rfl
     have fB := fB.gr q25
     refine ol_val (v := .bool t20) (xr_pickT rfl e16 c9 e24) rfl rfl rfl ?_
     refine ol_val (v := .bool t20) (xr_assign rfl rfl) rfl rfl rfl ?_
     refine ol_nil ?_
     obtain rfl := Option.some.inj j2
     refine thn_i ?_
     exact ⟨rfl, q25⟩
    refine cw_drawL 22 [fun vz wz => vz = (V0_0 : Value), fun vz wz => vz = (.int .i64 (List.length a0 : Int) : Value), fun vz wz => vz = (.bool (decide ((List.length a0 : Int) = 64)) : Value), fun vz wz => vz = (.bool (decide ((List.length a0 : Int) = 64)) : Value), fun vz wz => vz = (V0_0 : Value), fun vz wz => vz = ((pt ((sb V0_0)) (so V0_0 + Int.toNat 4 * 1)) : Value), fun vz wz => vz = (.int .u8 (ix a0 4) : Value), fun vz wz => vz = (.bool (!decide ((ix a0 4) = 0)) : Value), fun vz wz => vz = (.bool (!decide ((ix a0 4) = 0)) : Value), fun vz wz => vz = (.bool (!decide ((ix a0 4) = 0)) : Value), fun vz wz => vz = (V0_0 : Value), fun vz wz => vz = (.bool t6 : Value), fun vz wz => vz = (.bool t6 : Value), fun vz wz => vz = (.bool t6 : Value), fun vz _ => vz = undef, fun vz _ => vz = undef, fun vz _ => vz = undef, fun vz _ => vz = undef, fun vz _ => vz = undef, fun vz _ => vz = undef, fun vz _ => vz = undef, fun vz _ => vz = undef] mo rfl ⟨fun _ _ _ h _ => h, fun _ _ _ h _ => h, fun _ _ _ h _ => h, fun _ _ _ h _ => h, fun _ _ _ h _ => h, fun _ _ _ h _ => h, fun _ _ _ h _ => h, fun _ _ _ h _ => h, fun _ _ _ h _ => h, fun _ _ _ h _ => h, fun _ _ _ h _ => h, fun _ _ _ h _ => h, fun _ _ _ h _ => h, fun _ _ _ h _ => h, fun _ _ _ h _ => h, fun _ _ _ h _ => h, fun _ _ _ h _ => h, fun _ _ _ h _ => h, fun _ _ _ h _ => h, fun _ _ _ h _ => h, fun _ _ _ h _ => h, fun _ _ _ h _ => h, trivial⟩ ?_ ?_
    ·refine ⟨?_, ?_, ?_, ?_, ?_, ?_, ?_, ?_, ?_, ?_, ?_, ?_, ?_, ?_, ?_, ?_, ?_, ?_, ?_, ?_, ?_, ?_, trivial⟩
     ·intro ρz wz hz hk hd
      exact sk_val (v := V0_0) (xr_move rfl ((hk 0 rfl).trans rfl)) rfl rfl
     ·intro ρz wz hz hk hd
      exact sk_val (v := .int .i64 (List.length a0 : Int)) (xr_lenR rfl Try.underlying43 (hd 0 rfl 3 rfl) (R0_0.gr (fB.gr hz))) rfl rfl
     ·intro ρz wz hz hk hd
      exact sk_val (v := .bool (decide ((List.length a0 : Int) = 64))) (xr_eqI rfl Try.underlying3 rfl (hd 1 rfl 4 rfl) rfl) rfl rfl
     ·intro ρz wz hz hk hd
      exact sk_val (v := .bool (decide ((List.length a0 : Int) = 64))) (xr_move rfl (hd 2 rfl 5 rfl)) rfl rfl
     ·intro ρz wz hz hk hd
      exact sk_gval (v := V0_0) (xr_move rfl ((hk 0 rfl).trans rfl)) rfl rfl (hd 3 rfl 6 rfl) c3 rfl
     ·intro ρz wz hz hk hd
      exact sk_gval (xr_indexR (K := (kI .u8)) (v := V0_0) rfl Try.underlying43 sz5 (hd 4 rfl 7 rfl) (R0_0.gr (fB.gr hz)) rfl (by decide) g4) rfl rfl (hd 3 rfl 6 rfl) c3 rfl
     ·intro ρz wz hz hk hd
      exact sk_gval (v := .int .u8 (ix a0 4)) (xr_load1 (v := .int .u8 (ix a0 4)) rfl ag5 (hd 5 rfl 8 rfl) ((R0_0.gr (fB.gr hz)).elem (by decide) g4)) rfl rfl (hd 3 rfl 6 rfl) c3 rfl
     ·intro ρz wz hz hk hd
      exact sk_gval (v := .bool (!decide ((ix a0 4) = 0))) (xr_neI rfl Try.underlying5 rfl (hd 6 rfl 9 rfl) rfl) rfl rfl (hd 3 rfl 6 rfl) c3 rfl
     ·intro ρz wz hz hk hd
      exact sk_val (v := .bool (!decide ((ix a0 4) = 0))) (xr_pickT rfl (hd 3 rfl 6 rfl) c3 (hd 7 rfl 10 rfl)) rfl rfl
     ·intro ρz wz hz hk hd
      exact sk_val (v := .bool (!decide ((ix a0 4) = 0))) (xr_move rfl (hd 8 rfl 11 rfl)) rfl rfl
     ·intro ρz wz hz hk hd
      exact sk_gval (v := V0_0) (xr_move rfl ((hk 0 rfl).trans rfl)) rfl rfl (hd 9 rfl 12 rfl) c5 rfl
     ·intro ρz wz hz hk hd
      refine sk_gop (opv_call rfl cal133 (ac (hd 10 rfl 13 rfl) (ac rfl (ac rfl an))) (octet_Noughts.ok fu _ a0 V0_0 (R0_0.gr (fB.gr hz)) 6 2 _ k7)) rfl rfl (hd 9 rfl 12 rfl) c5 ?_
      rintro _ wy ⟨rfl, q8⟩
      exact ⟨rfl, q8⟩
     ·intro ρz wz hz hk hd
      exact sk_val (v := .bool t6) (xr_pickT rfl (hd 9 rfl 12 rfl) c5 (hd 11 rfl 14 rfl)) rfl rfl
     ·intro ρz wz hz hk hd
      exact sk_val (v := .bool t6) (xr_move rfl (hd 12 rfl 15 rfl)) rfl rfl
     ·intro ρz wz hz hk hd
      exact sk_skip rfl rfl (hd 13 rfl 16 rfl) c9 rfl
     ·intro ρz wz hz hk hd
      exact sk_skip rfl rfl (hd 13 rfl 16 rfl) c9 rfl
     ·intro ρz wz hz hk hd
      exact sk_skip rfl rfl (hd 13 rfl 16 rfl) c9 rfl
     ·intro ρz wz hz hk hd
      exact sk_skip rfl rfl (hd 13 rfl 16 rfl) c9 rfl
     ·intro ρz wz hz hk hd
      exact sk_skip rfl rfl (hd 13 rfl 16 rfl) c9 rfl
     ·intro ρz wz hz hk hd
      exact sk_skip rfl rfl (hd 13 rfl 16 rfl) c9 rfl
     ·intro ρz wz hz hk hd
      exact sk_skip rfl rfl (hd 13 rfl 16 rfl) c9 rfl
     intro ρz wz hz hk hd
     exact sk_skip rfl rfl (hd 13 rfl 16 rfl) c9 rfl
    intro ρ26 w27 q28 hk hd
    have e16 := hd 13 rfl 16 rfl
    have fB := fB.gr q28
    refine ol_val (v := .bool false) (xr_pickF rfl e16 c9 rfl) rfl rfl rfl ?_
    refine ol_val (v := .bool false) (xr_assign rfl rfl) rfl rfl rfl ?_
    refine ol_nil ?_
    obtain rfl := Option.some.inj j2
    refine thn_i ?_
    exact ⟨rfl, q28⟩
   refine cw_drawL 22 [fun vz wz => vz = (V0_0 : Value), fun vz wz => vz = (.int .i64 (List.length a0 : Int) : Value), fun vz wz => vz = (.bool (decide ((List.length a0 : Int) = 64)) : Value), fun vz wz => vz = (.bool (decide ((List.length a0 : Int) = 64)) : Value), fun vz wz => vz = (V0_0 : Value), fun vz wz => vz = ((pt ((sb V0_0)) (so V0_0 + Int.toNat 4 * 1)) : Value), fun vz wz => vz = (.int .u8 (ix a0 4) : Value), fun vz wz => vz = (.bool (!decide ((ix a0 4) = 0)) : Value), fun vz wz => vz = (.bool (!decide ((ix a0 4) = 0)) : Value), fun vz wz => vz = (.bool (!decide ((ix a0 4) = 0)) : Value), fun vz _ => vz = undef, fun vz _ => vz = undef, fun vz wz => vz = (.bool false : Value), fun vz wz => vz = (.bool false : Value), fun vz _ => vz = undef, fun vz _ => vz = undef, fun vz _ => vz = undef, fun vz _ => vz = undef, fun vz _ => vz = undef, fun vz _ => vz = undef, fun vz _ => vz = undef, fun vz _ => vz = undef] mo rfl ⟨fun _ _ _ h _ => h, fun _ _ _ h _ => h, fun _ _ _ h _ => h, fun _ _ _ h _ => h, fun _ _ _ h _ => h, fun _ _ _ h _ => h, fun _ _ _ h _ => h, fun _ _ _ h _ => h, fun _ _ _ h _ => h, fun _ _ _ h _ => h, fun _ _ _ h _ => h, fun _ _ _ h _ => h, fun _ _ _ h _ => h, fun _ _ _ h _ => h, fun _ _ _ h _ => h, fun _ _ _ h _ => h, fun _ _ _ h _ => h, fun _ _ _ h _ => h, fun _ _ _ h _ => h, fun _ _ _ h _ => h, fun _ _ _ h _ => h, fun _ _ _ h _ => h, trivial⟩ ?_ ?_
   ·refine ⟨?_, ?_, ?_, ?_, ?_, ?_, ?_, ?_, ?_, ?_, ?_, ?_, ?_, ?_, ?_, ?_, ?_, ?_, ?_, ?_, ?_, ?_, trivial⟩
    ·intro ρz wz hz hk hd
     exact sk_val (v := V0_0) (xr_move rfl ((hk 0 rfl).trans rfl)) rfl rfl
    ·intro ρz wz hz hk hd
     exact sk_val (v := .int .i64 (List.length a0 : Int)) (xr_lenR rfl Try.underlying43 (hd 0 rfl 3 rfl) (R0_0.gr (fB.gr hz))) rfl rfl
    ·intro ρz wz hz hk hd
     exact sk_val (v := .bool (decide ((List.length a0 : Int) = 64))) (xr_eqI rfl Try.underlying3 rfl (hd 1 rfl 4 rfl) rfl) rfl rfl
    ·intro ρz wz hz hk hd
     exact sk_val (v := .bool (decide ((List.length a0 : Int) = 64))) (xr_move rfl (hd 2 rfl 5 rfl)) rfl rfl
    ·intro ρz wz hz hk hd
     exact sk_gval (v := V0_0) (xr_move rfl ((hk 0 rfl).trans rfl)) rfl rfl (hd 3 rfl 6 rfl) c3 rfl
    ·intro ρz wz hz hk hd
     exact sk_gval (xr_indexR (K := (kI .u8)) (v := V0_0) rfl Try.underlying43 sz5 (hd 4 rfl 7 rfl) (R0_0.gr (fB.gr hz)) rfl (by decide) g4) rfl rfl (hd 3 rfl 6 rfl) c3 rfl
    ·intro ρz wz hz hk hd
     exact sk_gval (v := .int .u8 (ix a0 4)) (xr_load1 (v := .int .u8 (ix a0 4)) rfl ag5 (hd 5 rfl 8 rfl) ((R0_0.gr (fB.gr hz)).elem (by decide) g4)) rfl rfl (hd 3 rfl 6 rfl) c3 rfl
    ·intro ρz wz hz hk hd
     exact sk_gval (v := .bool (!decide ((ix a0 4) = 0))) (xr_neI rfl Try.underlying5 rfl (hd 6 rfl 9 rfl) rfl) rfl rfl (hd 3 rfl 6 rfl) c3 rfl
    ·intro ρz wz hz hk hd
     exact sk_val (v := .bool (!decide ((ix a0 4) = 0))) (xr_pickT rfl (hd 3 rfl 6 rfl) c3 (hd 7 rfl 10 rfl)) rfl rfl
    ·intro ρz wz hz hk hd
     exact sk_val (v := .bool (!decide ((ix a0 4) = 0))) (xr_move rfl (hd 8 rfl 11 rfl)) rfl rfl
    ·intro ρz wz hz hk hd
     exact sk_skip rfl rfl (hd 9 rfl 12 rfl) c5 rfl
    ·intro ρz wz hz hk hd
     exact sk_skip rfl rfl (hd 9 rfl 12 rfl) c5 rfl
    ·intro ρz wz hz hk hd
     exact sk_val (v := .bool false) (xr_pickF rfl (hd 9 rfl 12 rfl) c5 rfl) rfl rfl
    ·intro ρz wz hz hk hd
     exact sk_val (v := .bool false) (xr_move rfl (hd 12 rfl 15 rfl)) rfl rfl
    ·intro ρz wz hz hk hd
     exact sk_skip rfl rfl (hd 13 rfl 16 rfl) rfl rfl
    ·intro ρz wz hz hk hd
     exact sk_skip rfl rfl (hd 13 rfl 16 rfl) rfl rfl
    ·intro ρz wz hz hk hd
     exact sk_skip rfl rfl (hd 13 rfl 16 rfl) rfl rfl
    ·intro ρz wz hz hk hd
     exact sk_skip rfl rfl (hd 13 rfl 16 rfl) rfl rfl
    ·intro ρz wz hz hk hd
     exact sk_skip rfl rfl (hd 13 rfl 16 rfl) rfl rfl
    ·intro ρz wz hz hk hd
     exact sk_skip rfl rfl (hd 13 rfl 16 rfl) rfl rfl
    ·intro ρz wz hz hk hd
     exact sk_skip rfl rfl (hd 13 rfl 16 rfl) rfl rfl
    intro ρz wz hz hk hd
    exact sk_skip rfl rfl (hd 13 rfl 16 rfl) rfl rfl
   intro ρ29 w30 q31 hk hd
   have e16 := hd 13 rfl 16 rfl
   have fB := fB.gr q31
   refine ol_val (v := .bool false) (xr_pickF rfl e16 rfl rfl) rfl rfl rfl ?_
   refine ol_val (v := .bool false) (xr_assign rfl rfl) rfl rfl rfl ?_
   refine ol_nil ?_
   obtain rfl := Option.some.inj j2
   refine thn_i ?_
   exact ⟨rfl, q31⟩
  refine cw_drawL 22 [fun vz wz => vz = (V0_0 : Value), fun vz wz => vz = (.int .i64 (List.length a0 : Int) : Value), fun vz wz => vz = (.bool (decide ((List.length a0 : Int) = 64)) : Value), fun vz wz => vz = (.bool (decide ((List.length a0 : Int) = 64)) : Value), fun vz _ => vz = undef, fun vz _ => vz = undef, fun vz _ => vz = undef, fun vz _ => vz = undef, fun vz wz => vz = (.bool false : Value), fun vz wz => vz = (.bool false : Value), fun vz _ => vz = undef, fun vz _ => vz = undef, fun vz wz => vz = (.bool false : Value), fun vz wz => vz = (.bool false : Value), fun vz _ => vz = undef, fun vz _ => vz = undef, fun vz _ => vz = undef, fun vz _ => vz = undef, fun vz _ => vz = undef, fun vz _ => vz = undef, fun vz _ => vz = undef, fun vz _ => vz = undef] mo rfl ⟨fun _ _ _ h _ => h, fun _ _ _ h _ => h, fun _ _ _ h _ => h, fun _ _ _ h _ => h, fun _ _ _ h _ => h, fun _ _ _ h _ => h, fun _ _ _ h _ => h, fun _ _ _ h _ => h, fun _ _ _ h _ => h, fun _ _ _ h _ => h, fun _ _ _ h _ => h, fun _ _ _ h _ => h, fun _ _ _ h _ => h, fun _ _ _ h _ => h, fun _ _ _ h _ => h, fun _ _ _ h _ => h, fun _ _ _ h _ => h, fun _ _ _ h _ => h, fun _ _ _ h _ => h, fun _ _ _ h _ => h, fun _ _ _ h _ => h, fun _ _ _ h _ => h, trivial⟩ ?_ ?_
  ·refine ⟨?_, ?_, ?_, ?_, ?_, ?_, ?_, ?_, ?_, ?_, ?_, ?_, ?_, ?_, ?_, ?_, ?_, ?_, ?_, ?_, ?_, ?_, trivial⟩
   ·intro ρz wz hz hk hd
    exact sk_val (v := V0_0) (xr_move rfl ((hk 0 rfl).trans rfl)) rfl rfl
   ·intro ρz wz hz hk hd
    exact sk_val (v := .int .i64 (List.length a0 : Int)) (xr_lenR rfl Try.underlying43 (hd 0 rfl 3 rfl) (R0_0.gr (fB.gr hz))) rfl rfl
   ·intro ρz wz hz hk hd
    exact sk_val (v := .bool (decide ((List.length a0 : Int) = 64))) (xr_eqI rfl Try.underlying3 rfl (hd 1 rfl 4 rfl) rfl) rfl rfl
   ·intro ρz wz hz hk hd
    exact sk_val (v := .bool (decide ((List.length a0 : Int) = 64))) (xr_move rfl (hd 2 rfl 5 rfl)) rfl rfl
   ·intro ρz wz hz hk hd
    exact sk_skip rfl rfl (hd 3 rfl 6 rfl) c3 rfl
   ·intro ρz wz hz hk hd
    exact sk_skip rfl rfl (hd 3 rfl 6 rfl) c3 rfl
   ·intro ρz wz hz hk hd
    exact sk_skip rfl rfl (hd 3 rfl 6 rfl) c3 rfl
   ·intro ρz wz hz hk hd
    exact sk_skip rfl rfl (hd 3 rfl 6 rfl) c3 rfl
   ·intro ρz wz hz hk hd
    exact sk_val (v := .bool false) (xr_pickF rfl (hd 3 rfl 6 rfl) c3 rfl) rfl rfl
   ·intro ρz wz hz hk hd
    exact sk_val (v := .bool false) (xr_move rfl (hd 8 rfl 11 rfl)) rfl rfl
   ·intro ρz wz hz hk hd
    exact sk_skip rfl rfl (hd 9 rfl 12 rfl) rfl rfl
   ·intro ρz wz hz hk hd
    exact sk_skip rfl rfl (hd 9 rfl 12 rfl) rfl rfl
   ·intro ρz wz hz hk hd
    exact sk_val (v := .bool false) (xr_pickF rfl (hd 9 rfl 12 rfl) rfl rfl) rfl rfl
   ·intro ρz wz hz hk hd
    exact sk_val (v := .bool false) (xr_move rfl (hd 12 rfl 15 rfl)) rfl rfl
   ·intro ρz wz hz hk hd
    exact sk_skip rfl rfl (hd 13 rfl 16 rfl) rfl rfl
   ·intro ρz wz hz hk hd
    exact sk_skip rfl rfl (hd 13 rfl 16 rfl) rfl rfl
   ·intro ρz wz hz hk hd
    exact sk_skip rfl rfl (hd 13 rfl 16 rfl) rfl rfl
   ·intro ρz wz hz hk hd
    exact sk_skip rfl rfl (hd 13 rfl 16 rfl) rfl rfl
   ·intro ρz wz hz hk hd
    exact sk_skip rfl rfl (hd 13 rfl 16 rfl) rfl rfl
   ·intro ρz wz hz hk hd
    exact sk_skip rfl rfl (hd 13 rfl 16 rfl) rfl rfl
   ·intro ρz wz hz hk hd
    exact sk_skip rfl rfl (hd 13 rfl 16 rfl) rfl rfl
   intro ρz wz hz hk hd
   exact sk_skip rfl rfl (hd 13 rfl 16 rfl) rfl rfl
  intro ρ32 w33 q34 hk hd
  have e16 := hd 13 rfl 16 rfl
  have fB := fB.gr q34
  refine ol_val (v := .bool false) (xr_pickF rfl e16 rfl rfl) rfl rfl rfl ?_
  refine ol_val (v := .bool false) (xr_assign rfl rfl) rfl rfl rfl ?_
  refine ol_nil ?_
  obtain rfl := Option.some.inj j2
  refine thn_i ?_
  exact ⟨rfl, q34⟩
 rintro ρ35 w36 ⟨e2, q37⟩
 have fB := fB.gr q37
 refine cw_ret ?_
 repeat (first | with_reducible refine thn_r ?_ | with_reducible refine blk_r ?_)
 obtain rfl := Option.some.inj h
 refine fin_ret1 Try.results141 e2 ?_
 exact ⟨_, rfl, rfl, fB⟩
def bytes_Clone.f (fu : Nat) (a0 : List Int) : Option (List Int) := (if List.length a0 ≤ LIM then some a0 else none)
theorem bytes_Clone.ok (fu : Nat) (w : World) (a0 : List Int) (V0_0 : Value) (R0_0 : Rd (kI .u8) w V0_0 a0) (r : List Int) (h : bytes_Clone.f fu a0 = some r) :
  Calls Try.prog 142 (([V0_0] : List Value).toArray) w (fun e w' => ∃ v, e = .returned v ∧ ∃ u1 : Value, ∃ o2 : Own (kI .u8) 5 w' w.heap.size u1 r, v = u1 ∧ Gr w w') := by
 unfold bytes_Clone.f at h
 obtain ⟨g, h⟩ := gs h
 obtain rfl := Option.some.inj h
 have fB : Gr w w := Fr.refl _ _
 refine calls_cw Try.func142 rfl Try.ntmps142 rfl ?_
 refine cw_seq ?_
 refine cw_region ?_
 refine ol_val (v := .slice none 0 0) (xr_assign rfl rfl) rfl rfl rfl ?_
 refine ol_nil ?_
 refine cw_seq ?_
 refine cw_seq ?_
 refine cw_region ?_
 refine ol_val (v := V0_0) (xr_move rfl rfl) rfl rfl rfl ?_
 refine ol_val (v := .bool (isNilV V0_0)) (xr_eqNil rfl Try.underlying43 rfl rfl R0_0) rfl rfl rfl ?_
 refine ol_nil ?_
 rcases bt (isNilV V0_0) with c | c
 ·refine cw_condT rfl c ?_
  obtain rfl := R0_0.isNil c
  refine cw_seq ?_
  refine cw_region ?_
  refine ol_val (v := .slice none 0 0) (xr_assign rfl rfl) rfl rfl rfl ?_
  refine ol_nil ?_
  refine cw_ret ?_
  repeat (first | with_reducible refine thn_r ?_ | with_reducible refine blk_r ?_)
  refine fin_ret1 Try.results142 rfl ?_
  exact ⟨_, rfl, _, Own.nil _ _ _ _, rfl, fB⟩
 refine cw_condF rfl c ?_
 refine cw_skip ?_
 refine cw_seq ?_
 refine cw_region ?_
 refine ol_op (opv_buildSlice (K := (kI .u8)) (xs := ([] : List Int)) (vals := []) rfl Try.underlying43 el5 rfl rfl trivial rfl rfl rfl fB.size) rfl rfl rfl ?_
 rintro v1 w1 ⟨o1, q1, z1⟩
 refine ol_val (v := V0_0) (xr_move rfl rfl) rfl rfl rfl ?_
 refine ol_op (opv_append (K := (kI .u8)) rfl Try.underlying43 el5 rfl rfl rfl rfl rfl o1 (R0_0.gr q1) (by simpa using g) (fB.gr q1).size) rfl rfl rfl ?_
 rintro v2 w2 ⟨o2, q2, n2⟩
 refine ol_val (v := v2) (xr_assign rfl rfl) rfl rfl rfl ?_
 refine ol_nil ?_
 refine cw_ret ?_
 repeat (first | with_reducible refine thn_r ?_ | with_reducible refine blk_r ?_)
 refine fin_ret1 Try.results142 rfl ?_
 exact ⟨_, rfl, v2, o2, rfl, (fB.gr q1).wrO q2 o1.geO⟩
def block_Open.f (fu : Nat) (a0 : List Int) : Option (Int × Int × (List Int) × Bool) := ((block_right.f fu a0).bind fun t4 => (if (!t4) = true then some (0, 0, [], false) else (if (4 : Int) < (List.length a0 : Int) then (if (5 : Int) < (List.length a0 : Int) then (if (8 : Int) ≤ (List.length a0 : Int) then ((bytes_Clone.f fu (cut a0 8 (List.length a0 : Int))).bind fun t13 => some ((IntKind.i64.wrap (ix a0 4)), (IntKind.i64.wrap (ix a0 5)), t13, true)) else none) else none) else none)))
theorem block_Open.ok (fu : Nat) (w : World) (a0 : List Int) (V0_0 : Value) (R0_0 : Rd (kI .u8) w V0_0 a0) (r : Int × Int × (List Int) × Bool) (h : block_Open.f fu a0 = some r) :
  Calls Try.prog 130 (([V0_0] : List Value).toArray) w (fun e w' => ∃ v, e = .returned v ∧ ∃ u1 : Value, ∃ o2 : Own (kI .u8) 5 w' w.heap.size u1 r.2.2.1, v = .tuple #[.int .i64 r.1, .int .i64 r.2.1, u1, .bool r.2.2.2] ∧ Gr w w') := by
 unfold block_Open.f at h
 have fB : Gr w w := Fr.refl _ _
 refine calls_cw Try.func130 rfl Try.ntmps130 rfl ?_
 refine cw_seq ?_
 refine cw_region ?_
 refine ol_val (v := .int .i64 0) (xr_assign rfl rfl) rfl rfl rfl ?_
 refine ol_val (v := .int .i64 0) (xr_assign rfl rfl) rfl rfl rfl ?_
 refine ol_val (v := .slice none 0 0) (xr_assign rfl rfl) rfl rfl rfl ?_
 refine ol_val (v := .bool false) (xr_assign rfl rfl) rfl rfl rfl ?_
 refine ol_nil ?_
 refine cw_seq ?_
 refine cw_seq ?_
 refine cw_region ?_
 refine ol_val (v := V0_0) (xr_move rfl rfl) rfl rfl rfl ?_
 obtain ⟨t4, k5, h⟩ := bs h
 refine ol_op (opv_call rfl cal141 (ac rfl an) (block_right.ok fu _ a0 V0_0 (R0_0.gr fB) _ k5)) rfl rfl rfl ?_
 rintro _ w7 ⟨rfl, q6⟩
 have fB := fB.gr q6
 refine ol_val (v := .bool (!t4)) (xr_not rfl rfl) rfl rfl rfl ?_
 refine ol_nil ?_
 rcases is h with ⟨c8, h⟩ | ⟨c8, h⟩
 ·refine cw_condT rfl c8 ?_
  refine cw_seq ?_
  refine cw_region ?_
  refine ol_val (v := .int .i64 0) (xr_assign rfl rfl) rfl rfl rfl ?_
  refine ol_val (v := .int .i64 0) (xr_assign rfl rfl) rfl rfl rfl ?_
  refine ol_val (v := .slice none 0 0) (xr_assign rfl rfl) rfl rfl rfl ?_
  refine ol_val (v := .bool false) (xr_assign rfl rfl) rfl rfl rfl ?_
  refine ol_nil ?_
  refine cw_ret ?_
  repeat (first | with_reducible refine thn_r ?_ | with_reducible refine blk_r ?_)
  obtain rfl := Option.some.inj h
  refine fin_ret4 Try.results130 rfl rfl rfl rfl ?_
  exact ⟨_, rfl, (.slice none 0 0), Own.nil _ _ _ _, rfl, fB⟩
 refine cw_condF rfl c8 ?_
 refine cw_skip ?_
 refine cw_seq ?_
 obtain ⟨g9, h⟩ := gs h
 obtain ⟨g10, h⟩ := gs h
 obtain ⟨g12, h⟩ := gs h
 obtain ⟨t13, k14, h⟩ := bs h
 refine cw_drawL 12 [fun vz wz => vz = (V0_0 : Value), fun vz wz => vz = ((pt ((sb V0_0)) (so V0_0 + Int.toNat 4 * 1)) : Value), fun vz wz => vz = (.int .u8 (ix a0 4) : Value), fun vz wz => vz = (.int .i64 (IntKind.i64.wrap (ix a0 4)) : Value), fun vz wz => vz = (V0_0 : Value), fun vz wz => vz = ((pt ((sb V0_0)) (so V0_0 + Int.toNat 5 * 1)) : Value), fun vz wz => vz = (.int .u8 (ix a0 5) : Value), fun vz wz => vz = (.int .i64 (IntKind.i64.wrap (ix a0 5)) : Value), fun vz wz => vz = (V0_0 : Value), fun vz wz => ∃ r11 : Rd (kI .u8) wz (subv 1 V0_0 (Int.toNat 8) (List.length a0)) (cut a0 8 (List.length a0 : Int)), vz = (subv 1 V0_0 (Int.toNat 8) (List.length a0) : Value), fun vz wz => ∃ u15 : Value, ∃ o16 : Own (kI .u8) 5 wz w.heap.size u15 t13, vz = (u15 : Value), fun vz wz => vz = (.int .i64 (IntKind.i64.wrap (ix a0 4)) : Value)] mo rfl ⟨fun _ _ _ h _ => h, fun _ _ _ h _ => h, fun _ _ _ h _ => h, fun _ _ _ h _ => h, fun _ _ _ h _ => h, fun _ _ _ h _ => h, fun _ _ _ h _ => h, fun _ _ _ h _ => h, fun _ _ _ h _ => h, fun _ _ _ ⟨r11, h⟩ q => ⟨r11.gr q, h⟩, fun _ _ _ ⟨u15, o16, h⟩ q => ⟨u15, o16.gr q, h⟩, fun _ _ _ h _ => h, trivial⟩ ?_ ?_
 ·refine ⟨?_, ?_, ?_, ?_, ?_, ?_, ?_, ?_, ?_, ?_, ?_, ?_, trivial⟩
  ·intro ρz wz hz hk hd
   exact sk_val (v := V0_0) (xr_move rfl ((hk 0 rfl).trans rfl)) rfl rfl
  ·intro ρz wz hz hk hd
   exact sk_val (xr_indexR (K := (kI .u8)) (v := V0_0) rfl Try.underlying43 sz5 (hd 0 rfl 9 rfl) (R0_0.gr (fB.gr hz)) rfl (by decide) g9) rfl rfl
  ·intro ρz wz hz hk hd
   exact sk_val (v := .int .u8 (ix a0 4)) (xr_load1 (v := .int .u8 (ix a0 4)) rfl ag5 (hd 1 rfl 10 rfl) ((R0_0.gr (fB.gr hz)).elem (by decide) g9)) rfl rfl
  ·intro ρz wz hz hk hd
   exact sk_val (v := .int .i64 (IntKind.i64.wrap (ix a0 4))) (xr_conv rfl Try.underlying5 Try.underlying3 (hd 2 rfl 11 rfl)) rfl rfl
  ·intro ρz wz hz hk hd
   exact sk_val (v := V0_0) (xr_move rfl ((hk 0 rfl).trans rfl)) rfl rfl
  ·intro ρz wz hz hk hd
   exact sk_val (xr_indexR (K := (kI .u8)) (v := V0_0) rfl Try.underlying43 sz5 (hd 4 rfl 13 rfl) (R0_0.gr (fB.gr hz)) rfl (by decide) g10) rfl rfl
  ·intro ρz wz hz hk hd
   exact sk_val (v := .int .u8 (ix a0 5)) (xr_load1 (v := .int .u8 (ix a0 5)) rfl ag5 (hd 5 rfl 14 rfl) ((R0_0.gr (fB.gr hz)).elem (by decide) g10)) rfl rfl
  ·intro ρz wz hz hk hd
   exact sk_val (v := .int .i64 (IntKind.i64.wrap (ix a0 5))) (xr_conv rfl Try.underlying5 Try.underlying3 (hd 6 rfl 15 rfl)) rfl rfl
  ·intro ρz wz hz hk hd
   exact sk_val (v := V0_0) (xr_move rfl ((hk 0 rfl).trans rfl)) rfl rfl
  ·intro ρz wz hz hk hd
   exact sk_val (xr_slice_l (K := (kI .u8)) (v := V0_0) rfl Try.underlying43 sz5 (hd 8 rfl 17 rfl) (R0_0.gr (fB.gr hz)) rfl (by decide) g12) rfl ⟨(R0_0.gr (fB.gr hz)).cut (lo := 8) (hi := (List.length a0 : Int)) (by decide) g12 (Int.le_refl _), rfl⟩
  ·intro ρz wz hz hk hd
   obtain ⟨r11, d18⟩ := hd 9 rfl 18 rfl
   refine sk_op (opv_call rfl cal142 (ac d18 an) (bytes_Clone.ok fu _ (cut a0 8 (List.length a0 : Int)) (subv 1 V0_0 (Int.toNat 8) (List.length a0)) (r11) _ k14)) rfl ?_
   rintro u15 wy ⟨_, o16, rfl, q18⟩
   exact ⟨⟨u15, Own.base o16 ((Nat.le_trans fB.size hz.size)), rfl⟩, q18⟩
  intro ρz wz hz hk hd
  exact sk_val (v := .int .i64 (IntKind.i64.wrap (ix a0 4))) (xr_assign rfl (hd 3 rfl 12 rfl)) rfl rfl
 intro ρ19 w20 q21 hk hd
 have e2 := hd 11 rfl 2 rfl
 have e16 := hd 7 rfl 16 rfl
 obtain ⟨u22, o23, e19⟩ := hd 10 rfl 19 rfl
 have fB := fB.gr q21
 refine ol_val (v := .int .i64 (IntKind.i64.wrap (ix a0 5))) (xr_assign rfl e16) rfl rfl rfl ?_
 refine ol_val (v := u22) (xr_assign rfl e19) rfl rfl rfl ?_
 refine ol_val (v := .bool true) (xr_assign rfl rfl) rfl rfl rfl ?_
 refine ol_nil ?_
 refine cw_ret ?_
 repeat (first | with_reducible refine thn_r ?_ | with_reducible refine blk_r ?_)
 obtain rfl := Option.some.inj h
 refine fin_ret4 Try.results130 e2 rfl rfl rfl ?_
 exact ⟨_, rfl, u22, o23, rfl, fB⟩
def super_reader_next.f (fu : Nat) (a0 : S_super_reader) (a1 : Int) : Option (Int × S_super_reader) := (if 0 ≤ a1 ∧ a1 ≤ (List.length a0.rest : Int) then ((octet_Read.f fu (cut a0.rest 0 a1)).bind fun t7 => (if 0 ≤ a1 ∧ a1 ≤ (List.length a0.rest : Int) then some ((IntKind.i64.wrap t7), (⟨(cut a0.rest a1 (List.length a0.rest : Int))⟩ : S_super_reader)) else none)) else none)
theorem super_reader_next.ok (fu : Nat) (w : World) (a0 : S_super_reader) (G_0 : Nat) (V0_0 : Value) (R0_0 : Rd (kI .u8) w V0_0 a0.rest) (N0_0 : OffR V0_0 a0.rest G_0) (b_0 : Blk w G_0 182 [Seg.cell V0_0 R0_0.one]) (a1 : Int) (r : Int × S_super_reader) (h : super_reader_next.f fu a0 a1 = some r) :
  Calls Try.prog 131 (([(pt G_0 0), .int .i64 a1] : List Value).toArray) w (fun e w' => ∃ v, e = .returned v ∧ ∃ u1 : Value, ∃ r2 : Rd (kI .u8) w' u1 r.2.rest, ∃ n3 : ∀ g, OffR V0_0 a0.rest g → OffR u1 r.2.rest g, ∃ n4 : ∀ g, OffRV V0_0 a0.rest g → OffRV u1 r.2.rest g, v = .int .i64 r.1 ∧ Blk w' G_0 182 [Seg.cell u1 r2.one] ∧ Fr (fun j => j = G_0) w w') := by
 unfold super_reader_next.f at h
 have fB : Fr (fun j => j = G_0) w w := Fr.refl _ _
 refine calls_cw Try.func131 rfl Try.ntmps131 rfl ?_
 refine cw_seq ?_
 refine cw_region ?_
 refine ol_val (v := .int .i64 0) (xr_assign rfl rfl) rfl rfl rfl ?_
 refine ol_nil ?_
 refine cw_seq ?_
 refine cw_region ?_
 refine ol_val (v := (pt G_0 0)) (xr_move rfl rfl) rfl rfl rfl ?_
 refine ol_val (v := (pt G_0 0)) (xr_nilCheck rfl rfl) rfl rfl rfl ?_
 refine ol_val (v := (pt G_0 0)) (xr_fieldAddr (p := 0) (q := 0) rfl fl182_0 rfl) rfl rfl rfl ?_
 refine ol_val (v := V0_0) (xr_load1 (v := V0_0) rfl ag43 rfl (b_0.seg 0 rfl rfl)) rfl rfl rfl ?_
 refine ol_val (v := .int .i64 a1) (xr_move rfl rfl) rfl rfl rfl ?_
 obtain ⟨g6, h⟩ := gs h
 refine ol_val (v := subv 1 V0_0 0 (Int.toNat a1)) (xr_slice_h (K := (kI .u8)) (v := V0_0) rfl Try.underlying43 sz5 rfl R0_0 rfl g6.1 g6.2) rfl rfl rfl ?_
 have r5 : Rd (kI .u8) w (subv 1 V0_0 0 (Int.toNat a1)) (cut a0.rest 0 a1) := R0_0.cut (lo := 0) (hi := a1) (by decide) g6.1 g6.2
 obtain ⟨t7, k8, h⟩ := bs h
 refine ol_op (opv_call rfl cal109 (ac rfl an) (octet_Read.ok fu _ (cut a0.rest 0 a1) (subv 1 V0_0 0 (Int.toNat a1)) (r5) _ k8)) rfl rfl rfl ?_
 rintro _ w10 ⟨rfl, q9⟩
 have b_0 := b_0.gr q9
 have R0_0 := R0_0.gr q9
 have fB := fB.gr q9
 refine ol_val (v := .int .u64 t7) (xr_assign rfl rfl) rfl rfl rfl ?_
 refine ol_nil ?_
 refine cw_seq ?_
 refine cw_region ?_
 refine ol_val (v := (pt G_0 0)) (xr_move rfl rfl) rfl rfl rfl ?_
 refine ol_val (v := (pt G_0 0)) (xr_move rfl rfl) rfl rfl rfl ?_
 refine ol_val (v := (pt G_0 0)) (xr_nilCheck rfl rfl) rfl rfl rfl ?_
 refine ol_val (v := (pt G_0 0)) (xr_fieldAddr (p := 0) (q := 0) rfl fl182_0 rfl) rfl rfl rfl ?_
 refine ol_val (v := V0_0) (xr_load1 (v := V0_0) rfl ag43 rfl (b_0.seg 0 rfl rfl)) rfl rfl rfl ?_
 refine ol_val (v := .int .i64 a1) (xr_move rfl rfl) rfl rfl rfl ?_
 obtain ⟨g12, h⟩ := gs h
 refine ol_val (v := subv 1 V0_0 (Int.toNat a1) (List.length a0.rest)) (xr_slice_l (K := (kI .u8)) (v := V0_0) rfl Try.underlying43 sz5 rfl R0_0 rfl g12.1 g12.2) rfl rfl rfl ?_
 have r11 : Rd (kI .u8) w10 (subv 1 V0_0 (Int.toNat a1) (List.length a0.rest)) (cut a0.rest a1 (List.length a0.rest : Int)) := R0_0.cut (lo := a1) (hi := (List.length a0.rest : Int)) g12.1 g12.2 (Int.le_refl _)
 refine ol_val (v := (pt G_0 0)) (xr_nilCheck rfl rfl) rfl rfl rfl ?_
 refine ol_val (v := (pt G_0 0)) (xr_fieldAddr (p := 0) (q := 0) rfl fl182_0 rfl) rfl rfl rfl ?_
 refine ol_op0 (opv_store (ss' := [Seg.cell (subv 1 V0_0 (Int.toNat a1) (List.length a0.rest)) r11.one]) (xs := cellsOf [Seg.cell (subv 1 V0_0 (Int.toNat a1) (List.length a0.rest)) r11.one]) rfl sz43 rfl rfl (cells_one r11.one) (len_cellsOf _) (one_cellsOf _) b_0 (Spl.segs _ 0 1 [Seg.cell (subv 1 V0_0 (Int.toNat a1) (List.length a0.rest)) r11.one] rfl rfl)) rfl rfl ?_
 rintro _ w14 ⟨b_0, q13⟩
 have r11 := r11.wr q13 (OffR.cut N0_0)
 have fB := fB.wrS q13 rfl
 refine ol_nil ?_
 refine cw_seq ?_
 refine cw_region ?_
 refine ol_val (v := .int .u64 t7) (xr_move rfl rfl) rfl rfl rfl ?_
 refine ol_val (v := .int .i64 (IntKind.i64.wrap t7)) (xr_conv rfl Try.underlying22 Try.underlying3 rfl) rfl rfl rfl ?_
 refine ol_val (v := .int .i64 (IntKind.i64.wrap t7)) (xr_assign rfl rfl) rfl rfl rfl ?_
 refine ol_nil ?_
 refine cw_ret ?_
 repeat (first | with_reducible refine thn_r ?_ | with_reducible refine blk_r ?_)
 obtain rfl := Option.some.inj h
 refine fin_ret1 Try.results131 rfl ?_
 exact ⟨_, rfl, (subv 1 V0_0 (Int.toNat a1) (List.length a0.rest)), r11, (fun _ hN => (OffR.cut hN)), (fun _ hN => (OffRV.cut hN)), rfl, b_0, fB⟩
def geom_Right.f (fu : Nat) (a0 : S_api_Geometry) : Option Bool := some ((if (decide (a0.Blocks ≥ 16)) = true then (if (decide (a0.Blocks ≤ 3072)) = true then (if (decide (a0.Slots ≥ 1)) = true then (if (decide (a0.Slots ≤ 1792)) = true then (if (decide (a0.Gens ≥ 1)) = true then (decide (a0.Gens ≤ 4294967295)) else false) else false) else false) else false) else false))
theorem geom_Right.ok (fu : Nat) (w : World) (a0 : S_api_Geometry) (r : Bool) (h : geom_Right.f fu a0 = some r) :
  Calls Try.prog 143 (([aggV [(sI a0.Blocks), (sI a0.Slots), (sI a0.Gens)]] : List Value).toArray) w (fun e w' => ∃ v, e = .returned v ∧ v = .bool r ∧ Gr w w') := by
 unfold geom_Right.f at h
 have fB : Gr w w := Fr.refl _ _
 refine calls_cw Try.func143 rfl Try.ntmps143 rfl ?_
 refine cw_seq ?_
 refine cw_region ?_
 refine ol_op (opv_box (ss := [(sI a0.Blocks), (sI a0.Slots), (sI a0.Gens)]) rfl rfl rfl) rfl rfl rfl ?_
 rintro _ w6 ⟨G1, rfl, b2, q3, z4⟩
 have z4 := Nat.le_trans fB.size z4
 have fB := fB.gr q3
 refine ol_val (v := .bool false) (xr_assign rfl rfl) rfl rfl rfl ?_
 refine ol_nil ?_
 refine cw_seq ?_
 refine cw_mid (fun ρ' w' => ρ' 2 = .bool (if (decide (a0.Blocks ≥ 16)) = true then (if (decide (a0.Blocks ≤ 3072)) = true then (if (decide (a0.Slots ≥ 1)) = true then (if (decide (a0.Slots ≤ 1792)) = true then (if (decide (a0.Gens ≥ 1)) = true then (decide (a0.Gens ≤ 4294967295)) else false) else false) else false) else false) else false) ∧ w6 = w') ?_ ?_
 ·skip
  refine cw_region ?_
  refine ol_val (v := (pt G1 0)) (xr_fieldAddr (p := 0) (q := 0) rfl fl106_0 rfl) rfl rfl rfl ?_
  refine ol_val (v := .int .i64 a0.Blocks) (xr_load1 (v := .int .i64 a0.Blocks) rfl ag3 rfl (b2.seg 0 rfl rfl)) rfl rfl rfl ?_
  refine ol_val (v := .bool (decide (a0.Blocks ≥ 16))) (xr_geq rfl rfl rfl) rfl rfl rfl ?_
  refine ol_val (v := .bool (decide (a0.Blocks ≥ 16))) (xr_move rfl rfl) rfl rfl rfl ?_
  rcases bt (decide (a0.Blocks ≥ 16)) with c7 | c7
  ·skip
   refine ol_gval (v := (pt G1 0)) (xr_fieldAddr (p := 0) (q := 0) rfl fl106_0 rfl) rfl rfl rfl rfl rfl c7 ?_
   refine ol_gval (v := .int .i64 a0.Blocks) (xr_load1 (v := .int .i64 a0.Blocks) rfl ag3 rfl (b2.seg 0 rfl rfl)) rfl rfl rfl rfl rfl c7 ?_
   refine ol_gval (v := .bool (decide (a0.Blocks ≤ 3072))) (xr_leq rfl rfl rfl) rfl rfl rfl rfl rfl c7 ?_
   refine ol_val (v := .bool (decide (a0.Blocks ≤ 3072))) (xr_pickT rfl rfl c7 rfl) rfl rfl rfl ?_
   refine ol_val (v := .bool (decide (a0.Blocks ≤ 3072))) (xr_move rfl rfl) rfl rfl rfl ?_
   rcases bt (decide (a0.Blocks ≤ 3072)) with c8 | c8
   ·skip
    refine ol_gval (v := (pt G1 1)) (xr_fieldAddr (p := 0) (q := 1) rfl fl106_1 rfl) rfl rfl rfl rfl rfl c8 ?_
    refine ol_gval (v := .int .i64 a0.Slots) (xr_load1 (v := .int .i64 a0.Slots) rfl ag3 rfl (b2.seg 1 rfl rfl)) rfl rfl rfl rfl rfl c8 ?_
    refine ol_gval (v := .bool (decide (a0.Slots ≥ 1))) (xr_geq rfl rfl rfl) rfl rfl rfl rfl rfl c8 ?_
    refine ol_val (v := .bool (decide (a0.Slots ≥ 1))) (xr_pickT rfl rfl c8 rfl) rfl rfl rfl ?_
    refine ol_val (v := .bool (decide (a0.Slots ≥ 1))) (xr_move rfl rfl) rfl rfl rfl ?_
    rcases bt (decide (a0.Slots ≥ 1)) with c9 | c9
    ·skip
     refine ol_gval (v := (pt G1 1)) (xr_fieldAddr (p := 0) (q := 1) rfl fl106_1 rfl) rfl rfl rfl rfl rfl c9 ?_
     refine ol_gval (v := .int .i64 a0.Slots) (xr_load1 (v := .int .i64 a0.Slots) rfl ag3 rfl (b2.seg 1 rfl rfl)) rfl rfl rfl rfl rfl c9 ?_
     refine ol_gval (v := .bool (decide (a0.Slots ≤ 1792))) (xr_leq rfl rfl rfl) rfl rfl rfl rfl rfl c9 ?_
     refine ol_val (v := .bool (decide (a0.Slots ≤ 1792))) (xr_pickT rfl rfl c9 rfl) rfl rfl rfl ?_
     refine ol_val (v := .bool (decide (a0.Slots ≤ 1792))) (xr_move rfl rfl) rfl rfl rfl ?_
     rcases bt (decide (a0.Slots ≤ 1792)) with c10 | c10
     ·skip
      refine ol_gval (v := (pt G1 2)) (xr_fieldAddr (p := 0) (q := 2) rfl fl106_2 rfl) rfl rfl rfl rfl rfl c10 ?_
      refine ol_gval (v := .int .i64 a0.Gens) (xr_load1 (v := .int .i64 a0.Gens) rfl ag3 rfl (b2.seg 2 rfl rfl)) rfl rfl rfl rfl rfl c10 ?_
      refine ol_gval (v := .bool (decide (a0.Gens ≥ 1))) (xr_geq rfl rfl rfl) rfl rfl rfl rfl rfl c10 ?_
      refine ol_val (v := .bool (decide (a0.Gens ≥ 1))) (xr_pickT rfl rfl c10 rfl) rfl rfl rfl ?_
      refine ol_val (v := .bool (decide (a0.Gens ≥ 1))) (xr_move rfl rfl) rfl rfl rfl ?_
      rcases bt (decide (a0.Gens ≥ 1)) with c11 | c11
      ·skip
       refine ol_gval (v := (pt G1 2)) (xr_fieldAddr (p := 0) (q := 2) rfl fl106_2 rfl) rfl rfl rfl rfl rfl c11 ?_
       refine ol_gval (v := .int .i64 a0.Gens) (xr_load1 (v := .int .i64 a0.Gens) rfl ag3 rfl (b2.seg 2 rfl rfl)) rfl rfl rfl rfl rfl c11 ?_
       refine ol_gval (v := .bool (decide (a0.Gens ≤ 4294967295))) (xr_leq rfl rfl rfl) rfl rfl rfl rfl rfl c11 ?_
       refine ol_val (v := .bool (decide (a0.Gens ≤ 4294967295))) (xr_pickT rfl rfl c11 rfl) rfl rfl rfl ?_
       refine ol_val (v := .bool (decide (a0.Gens ≤ 4294967295))) (xr_assign rfl rfl) rfl rfl rfl ?_
       refine ol_nil ?_
       refine thn_i ?_
       exact ⟨(rfl).trans (congrArg (fun z => (.bool z : Value)) (show (decide (a0.Gens ≤ 4294967295)) = (if (decide (a0.Blocks ≥ 16)) = true then (if (decide (a0.Blocks ≤ 3072)) = true then (if (decide (a0.Slots ≥ 1)) = true then (if (decide (a0.Slots ≤ 1792)) = true then (if (decide (a0.Gens ≥ 1)) = true then (decide (a0.Gens ≤ 4294967295)) else false) else false) else false) else false) else false) from by rw [ite_t c7, ite_t c8, ite_t c9, ite_t c10, ite_t c11])), rfl⟩
      refine ol_gskip rfl rfl rfl rfl rfl c11 ?_
      refine ol_gskip rfl rfl rfl rfl rfl c11 ?_
      refine ol_gskip rfl rfl rfl rfl rfl c11 ?_
      refine ol_val (v := .bool false) (xr_pickF rfl rfl c11 rfl) rfl rfl rfl ?_
      refine ol_val (v := .bool false) (xr_assign rfl rfl) rfl rfl rfl ?_
      refine ol_nil ?_
      refine thn_i ?_
      exact ⟨(rfl).trans (congrArg (fun z => (.bool z : Value)) (show false = (if (decide (a0.Blocks ≥ 16)) = true then (if (decide (a0.Blocks ≤ 3072)) = true then (if (decide (a0.Slots ≥ 1)) = true then (if (decide (a0.Slots ≤ 1792)) = true then (if (decide (a0.Gens ≥ 1)) = true then (decide (a0.Gens ≤ 4294967295)) else false) else false) else false) else false) else false) from by rw [ite_t c7, ite_t c8, ite_t c9, ite_t c10, ite_f c11])), rfl⟩
     refine ol_gskip rfl rfl rfl rfl rfl c10 ?_
     refine ol_gskip rfl rfl rfl rfl rfl c10 ?_
     refine ol_gskip rfl rfl rfl rfl rfl c10 ?_
     refine ol_val (v := .bool false) (xr_pickF rfl rfl c10 rfl) rfl rfl rfl ?_
     refine ol_val (v := .bool false) (xr_move rfl rfl) rfl rfl rfl ?_
     refine ol_gskip rfl rfl rfl rfl rfl rfl ?_
     refine ol_gskip rfl rfl rfl rfl rfl rfl ?_
     refine ol_gskip rfl rfl rfl rfl rfl rfl ?_
     refine ol_val (v := .bool false) (xr_pickF rfl rfl rfl rfl) rfl rfl rfl ?_
     refine ol_val (v := .bool false) (xr_assign rfl rfl) rfl rfl rfl ?_
     refine ol_nil ?_
     refine thn_i ?_
     exact ⟨(rfl).trans (congrArg (fun z => (.bool z : Value)) (show false = (if (decide (a0.Blocks ≥ 16)) = true then (if (decide (a0.Blocks ≤ 3072)) = true then (if (decide (a0.Slots ≥ 1)) = true then (if (decide (a0.Slots ≤ 1792)) = true then (if (decide (a0.Gens ≥ 1)) = true then (decide (a0.Gens ≤ 4294967295)) else false) else false) else false) else false) else false) from by rw [ite_t c7, ite_t c8, ite_t c9, ite_f c10])), rfl⟩
    refine ol_gskip rfl rfl rfl rfl rfl c9 ?_
    refine ol_gskip rfl rfl rfl rfl rfl c9 ?_
    refine ol_gskip rfl rfl rfl rfl rfl c9 ?_
    refine ol_val (v := .bool false) (xr_pickF rfl rfl c9 rfl) rfl rfl rfl ?_
    refine ol_val (v := .bool false) (xr_move rfl rfl) rfl rfl rfl ?_
    refine ol_gskip rfl rfl rfl rfl rfl rfl ?_
    refine ol_gskip rfl rfl rfl rfl rfl rfl ?_
    refine ol_gskip rfl rfl rfl rfl rfl rfl ?_
    refine ol_val (v := .bool false) (xr_pickF rfl rfl rfl rfl) rfl rfl rfl ?_
    refine ol_val (v := .bool false) (xr_move rfl rfl) rfl rfl rfl ?_
    refine ol_gskip rfl rfl rfl rfl rfl rfl ?_
    refine ol_gskip rfl rfl rfl rfl rfl rfl ?_
    refine ol_gskip rfl rfl rfl rfl rfl rfl ?_
    refine ol_val (v := .bool false) (xr_pickF rfl rfl rfl rfl) rfl rfl rfl ?_
    refine ol_val (v := .bool false) (xr_assign rfl rfl) rfl rfl rfl ?_
    refine ol_nil ?_
    refine thn_i ?_
    exact ⟨(rfl).trans (congrArg (fun z => (.bool z : Value)) (show false = (if (decide (a0.Blocks ≥ 16)) = true then (if (decide (a0.Blocks ≤ 3072)) = true then (if (decide (a0.Slots ≥ 1)) = true then (if (decide (a0.Slots ≤ 1792)) = true then (if (decide (a0.Gens ≥ 1)) = true then (decide (a0.Gens ≤ 4294967295)) else false) else false) else false) else false) else false) from by rw [ite_t c7, ite_t c8, ite_f c9])), rfl⟩
   refine ol_gskip rfl rfl rfl rfl rfl c8 ?_
   refine ol_gskip rfl rfl rfl rfl rfl c8 ?_
   refine ol_gskip rfl rfl rfl rfl rfl c8 ?_
   refine ol_val (v := .bool false) (xr_pickF rfl rfl c8 rfl) rfl rfl rfl ?_
   refine ol_val (v := .bool false) (xr_move rfl rfl) rfl rfl rfl ?_
   refine ol_gskip rfl rfl rfl rfl rfl rfl ?_
   refine ol_gskip rfl rfl rfl rfl rfl rfl ?_
   refine ol_gskip rfl rfl rfl rfl rfl rfl ?_
   refine ol_val (v := .bool false) (xr_pickF rfl rfl rfl rfl) rfl rfl rfl ?_
   refine ol_val (v := .bool false) (xr_move rfl rfl) rfl rfl rfl ?_
   refine ol_gskip rfl rfl rfl rfl rfl rfl ?_
   refine ol_gskip rfl rfl rfl rfl rfl rfl ?_
   refine ol_gskip rfl rfl rfl rfl rfl rfl ?_
   refine ol_val (v := .bool false) (xr_pickF rfl rfl rfl rfl) rfl rfl rfl ?_
   refine ol_val (v := .bool false) (xr_move rfl rfl) rfl rfl rfl ?_
   refine ol_gskip rfl rfl rfl rfl rfl rfl ?_
   refine ol_gskip rfl rfl rfl rfl rfl rfl ?_
   refine ol_gskip rfl rfl rfl rfl rfl rfl ?_
   refine ol_val (v := .bool false) (xr_pickF rfl rfl rfl rfl) rfl rfl rfl ?_
   refine ol_val (v := .bool false) (xr_assign rfl rfl) rfl rfl rfl ?_
   refine ol_nil ?_
   refine thn_i ?_
   exact ⟨(rfl).trans (congrArg (fun z => (.bool z : Value)) (show false = (if (decide (a0.Blocks ≥ 16)) = true then (if (decide (a0.Blocks ≤ 3072)) = true then (if (decide (a0.Slots ≥ 1)) = true then (if (decide (a0.Slots ≤ 1792)) = true then (if (decide (a0.Gens ≥ 1)) = true then (decide (a0.Gens ≤ 4294967295)) else false) else false) else false) else false) else false) from by rw [ite_t c7, ite_f c8])), rfl⟩
  refine ol_gskip rfl rfl rfl rfl rfl c7 ?_
  refine ol_gskip rfl rfl rfl rfl rfl c7 ?_
  refine ol_gskip rfl rfl rfl rfl rfl c7 ?_
  refine ol_val (v := .bool false) (xr_pickF rfl rfl c7 rfl) rfl rfl rfl ?_
  refine ol_val (v := .bool false) (xr_move rfl rfl) rfl rfl rfl ?_
  refine ol_gskip rfl rfl rfl rfl rfl rfl ?_
  refine ol_gskip rfl rfl rfl rfl rfl rfl ?_
  refine ol_gskip rfl rfl rfl rfl rfl rfl ?_
  refine ol_val (v := .bool false) (xr_pickF rfl rfl rfl rfl) rfl rfl rfl ?_
  refine ol_val (v := .bool false) (xr_move rfl rfl) rfl rfl rfl ?_
  refine ol_gskip rfl rfl rfl rfl rfl rfl ?_
  refine ol_gskip rfl rfl rfl rfl rfl rfl ?_
  refine ol_gskip rfl rfl rfl rfl rfl rfl ?_
  refine ol_val (v := .bool false) (xr_pickF rfl rfl rfl rfl) rfl rfl rfl ?_
  refine ol_val (v := .bool false) (xr_move rfl rfl) rfl rfl rfl ?_
  refine ol_gskip rfl rfl rfl rfl rfl rfl ?_
  refine ol_gskip rfl rfl rfl rfl rfl rfl ?_
  refine ol_gskip rfl rfl rfl rfl rfl rfl ?_
  refine ol_val (v := .bool false) (xr_pickF rfl rfl rfl rfl) rfl rfl rfl ?_
  refine ol_val (v := .bool false) (xr_move rfl rfl) rfl rfl rfl ?_
  refine ol_gskip rfl rfl rfl rfl rfl rfl ?_
  refine ol_gskip rfl rfl rfl rfl rfl rfl ?_
  refine ol_gskip rfl rfl rfl rfl rfl rfl ?_
  refine ol_val (v := .bool false) (xr_pickF rfl rfl rfl rfl) rfl rfl rfl ?_
  refine ol_val (v := .bool false) (xr_assign rfl rfl) rfl rfl rfl ?_
  refine ol_nil ?_
  refine thn_i ?_
  exact ⟨(rfl).trans (congrArg (fun z => (.bool z : Value)) (show false = (if (decide (a0.Blocks ≥ 16)) = true then (if (decide (a0.Blocks ≤ 3072)) = true then (if (decide (a0.Slots ≥ 1)) = true then (if (decide (a0.Slots ≤ 1792)) = true then (if (decide (a0.Gens ≥ 1)) = true then (decide (a0.Gens ≤ 4294967295)) else false) else false) else false) else false) else false) from by rw [ite_f c7])), rfl⟩
 rintro ρ12 _ ⟨e2, rfl⟩
 refine cw_ret ?_
 repeat (first | with_reducible refine thn_r ?_ | with_reducible refine blk_r ?_)
 obtain rfl := Option.some.inj h
 refine fin_ret1 Try.results143 e2 ?_
 exact ⟨_, rfl, rfl, fB⟩
def super_Right_1__c.f (fu : Nat) (a0 : Int) (a1 : S_api_Super) : Option Bool := some ((if (decide (a0 ≥ 2)) = true then (decide (a0 < a1.Tickets.Geometry.Blocks)) else false))
theorem super_Right_1__c.ok (fu : Nat) (w : World) (a0 : Int) (a1 : S_api_Super) (G_1 : Nat) (V1_0 : Value) (R1_0 : Rd (kI .i64) w V1_0 a1.Charts) (b_1 : Blk w G_1 110 [(sI a1.Epoch), (sI a1.Tickets.Geometry.Blocks), (sI a1.Tickets.Geometry.Slots), (sI a1.Tickets.Geometry.Gens), (sI a1.Tickets.Top), (sI a1.Tickets.High), (sI a1.Tickets.Free), (sI a1.Dir), Seg.cell V1_0 R1_0.one]) (r : Bool) (h : super_Right_1__c.f fu a0 a1 = some r) :
  Calls Try.prog 144 (([.int .i64 a0, (pt G_1 0)] : List Value).toArray) w (fun e w' => ∃ v, e = .returned v ∧ v = .bool r ∧ Gr w w') := by
 unfold super_Right_1__c.f at h
 have fB : Gr w w := Fr.refl _ _
 refine calls_cw Try.func144 rfl Try.ntmps144 rfl ?_
 refine cw_seq ?_
 refine cw_region ?_
 refine ol_val (v := .bool false) (xr_assign rfl rfl) rfl rfl rfl ?_
 refine ol_nil ?_
 refine cw_seq ?_
 refine cw_mid (fun ρ' w' => ρ' 3 = .bool (if (decide (a0 ≥ 2)) = true then (decide (a0 < a1.Tickets.Geometry.Blocks)) else false) ∧ w = w') ?_ ?_
 ·skip
  refine cw_region ?_
  refine ol_val (v := .int .i64 a0) (xr_move rfl rfl) rfl rfl rfl ?_
  refine ol_val (v := .bool (decide (a0 ≥ 2))) (xr_geq rfl rfl rfl) rfl rfl rfl ?_
  refine ol_val (v := .bool (decide (a0 ≥ 2))) (xr_move rfl rfl) rfl rfl rfl ?_
  rcases bt (decide (a0 ≥ 2)) with c1 | c1
  ·skip
   refine ol_gval (v := .int .i64 a0) (xr_move rfl rfl) rfl rfl rfl rfl rfl c1 ?_
   refine ol_gval (v := (pt G_1 1)) (xr_fieldAddr (p := 0) (q := 1) rfl fl110_1 rfl) rfl rfl rfl rfl rfl c1 ?_
   refine ol_gval (v := (pt G_1 1)) (xr_fieldAddr (p := 1) (q := 0) rfl fl108_0 rfl) rfl rfl rfl rfl rfl c1 ?_
   refine ol_gval (v := (pt G_1 1)) (xr_fieldAddr (p := 1) (q := 0) rfl fl106_0 rfl) rfl rfl rfl rfl rfl c1 ?_
   refine ol_gval (v := .int .i64 a1.Tickets.Geometry.Blocks) (xr_load1 (v := .int .i64 a1.Tickets.Geometry.Blocks) rfl ag3 rfl (b_1.seg 1 rfl rfl)) rfl rfl rfl rfl rfl c1 ?_
   refine ol_gval (v := .bool (decide (a0 < a1.Tickets.Geometry.Blocks))) (xr_lss rfl rfl rfl) rfl rfl rfl rfl rfl c1 ?_
   refine ol_val (v := .bool (decide (a0 < a1.Tickets.Geometry.Blocks))) (xr_pickT rfl rfl c1 rfl) rfl rfl rfl ?_
   refine ol_val (v := .bool (decide (a0 < a1.Tickets.Geometry.Blocks))) (xr_assign rfl rfl) rfl rfl rfl ?_
   refine ol_nil ?_
   refine thn_i ?_
   exact ⟨(rfl).trans (congrArg (fun z => (.bool z : Value)) (show (decide (a0 < a1.Tickets.Geometry.Blocks)) = (if (decide (a0 ≥ 2)) = true then (decide (a0 < a1.Tickets.Geometry.Blocks)) else false) from by rw [ite_t c1])), rfl⟩
  refine ol_gskip rfl rfl rfl rfl rfl c1 ?_
  refine ol_gskip rfl rfl rfl rfl rfl c1 ?_
  refine ol_gskip rfl rfl rfl rfl rfl c1 ?_
  refine ol_gskip rfl rfl rfl rfl rfl c1 ?_
  refine ol_gskip rfl rfl rfl rfl rfl c1 ?_
  refine ol_gskip rfl rfl rfl rfl rfl c1 ?_
  refine ol_val (v := .bool false) (xr_pickF rfl rfl c1 rfl) rfl rfl rfl ?_
  refine ol_val (v := .bool false) (xr_assign rfl rfl) rfl rfl rfl ?_
  refine ol_nil ?_
  refine thn_i ?_
  exact ⟨(rfl).trans (congrArg (fun z => (.bool z : Value)) (show false = (if (decide (a0 ≥ 2)) = true then (decide (a0 < a1.Tickets.Geometry.Blocks)) else false) from by rw [ite_f c1])), rfl⟩
 rintro ρ2 _ ⟨e3, rfl⟩
 refine cw_ret ?_
 repeat (first | with_reducible refine thn_r ?_ | with_reducible refine blk_r ?_)
 obtain rfl := Option.some.inj h
 refine fin_ret1 Try.results144 e3 ?_
 exact ⟨_, rfl, rfl, fB⟩
def geom_up.f (fu : Nat) (a0 : Int) (a1 : Int) : Option Int := (if a1 ≠ 0 then some ((IntKind.i64.wrap (Int.tdiv (IntKind.i64.wrap ((IntKind.i64.wrap (a0 + a1)) - 1)) a1))) else none)
theorem geom_up.ok (fu : Nat) (w : World) (a0 : Int) (a1 : Int) (r : Int) (h : geom_up.f fu a0 a1 = some r) :
  Calls Try.prog 151 (([.int .i64 a0, .int .i64 a1] : List Value).toArray) w (fun e w' => ∃ v, e = .returned v ∧ v = .int .i64 r ∧ Gr w w') := by
 unfold geom_up.f at h
 have fB : Gr w w := Fr.refl _ _
 refine calls_cw Try.func151 rfl Try.ntmps151 rfl ?_
 refine cw_seq ?_
 refine cw_region ?_
 refine ol_val (v := .int .i64 0) (xr_assign rfl rfl) rfl rfl rfl ?_
 refine ol_nil ?_
 refine cw_seq ?_
 refine cw_region ?_
 refine ol_val (v := .int .i64 a0) (xr_move rfl rfl) rfl rfl rfl ?_
 refine ol_val (v := .int .i64 a1) (xr_move rfl rfl) rfl rfl rfl ?_
 refine ol_val (v := .int .i64 (IntKind.i64.wrap (a0 + a1))) (xr_add rfl rfl rfl) rfl rfl rfl ?_
 refine ol_val (v := .int .i64 (IntKind.i64.wrap ((IntKind.i64.wrap (a0 + a1)) - 1))) (xr_sub rfl rfl rfl) rfl rfl rfl ?_
 refine ol_val (v := .int .i64 a1) (xr_move rfl rfl) rfl rfl rfl ?_
 obtain ⟨g1, h⟩ := gs h
 refine ol_val (v := .int .i64 (IntKind.i64.wrap (Int.tdiv (IntKind.i64.wrap ((IntKind.i64.wrap (a0 + a1)) - 1)) a1))) (xr_quo rfl rfl rfl g1) rfl rfl rfl ?_
 refine ol_val (v := .int .i64 (IntKind.i64.wrap (Int.tdiv (IntKind.i64.wrap ((IntKind.i64.wrap (a0 + a1)) - 1)) a1))) (xr_assign rfl rfl) rfl rfl rfl ?_
 refine ol_nil ?_
 refine cw_ret ?_
 repeat (first | with_reducible refine thn_r ?_ | with_reducible refine blk_r ?_)
 obtain rfl := Option.some.inj h
 refine fin_ret1 Try.results151 rfl ?_
 exact ⟨_, rfl, rfl, fB⟩
def geom_Charts.f (fu : Nat) (a0 : S_api_Geometry) : Option Int := ((geom_Right.f fu a0).bind fun t7 => (if (!t7) = true then some (0) else ((geom_up.f fu a0.Blocks 384).bind fun t12 => some (t12))))
theorem geom_Charts.ok (fu : Nat) (w : World) (a0 : S_api_Geometry) (r : Int) (h : geom_Charts.f fu a0 = some r) :
  Calls Try.prog 145 (([aggV [(sI a0.Blocks), (sI a0.Slots), (sI a0.Gens)]] : List Value).toArray) w (fun e w' => ∃ v, e = .returned v ∧ v = .int .i64 r ∧ Gr w w') := by
 unfold geom_Charts.f at h
 have fB : Gr w w := Fr.refl _ _
 refine calls_cw Try.func145 rfl Try.ntmps145 rfl ?_
 refine cw_seq ?_
 refine cw_region ?_
 refine ol_op (opv_box (ss := [(sI a0.Blocks), (sI a0.Slots), (sI a0.Gens)]) rfl rfl rfl) rfl rfl rfl ?_
 rintro _ w6 ⟨G1, rfl, b2, q3, z4⟩
 have z4 := Nat.le_trans fB.size z4
 have fB := fB.gr q3
 refine ol_val (v := .int .i64 0) (xr_assign rfl rfl) rfl rfl rfl ?_
 refine ol_nil ?_
 refine cw_seq ?_
 refine cw_seq ?_
 refine cw_region ?_
 refine ol_val (v := aggV [(sI a0.Blocks), (sI a0.Slots), (sI a0.Gens)]) (xr_loadS (ss := [(sI a0.Blocks), (sI a0.Slots), (sI a0.Gens)]) rfl ag106 sz106 rfl rfl (b2.segs 0 3 rfl)) rfl rfl rfl ?_
 obtain ⟨t7, k8, h⟩ := bs h
 refine ol_op (opv_call rfl cal143 (ac rfl an) (geom_Right.ok fu _ a0 _ k8)) rfl rfl rfl ?_
 rintro _ w10 ⟨rfl, q9⟩
 have b2 := b2.gr q9
 have fB := fB.gr q9
 refine ol_val (v := .bool (!t7)) (xr_not rfl rfl) rfl rfl rfl ?_
 refine ol_nil ?_
 rcases is h with ⟨c11, h⟩ | ⟨c11, h⟩
 ·refine cw_condT rfl c11 ?_
  refine cw_seq ?_
  refine cw_region ?_
  refine ol_val (v := .int .i64 0) (xr_assign rfl rfl) rfl rfl rfl ?_
  refine ol_nil ?_
  refine cw_ret ?_
  repeat (first | with_reducible refine thn_r ?_ | with_reducible refine blk_r ?_)
  obtain rfl := Option.some.inj h
  refine fin_ret1 Try.results145 rfl ?_
  exact ⟨_, rfl, rfl, fB⟩
 refine cw_condF rfl c11 ?_
 refine cw_skip ?_
 refine cw_seq ?_
 refine cw_region ?_
 refine ol_val (v := (pt G1 0)) (xr_fieldAddr (p := 0) (q := 0) rfl fl106_0 rfl) rfl rfl rfl ?_
 refine ol_val (v := .int .i64 a0.Blocks) (xr_load1 (v := .int .i64 a0.Blocks) rfl ag3 rfl (b2.seg 0 rfl rfl)) rfl rfl rfl ?_
 obtain ⟨t12, k13, h⟩ := bs h
 refine ol_op (opv_call rfl cal151 (ac rfl (ac rfl an)) (geom_up.ok fu _ a0.Blocks 384 _ k13)) rfl rfl rfl ?_
 rintro _ w15 ⟨rfl, q14⟩
 have fB := fB.gr q14
 refine ol_val (v := .int .i64 t12) (xr_assign rfl rfl) rfl rfl rfl ?_
 refine ol_nil ?_
 refine cw_ret ?_
 repeat (first | with_reducible refine thn_r ?_ | with_reducible refine blk_r ?_)
 obtain rfl := Option.some.inj h
 refine fin_ret1 Try.results145 rfl ?_
 exact ⟨_, rfl, rfl, fB⟩
def slices_Index_2.s0 (fu : Nat) (a0 : List Int) (a1 : Int) : Int → Option (Sum (Sum Int Unit) Int) := fun s1 => (if (decide (s1 < (List.length a0 : Int))) = true then (if 0 ≤ s1 ∧ s1 < (List.length a0 : Int) then (if (decide (a1 = (ix a0 s1))) = true then some (Sum.inl (Sum.inl (s1))) else some (Sum.inr ((IntKind.i64.wrap (s1 + 1))))) else none) else some (Sum.inl (Sum.inr ())))
def slices_Index_2.f (fu : Nat) (a0 : List Int) (a1 : Int) : Option Int := ((loopM (slices_Index_2.s0 fu a0 a1) fu (0)).bind fun e2 => match e2 with | Sum.inl p => some p | Sum.inr x5 => some ((-1)))
theorem slices_Index_2.ok (fu : Nat) (w : World) (a0 : List Int) (V0_0 : Value) (R0_0 : Rd (kI .i64) w V0_0 a0) (a1 : Int) (r : Int) (h : slices_Index_2.f fu a0 a1 = some r) :
  Calls Try.prog 152 (([V0_0, .int .i64 a1] : List Value).toArray) w (fun e w' => ∃ v, e = .returned v ∧ v = .int .i64 r ∧ Gr w w') := by
 unfold slices_Index_2.f at h
 have fB : Gr w w := Fr.refl _ _
 refine calls_cw Try.func152 rfl Try.ntmps152 rfl ?_
 refine cw_seq ?_
 refine cw_region ?_
 refine ol_val (v := .int .i64 0) (xr_assign rfl rfl) rfl rfl rfl ?_
 refine ol_nil ?_
 refine cw_seq ?_
 refine cw_seq ?_
 refine cw_region ?_
 refine ol_val (v := V0_0) (xr_move rfl rfl) rfl rfl rfl ?_
 refine ol_val (v := .int .i64 (List.length a0 : Int)) (xr_lenR rfl Try.underlying25 rfl (R0_0.gr fB)) rfl rfl rfl ?_
 refine ol_val (v := .int .i64 0) (xr_move rfl rfl) rfl rfl rfl ?_
 refine ol_nil ?_
 obtain ⟨e2, l3, h4⟩ := bs h
 refine cw_mid (fun ρ' w' => ∃ x5, e2 = Sum.inr x5 ∧ Gr w w') ?_ ?_
 ·refine cw_block ?_
  refine cw_round (fun (s1 : Int) ρ' w' => ρ' 0 = V0_0 ∧ ρ' 1 = .int .i64 a1 ∧ ρ' 7 = .int .i64 (List.length a0 : Int) ∧ ρ' 8 = .int .i64 s1 ∧ Gr w w') l3 ?_ ?_
  ·skip
   exact ⟨rfl, rfl, rfl, rfl, fB⟩
  rintro s1 x8 ρ6 w7 ⟨e0, e1, e7, e8, fB⟩ h
  unfold slices_Index_2.s0 at h
  refine cw_seq ?_
  refine cw_region ?_
  refine ol_val (v := .bool (decide (s1 < (List.length a0 : Int)))) (xr_lss rfl e8 e7) rfl rfl rfl ?_
  refine ol_nil ?_
  refine cw_seq ?_
  rcases is h with ⟨c9, h⟩ | ⟨c9, h⟩
  ·refine cw_condT rfl c9 ?_
   refine cw_skip ?_
   refine cw_seq ?_
   refine cw_block ?_
   refine cw_seq ?_
   refine cw_region ?_
   refine ol_val (v := .int .i64 s1) (xr_move rfl e8) rfl rfl rfl ?_
   refine ol_val (v := .int .i64 s1) (xr_assign rfl rfl) rfl rfl rfl ?_
   refine ol_nil ?_
   refine cw_seq ?_
   refine cw_region ?_
   refine ol_val (v := .int .i64 a1) (xr_move rfl e1) rfl rfl rfl ?_
   refine ol_val (v := V0_0) (xr_move rfl e0) rfl rfl rfl ?_
   refine ol_val (v := .int .i64 s1) (xr_move rfl rfl) rfl rfl rfl ?_
   obtain ⟨g10, h⟩ := gs h
   refine ol_val (v := (pt ((sb V0_0)) (so V0_0 + Int.toNat s1 * 1))) (xr_indexR (K := (kI .i64)) (v := V0_0) rfl Try.underlying25 sz3 rfl (R0_0.gr fB) rfl g10.1 g10.2) rfl rfl rfl ?_
   refine ol_val (v := .int .i64 (ix a0 s1)) (xr_load1 (v := .int .i64 (ix a0 s1)) rfl ag3 rfl ((R0_0.gr fB).elem g10.1 g10.2)) rfl rfl rfl ?_
   refine ol_val (v := .bool (decide (a1 = (ix a0 s1)))) (xr_eqI rfl Try.underlying3 rfl rfl rfl) rfl rfl rfl ?_
   refine ol_nil ?_
   rcases is h with ⟨c11, h⟩ | ⟨c11, h⟩
   ·refine cw_condT rfl c11 ?_
    refine cw_seq ?_
    refine cw_region ?_
    refine ol_val (v := .int .i64 s1) (xr_move rfl rfl) rfl rfl rfl ?_
    refine ol_val (v := .int .i64 s1) (xr_assign rfl rfl) rfl rfl rfl ?_
    refine ol_nil ?_
    refine cw_ret ?_
    repeat (first | with_reducible refine thn_r ?_ | with_reducible refine blk_r ?_)
    obtain rfl := Option.some.inj h
    refine lp_ret ?_
    rintro rfl
    repeat (first | with_reducible refine thn_r ?_ | with_reducible refine blk_r ?_)
    have h := h4
    obtain rfl := Option.some.inj h
    refine fin_ret1 Try.results152 rfl ?_
    exact ⟨_, rfl, rfl, fB⟩
   refine cw_condF rfl c11 ?_
   refine cw_skip ?_
   refine blk_i ?_
   refine cw_region ?_
   refine ol_val (v := .int .i64 (IntKind.i64.wrap (s1 + 1))) (xr_add rfl e8 rfl) rfl rfl rfl ?_
   refine ol_val (v := .int .i64 (IntKind.i64.wrap (s1 + 1))) (xr_move rfl rfl) rfl rfl rfl ?_
   refine ol_nil ?_
   obtain rfl := Option.some.inj h
   refine lp_in ?_
   exact ⟨e0, e1, e7, rfl, fB⟩
  refine cw_condF rfl c9 ?_
  refine cw_exit ?_
  repeat (first | with_reducible refine thn_e ?_ | with_reducible refine blk_e rfl ?_)
  obtain rfl := Option.some.inj h
  refine lp_exit ?_
  rintro rfl
  refine thn_x ?_
  exact ⟨_, rfl, fB⟩
 rintro ρ12 w13 ⟨x5, rfl, fB⟩
 have h := h4
 refine cw_seq ?_
 refine cw_region ?_
 refine ol_val (v := .int .i64 (-1)) (xr_assign rfl rfl) rfl rfl rfl ?_
 refine ol_nil ?_
 refine cw_ret ?_
 repeat (first | with_reducible refine thn_r ?_ | with_reducible refine blk_r ?_)
 obtain rfl := Option.some.inj h
 refine fin_ret1 Try.results152 rfl ?_
 exact ⟨_, rfl, rfl, fB⟩
def slices_Contains_2.f (fu : Nat) (a0 : List Int) (a1 : Int) : Option Bool := ((slices_Index_2.f fu a0 a1).bind fun t1 => some ((decide (t1 ≥ 0))))
theorem slices_Contains_2.ok (fu : Nat) (w : World) (a0 : List Int) (V0_0 : Value) (R0_0 : Rd (kI .i64) w V0_0 a0) (a1 : Int) (r : Bool) (h : slices_Contains_2.f fu a0 a1 = some r) :
  Calls Try.prog 146 (([V0_0, .int .i64 a1] : List Value).toArray) w (fun e w' => ∃ v, e = .returned v ∧ v = .bool r ∧ Gr w w') := by
 unfold slices_Contains_2.f at h
 have fB : Gr w w := Fr.refl _ _
 refine calls_cw Try.func146 rfl Try.ntmps146 rfl ?_
 refine cw_seq ?_
 refine cw_region ?_
 refine ol_val (v := .bool false) (xr_assign rfl rfl) rfl rfl rfl ?_
 refine ol_nil ?_
 refine cw_seq ?_
 refine cw_region ?_
 refine ol_val (v := V0_0) (xr_move rfl rfl) rfl rfl rfl ?_
 refine ol_val (v := .int .i64 a1) (xr_move rfl rfl) rfl rfl rfl ?_
 obtain ⟨t1, k2, h⟩ := bs h
 refine ol_op (opv_call rfl cal152 (ac rfl (ac rfl an)) (slices_Index_2.ok fu _ a0 V0_0 (R0_0.gr fB) a1 _ k2)) rfl rfl rfl ?_
 rintro _ w4 ⟨rfl, q3⟩
 have fB := fB.gr q3
 refine ol_val (v := .bool (decide (t1 ≥ 0))) (xr_geq rfl rfl rfl) rfl rfl rfl ?_
 refine ol_val (v := .bool (decide (t1 ≥ 0))) (xr_assign rfl rfl) rfl rfl rfl ?_
 refine ol_nil ?_
 refine cw_ret ?_
 repeat (first | with_reducible refine thn_r ?_ | with_reducible refine blk_r ?_)
 obtain rfl := Option.some.inj h
 refine fin_ret1 Try.results146 rfl ?_
 exact ⟨_, rfl, rfl, fB⟩
end Go.Proofs.Ytklhbaghbmndeaa
