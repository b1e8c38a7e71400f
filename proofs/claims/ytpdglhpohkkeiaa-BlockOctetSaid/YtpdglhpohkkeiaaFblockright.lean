/- rickyard/block.right: its model, and that the Go function computes it: written by gen.py. -/
import Derived.Test.YtpdglhpohkkeiaaBase
import Derived.Test.YtpdglhpohkkeiaaFoctetNoughts
import Derived.Test.YtpdglhpohkkeiaaFoctetRead
import Derived.Test.YtpdglhpohkkeiaaFcrcFits
set_option linter.unusedVariables false
namespace Go.Proofs.Ytpdglhpohkkeiaa
open Go Go.Xw
def block_right.f (fu : Nat) (a0 : List Int) : Option Bool := (((if (decide ((List.length a0 : Int) = 64)) = true then (if (4 : Int) < (List.length a0 : Int) then (if (!decide ((ix a0 4) = 0)) = true then ((octet_Noughts.f fu a0 6 2 : Option Bool).bind fun t6 => (if t6 = true then (if (4 : Int) ≤ (List.length a0 : Int) then ((octet_Read.f fu (cut a0 0 4) : Option Int).bind fun t13 => (if (4 : Int) ≤ (List.length a0 : Int) then ((crc_Fits.f fu (IntKind.u32.wrap t13) [(cut a0 4 (List.length a0 : Int))] : Option Bool).bind fun t22 => some (t22)) else none)) else none) else some (false))) else some (false)) else none) else some (false)) : Option Bool).bind fun x1 => some (x1))
set_option maxRecDepth 100000 in
set_option maxHeartbeats 400000 in
theorem block_right.ok (fu : Nat) (w : World) (a0 : List Int) (V0_0 : Value) (R0_0 : Rd (kI .u8) w V0_0 a0) (r : Bool) (h : block_right.f fu a0 = some r) :
    Calls Try.prog 100 (([V0_0] : List Value).toArray) w (fun e w' => ∃ v, e = .returned v ∧ v = .bool r ∧ Gr w w') := by
  unfold block_right.f at h
  have fB : Gr w w := Fr.refl _ _
  refine calls_cw Try.func100 rfl Try.ntmps100 rfl ?_
  refine cw_seq ?_
  refine cw_region ?_
  refine ol_val (v := .bool false) (by exact xr_assign rfl rfl) rfl rfl rfl ?_
  refine ol_nil ?_
  refine cw_seq ?_
  obtain ⟨x1, j2, h⟩ := bs h
  refine cw_mid (fun ρ' w' => ρ' 2 = .bool x1 ∧ Gr w w') ?_ ?_
  · skip
    rcases is j2 with ⟨c3, j2⟩ | ⟨c3, j2⟩
    · skip
      obtain ⟨g4, j2⟩ := gs j2
      rcases is j2 with ⟨c5, j2⟩ | ⟨c5, j2⟩
      · skip
        obtain ⟨t6, k7, j2⟩ := bs j2
        rcases is j2 with ⟨c9, j2⟩ | ⟨c9, j2⟩
        · skip
          obtain ⟨g11, j2⟩ := gs j2
          obtain ⟨t13, k14, j2⟩ := bs j2
          obtain ⟨g17, j2⟩ := gs j2
          obtain ⟨t22, k23, j2⟩ := bs j2
          refine cw_drawL 23 [fun vz wz => vz = (V0_0 : Value), fun vz wz => vz = (.int .i64 (List.length a0 : Int) : Value), fun vz wz => vz = (.bool (decide ((List.length a0 : Int) = 64)) : Value), fun vz wz => vz = (.bool (decide ((List.length a0 : Int) = 64)) : Value), fun vz wz => vz = (V0_0 : Value), fun vz wz => vz = (.pointer (some ⟨(sb V0_0), so V0_0 + Int.toNat 4 * 1, none⟩) : Value), fun vz wz => vz = (.int .u8 (ix a0 4) : Value), fun vz wz => vz = (.bool (!decide ((ix a0 4) = 0)) : Value), fun vz wz => vz = (.bool (!decide ((ix a0 4) = 0)) : Value), fun vz wz => vz = (.bool (!decide ((ix a0 4) = 0)) : Value), fun vz wz => vz = (V0_0 : Value), fun vz wz => vz = (.bool t6 : Value), fun vz wz => vz = (.bool t6 : Value), fun vz wz => vz = (.bool t6 : Value), fun vz wz => vz = (V0_0 : Value), fun vz wz => ∃ u12 : Value, ∃ r10 : Rd (kI .u8) wz u12 (cut a0 0 4), vz = (u12 : Value), fun vz wz => vz = (.int .u64 t13 : Value), fun vz wz => vz = (.int .u32 (IntKind.u32.wrap t13) : Value), fun vz wz => vz = (V0_0 : Value), fun vz wz => ∃ u18 : Value, ∃ r16 : Rd (kI .u8) wz u18 (cut a0 4 (List.length a0 : Int)), vz = (u18 : Value), fun vz wz => ∃ v19 : Value, ∃ r21 : Rds (kI .u8) wz v19 [(cut a0 4 (List.length a0 : Int))], vz = (v19 : Value), fun vz wz => vz = (.bool t22 : Value), fun vz wz => vz = (.bool t22 : Value)] mo rfl ⟨fun _ _ _ h _ => h, fun _ _ _ h _ => h, fun _ _ _ h _ => h, fun _ _ _ h _ => h, fun _ _ _ h _ => h, fun _ _ _ h _ => h, fun _ _ _ h _ => h, fun _ _ _ h _ => h, fun _ _ _ h _ => h, fun _ _ _ h _ => h, fun _ _ _ h _ => h, fun _ _ _ h _ => h, fun _ _ _ h _ => h, fun _ _ _ h _ => h, fun _ _ _ h _ => h, fun _ _ _ ⟨u12, r10, h⟩ q => ⟨u12, r10.gr q, h⟩, fun _ _ _ h _ => h, fun _ _ _ h _ => h, fun _ _ _ h _ => h, fun _ _ _ ⟨u18, r16, h⟩ q => ⟨u18, r16.gr q, h⟩, fun _ _ _ ⟨v19, r21, h⟩ q => ⟨v19, r21.gr q, h⟩, fun _ _ _ h _ => h, fun _ _ _ h _ => h, trivial⟩ ?_ ?_
          · refine ⟨?_, ?_, ?_, ?_, ?_, ?_, ?_, ?_, ?_, ?_, ?_, ?_, ?_, ?_, ?_, ?_, ?_, ?_, ?_, ?_, ?_, ?_, ?_, trivial⟩
            · intro ρz wz hz hk hd
              exact sk_val (v := V0_0) (by exact xr_move rfl ((hk 0 rfl).trans rfl)) rfl rfl
            · intro ρz wz hz hk hd
              have d3 := hd 0 rfl 3 rfl
              exact sk_val (v := .int .i64 (List.length a0 : Int)) (by exact xr_lenR rfl Try.underlying38 d3 (R0_0.gr (fB.gr hz))) rfl rfl
            · intro ρz wz hz hk hd
              have d4 := hd 1 rfl 4 rfl
              exact sk_val (v := .bool (decide ((List.length a0 : Int) = 64))) (by exact xr_eqI rfl Try.underlying3 rfl d4 rfl) rfl rfl
            · intro ρz wz hz hk hd
              have d5 := hd 2 rfl 5 rfl
              exact sk_val (v := .bool (decide ((List.length a0 : Int) = 64))) (by exact xr_move rfl d5) rfl rfl
            · intro ρz wz hz hk hd
              have d6 := hd 3 rfl 6 rfl
              exact sk_gval (v := V0_0) (by exact xr_move rfl ((hk 0 rfl).trans rfl)) rfl rfl d6 c3 rfl
            · intro ρz wz hz hk hd
              have d7 := hd 4 rfl 7 rfl
              have d6 := hd 3 rfl 6 rfl
              exact sk_gval (by exact xr_indexR (K := (kI .u8)) (v := V0_0) rfl Try.underlying38 sz5 d7 (R0_0.gr (fB.gr hz)) rfl (by decide) g4) rfl rfl d6 c3 rfl
            · intro ρz wz hz hk hd
              have d8 := hd 5 rfl 8 rfl
              have d6 := hd 3 rfl 6 rfl
              exact sk_gval (v := .int .u8 (ix a0 4)) (by exact xr_load1 (v := .int .u8 (ix a0 4)) rfl ag5 d8 ((R0_0.gr (fB.gr hz)).elem (by decide) g4)) rfl rfl d6 c3 rfl
            · intro ρz wz hz hk hd
              have d9 := hd 6 rfl 9 rfl
              have d6 := hd 3 rfl 6 rfl
              exact sk_gval (v := .bool (!decide ((ix a0 4) = 0))) (by exact xr_neI rfl Try.underlying5 rfl d9 rfl) rfl rfl d6 c3 rfl
            · intro ρz wz hz hk hd
              have d6 := hd 3 rfl 6 rfl
              have d10 := hd 7 rfl 10 rfl
              exact sk_val (v := .bool (!decide ((ix a0 4) = 0))) (by exact xr_pickT rfl d6 c3 d10) rfl rfl
            · intro ρz wz hz hk hd
              have d11 := hd 8 rfl 11 rfl
              exact sk_val (v := .bool (!decide ((ix a0 4) = 0))) (by exact xr_move rfl d11) rfl rfl
            · intro ρz wz hz hk hd
              have d12 := hd 9 rfl 12 rfl
              exact sk_gval (v := V0_0) (by exact xr_move rfl ((hk 0 rfl).trans rfl)) rfl rfl d12 c5 rfl
            · intro ρz wz hz hk hd
              have d13 := hd 10 rfl 13 rfl
              have d12 := hd 9 rfl 12 rfl
              refine sk_gop (by exact opv_call rfl cal104 (ac d13 (ac rfl (ac rfl an))) (octet_Noughts.ok fu _ a0 V0_0 (R0_0.gr (fB.gr hz)) 6 2 _ k7)) rfl rfl d12 c5 ?_
              rintro _ wy ⟨rfl, q8⟩
              exact ⟨rfl, q8⟩
            · intro ρz wz hz hk hd
              have d12 := hd 9 rfl 12 rfl
              have d14 := hd 11 rfl 14 rfl
              exact sk_val (v := .bool t6) (by exact xr_pickT rfl d12 c5 d14) rfl rfl
            · intro ρz wz hz hk hd
              have d15 := hd 12 rfl 15 rfl
              exact sk_val (v := .bool t6) (by exact xr_move rfl d15) rfl rfl
            · intro ρz wz hz hk hd
              have d16 := hd 13 rfl 16 rfl
              exact sk_gval (v := V0_0) (by exact xr_move rfl ((hk 0 rfl).trans rfl)) rfl rfl d16 c9 rfl
            · intro ρz wz hz hk hd
              have d17 := hd 14 rfl 17 rfl
              have d16 := hd 13 rfl 16 rfl
              exact sk_gval (by exact xr_slice_h (K := (kI .u8)) (v := V0_0) rfl Try.underlying38 sz5 d17 (R0_0.gr (fB.gr hz)) rfl (by decide) g11) rfl rfl d16 c9 ⟨_, (R0_0.gr (fB.gr hz)).cut (lo := 0) (hi := 4) (by decide) (by decide) g11, rfl⟩
            · intro ρz wz hz hk hd
              obtain ⟨u12, r10, d18⟩ := hd 15 rfl 18 rfl
              have d16 := hd 13 rfl 16 rfl
              refine sk_gop (by exact opv_call rfl cal107 (ac d18 an) (octet_Read.ok fu _ (cut a0 0 4) u12 (r10) _ k14)) rfl rfl d16 c9 ?_
              rintro _ wy ⟨rfl, q15⟩
              exact ⟨rfl, q15⟩
            · intro ρz wz hz hk hd
              have d19 := hd 16 rfl 19 rfl
              have d16 := hd 13 rfl 16 rfl
              exact sk_gval (v := .int .u32 (IntKind.u32.wrap t13)) (by exact xr_conv rfl Try.underlying132 Try.underlying51 d19) rfl rfl d16 c9 rfl
            · intro ρz wz hz hk hd
              have d16 := hd 13 rfl 16 rfl
              exact sk_gval (v := V0_0) (by exact xr_move rfl ((hk 0 rfl).trans rfl)) rfl rfl d16 c9 rfl
            · intro ρz wz hz hk hd
              have d21 := hd 18 rfl 21 rfl
              have d16 := hd 13 rfl 16 rfl
              exact sk_gval (by exact xr_slice_l (K := (kI .u8)) (v := V0_0) rfl Try.underlying38 sz5 d21 (R0_0.gr (fB.gr hz)) rfl (by decide) g17) rfl rfl d16 c9 ⟨_, (R0_0.gr (fB.gr hz)).cut (lo := 4) (hi := (List.length a0 : Int)) (by decide) g17 (Int.le_refl _), rfl⟩
            · intro ρz wz hz hk hd
              obtain ⟨u18, r16, d22⟩ := hd 19 rfl 22 rfl
              have d16 := hd 13 rfl 16 rfl
              refine sk_gop (by exact opv_build1 rfl Try.underlying157 el38 rfl r16 d22) rfl rfl d16 c9 ?_
              rintro v19 wy ⟨r21, q20⟩
              exact ⟨⟨v19, r21, rfl⟩, q20⟩
            · intro ρz wz hz hk hd
              have d20 := hd 17 rfl 20 rfl
              obtain ⟨v19, r21, d23⟩ := hd 20 rfl 23 rfl
              have d16 := hd 13 rfl 16 rfl
              refine sk_gop (by exact opv_call rfl cal131 (ac d20 (ac d23 an)) (crc_Fits.ok fu _ (IntKind.u32.wrap t13) [(cut a0 4 (List.length a0 : Int))] v19 (r21) _ k23)) rfl rfl d16 c9 ?_
              rintro _ wy ⟨rfl, q24⟩
              exact ⟨rfl, q24⟩
            · intro ρz wz hz hk hd
              have d16 := hd 13 rfl 16 rfl
              have d24 := hd 21 rfl 24 rfl
              exact sk_val (v := .bool t22) (by exact xr_pickT rfl d16 c9 d24) rfl rfl
          · intro ρ25 w26 q27 hk hd
            have e25 := hd 22 rfl 25 rfl
            have fB := fB.gr q27
            refine ol_val (v := .bool t22) (by exact xr_assign rfl e25) rfl rfl rfl ?_
            refine ol_nil ?_
            obtain rfl := Option.some.inj j2
            refine thn_i ?_
            exact ⟨rfl, q27⟩
        · skip
          refine cw_drawL 23 [fun vz wz => vz = (V0_0 : Value), fun vz wz => vz = (.int .i64 (List.length a0 : Int) : Value), fun vz wz => vz = (.bool (decide ((List.length a0 : Int) = 64)) : Value), fun vz wz => vz = (.bool (decide ((List.length a0 : Int) = 64)) : Value), fun vz wz => vz = (V0_0 : Value), fun vz wz => vz = (.pointer (some ⟨(sb V0_0), so V0_0 + Int.toNat 4 * 1, none⟩) : Value), fun vz wz => vz = (.int .u8 (ix a0 4) : Value), fun vz wz => vz = (.bool (!decide ((ix a0 4) = 0)) : Value), fun vz wz => vz = (.bool (!decide ((ix a0 4) = 0)) : Value), fun vz wz => vz = (.bool (!decide ((ix a0 4) = 0)) : Value), fun vz wz => vz = (V0_0 : Value), fun vz wz => vz = (.bool t6 : Value), fun vz wz => vz = (.bool t6 : Value), fun vz wz => vz = (.bool t6 : Value), fun _ _ => True, fun _ _ => True, fun _ _ => True, fun _ _ => True, fun _ _ => True, fun _ _ => True, fun _ _ => True, fun _ _ => True, fun vz wz => vz = (.bool false : Value)] mo rfl ⟨fun _ _ _ h _ => h, fun _ _ _ h _ => h, fun _ _ _ h _ => h, fun _ _ _ h _ => h, fun _ _ _ h _ => h, fun _ _ _ h _ => h, fun _ _ _ h _ => h, fun _ _ _ h _ => h, fun _ _ _ h _ => h, fun _ _ _ h _ => h, fun _ _ _ h _ => h, fun _ _ _ h _ => h, fun _ _ _ h _ => h, fun _ _ _ h _ => h, fun _ _ _ h _ => h, fun _ _ _ h _ => h, fun _ _ _ h _ => h, fun _ _ _ h _ => h, fun _ _ _ h _ => h, fun _ _ _ h _ => h, fun _ _ _ h _ => h, fun _ _ _ h _ => h, fun _ _ _ h _ => h, trivial⟩ ?_ ?_
          · refine ⟨?_, ?_, ?_, ?_, ?_, ?_, ?_, ?_, ?_, ?_, ?_, ?_, ?_, ?_, ?_, ?_, ?_, ?_, ?_, ?_, ?_, ?_, ?_, trivial⟩
            · intro ρz wz hz hk hd
              exact sk_val (v := V0_0) (by exact xr_move rfl ((hk 0 rfl).trans rfl)) rfl rfl
            · intro ρz wz hz hk hd
              have d3 := hd 0 rfl 3 rfl
              exact sk_val (v := .int .i64 (List.length a0 : Int)) (by exact xr_lenR rfl Try.underlying38 d3 (R0_0.gr (fB.gr hz))) rfl rfl
            · intro ρz wz hz hk hd
              have d4 := hd 1 rfl 4 rfl
              exact sk_val (v := .bool (decide ((List.length a0 : Int) = 64))) (by exact xr_eqI rfl Try.underlying3 rfl d4 rfl) rfl rfl
            · intro ρz wz hz hk hd
              have d5 := hd 2 rfl 5 rfl
              exact sk_val (v := .bool (decide ((List.length a0 : Int) = 64))) (by exact xr_move rfl d5) rfl rfl
            · intro ρz wz hz hk hd
              have d6 := hd 3 rfl 6 rfl
              exact sk_gval (v := V0_0) (by exact xr_move rfl ((hk 0 rfl).trans rfl)) rfl rfl d6 c3 rfl
            · intro ρz wz hz hk hd
              have d7 := hd 4 rfl 7 rfl
              have d6 := hd 3 rfl 6 rfl
              exact sk_gval (by exact xr_indexR (K := (kI .u8)) (v := V0_0) rfl Try.underlying38 sz5 d7 (R0_0.gr (fB.gr hz)) rfl (by decide) g4) rfl rfl d6 c3 rfl
            · intro ρz wz hz hk hd
              have d8 := hd 5 rfl 8 rfl
              have d6 := hd 3 rfl 6 rfl
              exact sk_gval (v := .int .u8 (ix a0 4)) (by exact xr_load1 (v := .int .u8 (ix a0 4)) rfl ag5 d8 ((R0_0.gr (fB.gr hz)).elem (by decide) g4)) rfl rfl d6 c3 rfl
            · intro ρz wz hz hk hd
              have d9 := hd 6 rfl 9 rfl
              have d6 := hd 3 rfl 6 rfl
              exact sk_gval (v := .bool (!decide ((ix a0 4) = 0))) (by exact xr_neI rfl Try.underlying5 rfl d9 rfl) rfl rfl d6 c3 rfl
            · intro ρz wz hz hk hd
              have d6 := hd 3 rfl 6 rfl
              have d10 := hd 7 rfl 10 rfl
              exact sk_val (v := .bool (!decide ((ix a0 4) = 0))) (by exact xr_pickT rfl d6 c3 d10) rfl rfl
            · intro ρz wz hz hk hd
              have d11 := hd 8 rfl 11 rfl
              exact sk_val (v := .bool (!decide ((ix a0 4) = 0))) (by exact xr_move rfl d11) rfl rfl
            · intro ρz wz hz hk hd
              have d12 := hd 9 rfl 12 rfl
              exact sk_gval (v := V0_0) (by exact xr_move rfl ((hk 0 rfl).trans rfl)) rfl rfl d12 c5 rfl
            · intro ρz wz hz hk hd
              have d13 := hd 10 rfl 13 rfl
              have d12 := hd 9 rfl 12 rfl
              refine sk_gop (by exact opv_call rfl cal104 (ac d13 (ac rfl (ac rfl an))) (octet_Noughts.ok fu _ a0 V0_0 (R0_0.gr (fB.gr hz)) 6 2 _ k7)) rfl rfl d12 c5 ?_
              rintro _ wy ⟨rfl, q8⟩
              exact ⟨rfl, q8⟩
            · intro ρz wz hz hk hd
              have d12 := hd 9 rfl 12 rfl
              have d14 := hd 11 rfl 14 rfl
              exact sk_val (v := .bool t6) (by exact xr_pickT rfl d12 c5 d14) rfl rfl
            · intro ρz wz hz hk hd
              have d15 := hd 12 rfl 15 rfl
              exact sk_val (v := .bool t6) (by exact xr_move rfl d15) rfl rfl
            · intro ρz wz hz hk hd
              have d16 := hd 13 rfl 16 rfl
              exact sk_skip rfl rfl d16 c9 trivial
            · intro ρz wz hz hk hd
              have d16 := hd 13 rfl 16 rfl
              exact sk_skip rfl rfl d16 c9 trivial
            · intro ρz wz hz hk hd
              have d16 := hd 13 rfl 16 rfl
              exact sk_skip rfl rfl d16 c9 trivial
            · intro ρz wz hz hk hd
              have d16 := hd 13 rfl 16 rfl
              exact sk_skip rfl rfl d16 c9 trivial
            · intro ρz wz hz hk hd
              have d16 := hd 13 rfl 16 rfl
              exact sk_skip rfl rfl d16 c9 trivial
            · intro ρz wz hz hk hd
              have d16 := hd 13 rfl 16 rfl
              exact sk_skip rfl rfl d16 c9 trivial
            · intro ρz wz hz hk hd
              have d16 := hd 13 rfl 16 rfl
              exact sk_skip rfl rfl d16 c9 trivial
            · intro ρz wz hz hk hd
              have d16 := hd 13 rfl 16 rfl
              exact sk_skip rfl rfl d16 c9 trivial
            · intro ρz wz hz hk hd
              have d16 := hd 13 rfl 16 rfl
              exact sk_val (v := .bool false) (by exact xr_pickF rfl d16 c9 rfl) rfl rfl
          · intro ρ28 w29 q30 hk hd
            have e25 := hd 22 rfl 25 rfl
            have fB := fB.gr q30
            refine ol_val (v := .bool false) (by exact xr_assign rfl e25) rfl rfl rfl ?_
            refine ol_nil ?_
            obtain rfl := Option.some.inj j2
            refine thn_i ?_
            exact ⟨rfl, q30⟩
      · skip
        refine cw_drawL 23 [fun vz wz => vz = (V0_0 : Value), fun vz wz => vz = (.int .i64 (List.length a0 : Int) : Value), fun vz wz => vz = (.bool (decide ((List.length a0 : Int) = 64)) : Value), fun vz wz => vz = (.bool (decide ((List.length a0 : Int) = 64)) : Value), fun vz wz => vz = (V0_0 : Value), fun vz wz => vz = (.pointer (some ⟨(sb V0_0), so V0_0 + Int.toNat 4 * 1, none⟩) : Value), fun vz wz => vz = (.int .u8 (ix a0 4) : Value), fun vz wz => vz = (.bool (!decide ((ix a0 4) = 0)) : Value), fun vz wz => vz = (.bool (!decide ((ix a0 4) = 0)) : Value), fun vz wz => vz = (.bool (!decide ((ix a0 4) = 0)) : Value), fun _ _ => True, fun _ _ => True, fun vz wz => vz = (.bool false : Value), fun vz wz => vz = (.bool false : Value), fun _ _ => True, fun _ _ => True, fun _ _ => True, fun _ _ => True, fun _ _ => True, fun _ _ => True, fun _ _ => True, fun _ _ => True, fun vz wz => vz = (.bool false : Value)] mo rfl ⟨fun _ _ _ h _ => h, fun _ _ _ h _ => h, fun _ _ _ h _ => h, fun _ _ _ h _ => h, fun _ _ _ h _ => h, fun _ _ _ h _ => h, fun _ _ _ h _ => h, fun _ _ _ h _ => h, fun _ _ _ h _ => h, fun _ _ _ h _ => h, fun _ _ _ h _ => h, fun _ _ _ h _ => h, fun _ _ _ h _ => h, fun _ _ _ h _ => h, fun _ _ _ h _ => h, fun _ _ _ h _ => h, fun _ _ _ h _ => h, fun _ _ _ h _ => h, fun _ _ _ h _ => h, fun _ _ _ h _ => h, fun _ _ _ h _ => h, fun _ _ _ h _ => h, fun _ _ _ h _ => h, trivial⟩ ?_ ?_
        · refine ⟨?_, ?_, ?_, ?_, ?_, ?_, ?_, ?_, ?_, ?_, ?_, ?_, ?_, ?_, ?_, ?_, ?_, ?_, ?_, ?_, ?_, ?_, ?_, trivial⟩
          · intro ρz wz hz hk hd
            exact sk_val (v := V0_0) (by exact xr_move rfl ((hk 0 rfl).trans rfl)) rfl rfl
          · intro ρz wz hz hk hd
            have d3 := hd 0 rfl 3 rfl
            exact sk_val (v := .int .i64 (List.length a0 : Int)) (by exact xr_lenR rfl Try.underlying38 d3 (R0_0.gr (fB.gr hz))) rfl rfl
          · intro ρz wz hz hk hd
            have d4 := hd 1 rfl 4 rfl
            exact sk_val (v := .bool (decide ((List.length a0 : Int) = 64))) (by exact xr_eqI rfl Try.underlying3 rfl d4 rfl) rfl rfl
          · intro ρz wz hz hk hd
            have d5 := hd 2 rfl 5 rfl
            exact sk_val (v := .bool (decide ((List.length a0 : Int) = 64))) (by exact xr_move rfl d5) rfl rfl
          · intro ρz wz hz hk hd
            have d6 := hd 3 rfl 6 rfl
            exact sk_gval (v := V0_0) (by exact xr_move rfl ((hk 0 rfl).trans rfl)) rfl rfl d6 c3 rfl
          · intro ρz wz hz hk hd
            have d7 := hd 4 rfl 7 rfl
            have d6 := hd 3 rfl 6 rfl
            exact sk_gval (by exact xr_indexR (K := (kI .u8)) (v := V0_0) rfl Try.underlying38 sz5 d7 (R0_0.gr (fB.gr hz)) rfl (by decide) g4) rfl rfl d6 c3 rfl
          · intro ρz wz hz hk hd
            have d8 := hd 5 rfl 8 rfl
            have d6 := hd 3 rfl 6 rfl
            exact sk_gval (v := .int .u8 (ix a0 4)) (by exact xr_load1 (v := .int .u8 (ix a0 4)) rfl ag5 d8 ((R0_0.gr (fB.gr hz)).elem (by decide) g4)) rfl rfl d6 c3 rfl
          · intro ρz wz hz hk hd
            have d9 := hd 6 rfl 9 rfl
            have d6 := hd 3 rfl 6 rfl
            exact sk_gval (v := .bool (!decide ((ix a0 4) = 0))) (by exact xr_neI rfl Try.underlying5 rfl d9 rfl) rfl rfl d6 c3 rfl
          · intro ρz wz hz hk hd
            have d6 := hd 3 rfl 6 rfl
            have d10 := hd 7 rfl 10 rfl
            exact sk_val (v := .bool (!decide ((ix a0 4) = 0))) (by exact xr_pickT rfl d6 c3 d10) rfl rfl
          · intro ρz wz hz hk hd
            have d11 := hd 8 rfl 11 rfl
            exact sk_val (v := .bool (!decide ((ix a0 4) = 0))) (by exact xr_move rfl d11) rfl rfl
          · intro ρz wz hz hk hd
            have d12 := hd 9 rfl 12 rfl
            exact sk_skip rfl rfl d12 c5 trivial
          · intro ρz wz hz hk hd
            have d12 := hd 9 rfl 12 rfl
            exact sk_skip rfl rfl d12 c5 trivial
          · intro ρz wz hz hk hd
            have d12 := hd 9 rfl 12 rfl
            exact sk_val (v := .bool false) (by exact xr_pickF rfl d12 c5 rfl) rfl rfl
          · intro ρz wz hz hk hd
            have d15 := hd 12 rfl 15 rfl
            exact sk_val (v := .bool false) (by exact xr_move rfl d15) rfl rfl
          · intro ρz wz hz hk hd
            have d16 := hd 13 rfl 16 rfl
            exact sk_skip rfl rfl d16 rfl trivial
          · intro ρz wz hz hk hd
            have d16 := hd 13 rfl 16 rfl
            exact sk_skip rfl rfl d16 rfl trivial
          · intro ρz wz hz hk hd
            have d16 := hd 13 rfl 16 rfl
            exact sk_skip rfl rfl d16 rfl trivial
          · intro ρz wz hz hk hd
            have d16 := hd 13 rfl 16 rfl
            exact sk_skip rfl rfl d16 rfl trivial
          · intro ρz wz hz hk hd
            have d16 := hd 13 rfl 16 rfl
            exact sk_skip rfl rfl d16 rfl trivial
          · intro ρz wz hz hk hd
            have d16 := hd 13 rfl 16 rfl
            exact sk_skip rfl rfl d16 rfl trivial
          · intro ρz wz hz hk hd
            have d16 := hd 13 rfl 16 rfl
            exact sk_skip rfl rfl d16 rfl trivial
          · intro ρz wz hz hk hd
            have d16 := hd 13 rfl 16 rfl
            exact sk_skip rfl rfl d16 rfl trivial
          · intro ρz wz hz hk hd
            have d16 := hd 13 rfl 16 rfl
            exact sk_val (v := .bool false) (by exact xr_pickF rfl d16 rfl rfl) rfl rfl
        · intro ρ31 w32 q33 hk hd
          have e25 := hd 22 rfl 25 rfl
          have fB := fB.gr q33
          refine ol_val (v := .bool false) (by exact xr_assign rfl e25) rfl rfl rfl ?_
          refine ol_nil ?_
          obtain rfl := Option.some.inj j2
          refine thn_i ?_
          exact ⟨rfl, q33⟩
    · skip
      refine cw_drawL 23 [fun vz wz => vz = (V0_0 : Value), fun vz wz => vz = (.int .i64 (List.length a0 : Int) : Value), fun vz wz => vz = (.bool (decide ((List.length a0 : Int) = 64)) : Value), fun vz wz => vz = (.bool (decide ((List.length a0 : Int) = 64)) : Value), fun _ _ => True, fun _ _ => True, fun _ _ => True, fun _ _ => True, fun vz wz => vz = (.bool false : Value), fun vz wz => vz = (.bool false : Value), fun _ _ => True, fun _ _ => True, fun vz wz => vz = (.bool false : Value), fun vz wz => vz = (.bool false : Value), fun _ _ => True, fun _ _ => True, fun _ _ => True, fun _ _ => True, fun _ _ => True, fun _ _ => True, fun _ _ => True, fun _ _ => True, fun vz wz => vz = (.bool false : Value)] mo rfl ⟨fun _ _ _ h _ => h, fun _ _ _ h _ => h, fun _ _ _ h _ => h, fun _ _ _ h _ => h, fun _ _ _ h _ => h, fun _ _ _ h _ => h, fun _ _ _ h _ => h, fun _ _ _ h _ => h, fun _ _ _ h _ => h, fun _ _ _ h _ => h, fun _ _ _ h _ => h, fun _ _ _ h _ => h, fun _ _ _ h _ => h, fun _ _ _ h _ => h, fun _ _ _ h _ => h, fun _ _ _ h _ => h, fun _ _ _ h _ => h, fun _ _ _ h _ => h, fun _ _ _ h _ => h, fun _ _ _ h _ => h, fun _ _ _ h _ => h, fun _ _ _ h _ => h, fun _ _ _ h _ => h, trivial⟩ ?_ ?_
      · refine ⟨?_, ?_, ?_, ?_, ?_, ?_, ?_, ?_, ?_, ?_, ?_, ?_, ?_, ?_, ?_, ?_, ?_, ?_, ?_, ?_, ?_, ?_, ?_, trivial⟩
        · intro ρz wz hz hk hd
          exact sk_val (v := V0_0) (by exact xr_move rfl ((hk 0 rfl).trans rfl)) rfl rfl
        · intro ρz wz hz hk hd
          have d3 := hd 0 rfl 3 rfl
          exact sk_val (v := .int .i64 (List.length a0 : Int)) (by exact xr_lenR rfl Try.underlying38 d3 (R0_0.gr (fB.gr hz))) rfl rfl
        · intro ρz wz hz hk hd
          have d4 := hd 1 rfl 4 rfl
          exact sk_val (v := .bool (decide ((List.length a0 : Int) = 64))) (by exact xr_eqI rfl Try.underlying3 rfl d4 rfl) rfl rfl
        · intro ρz wz hz hk hd
          have d5 := hd 2 rfl 5 rfl
          exact sk_val (v := .bool (decide ((List.length a0 : Int) = 64))) (by exact xr_move rfl d5) rfl rfl
        · intro ρz wz hz hk hd
          have d6 := hd 3 rfl 6 rfl
          exact sk_skip rfl rfl d6 c3 trivial
        · intro ρz wz hz hk hd
          have d6 := hd 3 rfl 6 rfl
          exact sk_skip rfl rfl d6 c3 trivial
        · intro ρz wz hz hk hd
          have d6 := hd 3 rfl 6 rfl
          exact sk_skip rfl rfl d6 c3 trivial
        · intro ρz wz hz hk hd
          have d6 := hd 3 rfl 6 rfl
          exact sk_skip rfl rfl d6 c3 trivial
        · intro ρz wz hz hk hd
          have d6 := hd 3 rfl 6 rfl
          exact sk_val (v := .bool false) (by exact xr_pickF rfl d6 c3 rfl) rfl rfl
        · intro ρz wz hz hk hd
          have d11 := hd 8 rfl 11 rfl
          exact sk_val (v := .bool false) (by exact xr_move rfl d11) rfl rfl
        · intro ρz wz hz hk hd
          have d12 := hd 9 rfl 12 rfl
          exact sk_skip rfl rfl d12 rfl trivial
        · intro ρz wz hz hk hd
          have d12 := hd 9 rfl 12 rfl
          exact sk_skip rfl rfl d12 rfl trivial
        · intro ρz wz hz hk hd
          have d12 := hd 9 rfl 12 rfl
          exact sk_val (v := .bool false) (by exact xr_pickF rfl d12 rfl rfl) rfl rfl
        · intro ρz wz hz hk hd
          have d15 := hd 12 rfl 15 rfl
          exact sk_val (v := .bool false) (by exact xr_move rfl d15) rfl rfl
        · intro ρz wz hz hk hd
          have d16 := hd 13 rfl 16 rfl
          exact sk_skip rfl rfl d16 rfl trivial
        · intro ρz wz hz hk hd
          have d16 := hd 13 rfl 16 rfl
          exact sk_skip rfl rfl d16 rfl trivial
        · intro ρz wz hz hk hd
          have d16 := hd 13 rfl 16 rfl
          exact sk_skip rfl rfl d16 rfl trivial
        · intro ρz wz hz hk hd
          have d16 := hd 13 rfl 16 rfl
          exact sk_skip rfl rfl d16 rfl trivial
        · intro ρz wz hz hk hd
          have d16 := hd 13 rfl 16 rfl
          exact sk_skip rfl rfl d16 rfl trivial
        · intro ρz wz hz hk hd
          have d16 := hd 13 rfl 16 rfl
          exact sk_skip rfl rfl d16 rfl trivial
        · intro ρz wz hz hk hd
          have d16 := hd 13 rfl 16 rfl
          exact sk_skip rfl rfl d16 rfl trivial
        · intro ρz wz hz hk hd
          have d16 := hd 13 rfl 16 rfl
          exact sk_skip rfl rfl d16 rfl trivial
        · intro ρz wz hz hk hd
          have d16 := hd 13 rfl 16 rfl
          exact sk_val (v := .bool false) (by exact xr_pickF rfl d16 rfl rfl) rfl rfl
      · intro ρ34 w35 q36 hk hd
        have e25 := hd 22 rfl 25 rfl
        have fB := fB.gr q36
        refine ol_val (v := .bool false) (by exact xr_assign rfl e25) rfl rfl rfl ?_
        refine ol_nil ?_
        obtain rfl := Option.some.inj j2
        refine thn_i ?_
        exact ⟨rfl, q36⟩
  · skip
    rintro ρ37 w38 ⟨e2, q39⟩
    have fB := fB.gr q39
    refine cw_ret ?_
    repeat (first | with_reducible refine thn_r ?_ | with_reducible refine blk_r ?_)
    obtain rfl := Option.some.inj h
    refine fin_ret1 Try.results100 e2 ?_
    exact ⟨_, rfl, rfl, fB⟩
end Go.Proofs.Ytpdglhpohkkeiaa
