/- PageSeats: texts merged, part 4 of 5. The last part proves that the law PageSeats holds for every input. -/
import Derived.Test.YtjhajfkfhdnciaaPkPageSeats3
/- rickyard/rickyardref07.Seal: its model, and that the Go function computes it: written by gen.py. -/
set_option linter.unusedVariables false
namespace Go.Proofs.Ytjhajfkfhdnciaa
open Go Go.Xw
def rickyardref07_Seal.f (fu : Nat) (a0 : Int) (a1 : Int) (a2 : List UInt8) : Option (List UInt8) := ((rickyardref07_Fill.f fu a2 56 : Option (List UInt8)).bind fun t6 => (if List.length (List.map toB [(IntKind.u8.wrap a0), (IntKind.u8.wrap a1), 0, 0]) + List.length t6 ≤ LIM then ((rickyardref02_Sum.f fu (List.map ofB ((List.map toB [(IntKind.u8.wrap a0), (IntKind.u8.wrap a1), 0, 0]) ++ t6)) : Option Int).bind fun t17 => ((rickyardref01_Lay.f fu (IntKind.u64.wrap t17) 4 : Option (List UInt8)).bind fun t21 => (if List.length t21 + List.length ((List.map toB [(IntKind.u8.wrap a0), (IntKind.u8.wrap a1), 0, 0]) ++ t6) ≤ LIM then some ((t21 ++ ((List.map toB [(IntKind.u8.wrap a0), (IntKind.u8.wrap a1), 0, 0]) ++ t6))) else none))) else none))
set_option maxRecDepth 100000 in
set_option maxHeartbeats 400000 in
theorem rickyardref07_Seal.ok (fu : Nat) (w : World) (a0 : Int) (a1 : Int) (a2 : List UInt8) (r : (List UInt8)) (h : rickyardref07_Seal.f fu a0 a1 a2 = some r) :
    Calls Try.prog 30 (([.int .i64 a0, .int .i64 a1, sv a2] : List Value).toArray) w (fun e w' => ∃ v, e = .returned v ∧ v = sv r ∧ Gr w w') := by
  unfold rickyardref07_Seal.f at h
  have fB : Gr w w := Fr.refl _ _
  refine calls_cw Try.func30 rfl Try.ntmps30 rfl ?_
  refine cw_seq ?_
  refine cw_region ?_
  refine ol_val (v := sv []) (by exact xr_assign rfl rfl) rfl rfl rfl ?_
  refine ol_nil ?_
  refine cw_seq ?_
  obtain ⟨t6, k7, h⟩ := bs h
  refine cw_drawL 8 [fun vz wz => vz = (.int .i64 a0 : Value), fun vz wz => vz = (.int .u8 (IntKind.u8.wrap a0) : Value), fun vz wz => vz = (.int .i64 a1 : Value), fun vz wz => vz = (.int .u8 (IntKind.u8.wrap a1) : Value), fun vz wz => ∃ v1 : Value, ∃ o3 : Own (kI .u8) 5 wz w.heap.size v1 [(IntKind.u8.wrap a0), (IntKind.u8.wrap a1), 0, 0], vz = (v1 : Value), fun vz wz => vz = (sv (List.map toB [(IntKind.u8.wrap a0), (IntKind.u8.wrap a1), 0, 0]) : Value), fun vz wz => vz = (sv a2 : Value), fun vz wz => vz = (sv t6 : Value)] mo rfl ⟨fun _ _ _ h _ => h, fun _ _ _ h _ => h, fun _ _ _ h _ => h, fun _ _ _ h _ => h, fun _ _ _ ⟨v1, o3, h⟩ q => ⟨v1, o3.gr q, h⟩, fun _ _ _ h _ => h, fun _ _ _ h _ => h, fun _ _ _ h _ => h, trivial⟩ ?_ ?_
  · refine ⟨?_, ?_, ?_, ?_, ?_, ?_, ?_, ?_, trivial⟩
    · intro ρz wz hz hk hd
      exact sk_val (v := .int .i64 a0) (by exact xr_move rfl ((hk 0 rfl).trans rfl)) rfl rfl
    · intro ρz wz hz hk hd
      have d8 := hd 0 rfl 8 rfl
      exact sk_val (v := .int .u8 (IntKind.u8.wrap a0)) (by exact xr_conv rfl Try.underlying3 Try.underlying5 d8) rfl rfl
    · intro ρz wz hz hk hd
      exact sk_val (v := .int .i64 a1) (by exact xr_move rfl ((hk 1 rfl).trans rfl)) rfl rfl
    · intro ρz wz hz hk hd
      have d10 := hd 2 rfl 10 rfl
      exact sk_val (v := .int .u8 (IntKind.u8.wrap a1)) (by exact xr_conv rfl Try.underlying3 Try.underlying5 d10) rfl rfl
    · intro ρz wz hz hk hd
      have d9 := hd 1 rfl 9 rfl
      have d11 := hd 3 rfl 11 rfl
      refine sk_op (by exact opv_buildSlice (K := (kI .u8)) (xs := [(IntKind.u8.wrap a0), (IntKind.u8.wrap a1), 0, 0]) (vals := [.int .u8 (IntKind.u8.wrap a0), .int .u8 (IntKind.u8.wrap a1), .int .u8 0, .int .u8 0]) rfl Try.underlying22 el5 rfl rfl ⟨rfl, d9, ⟨rfl, d11, ⟨rfl, rfl, ⟨rfl, rfl, trivial⟩⟩⟩⟩ rfl rfl rfl (Nat.le_trans fB.size hz.size)) rfl ?_
      rintro v1 wy ⟨o3, q2, z4⟩
      exact ⟨⟨v1, o3, rfl⟩, q2⟩
    · intro ρz wz hz hk hd
      obtain ⟨v1, o3, d12⟩ := hd 4 rfl 12 rfl
      exact sk_val (by exact xr_toStr rfl Try.underlying22 Try.underlying5 Try.underlying9 d12 o3.rd) rfl rfl
    · intro ρz wz hz hk hd
      exact sk_val (v := sv a2) (by exact xr_move rfl ((hk 2 rfl).trans rfl)) rfl rfl
    · intro ρz wz hz hk hd
      have d14 := hd 6 rfl 14 rfl
      refine sk_op (by exact opv_call rfl cal31 (ac d14 (ac rfl an)) (rickyardref07_Fill.ok fu _ a2 56 _ k7)) rfl ?_
      rintro _ wy ⟨rfl, q8⟩
      exact ⟨rfl, q8⟩
  · intro ρ9 w10 q11 hk hd
    have e13 := hd 5 rfl 13 rfl
    have e15 := hd 7 rfl 15 rfl
    have fB := fB.gr q11
    obtain ⟨g12, h⟩ := gs h
    refine ol_val (v := sv ((List.map toB [(IntKind.u8.wrap a0), (IntKind.u8.wrap a1), 0, 0]) ++ t6)) (by exact xr_addStr rfl e13 e15 g12) rfl rfl rfl ?_
    refine ol_val (v := sv ((List.map toB [(IntKind.u8.wrap a0), (IntKind.u8.wrap a1), 0, 0]) ++ t6)) (by exact xr_assign rfl rfl) rfl rfl rfl ?_
    refine ol_nil ?_
    refine cw_seq ?_
    refine cw_region ?_
    refine ol_val (v := sv ((List.map toB [(IntKind.u8.wrap a0), (IntKind.u8.wrap a1), 0, 0]) ++ t6)) (by exact xr_move rfl rfl) rfl rfl rfl ?_
    refine ol_op (by exact opv_toBytes rfl Try.underlying9 Try.underlying22 Try.underlying5 rfl) rfl rfl rfl ?_
    rintro v13 w16 ⟨r15, q14⟩
    have fB := fB.gr q14
    obtain ⟨t17, k18, h⟩ := bs h
    refine ol_op (by exact opv_call rfl cal100 (ac rfl an) (rickyardref02_Sum.ok fu _ (List.map ofB ((List.map toB [(IntKind.u8.wrap a0), (IntKind.u8.wrap a1), 0, 0]) ++ t6)) v13 (r15) _ k18)) rfl rfl rfl ?_
    rintro _ w20 ⟨rfl, q19⟩
    have fB := fB.gr q19
    refine ol_val (v := .int .u64 (IntKind.u64.wrap t17)) (by exact xr_conv rfl Try.underlying36 Try.underlying129 rfl) rfl rfl rfl ?_
    obtain ⟨t21, k22, h⟩ := bs h
    refine ol_op (by exact opv_call rfl cal99 (ac rfl (ac rfl an)) (rickyardref01_Lay.ok fu _ (IntKind.u64.wrap t17) 4 _ k22)) rfl rfl rfl ?_
    rintro _ w24 ⟨rfl, q23⟩
    have fB := fB.gr q23
    refine ol_val (v := sv ((List.map toB [(IntKind.u8.wrap a0), (IntKind.u8.wrap a1), 0, 0]) ++ t6)) (by exact xr_move rfl rfl) rfl rfl rfl ?_
    obtain ⟨g25, h⟩ := gs h
    refine ol_val (v := sv (t21 ++ ((List.map toB [(IntKind.u8.wrap a0), (IntKind.u8.wrap a1), 0, 0]) ++ t6))) (by exact xr_addStr rfl rfl rfl g25) rfl rfl rfl ?_
    refine ol_val (v := sv (t21 ++ ((List.map toB [(IntKind.u8.wrap a0), (IntKind.u8.wrap a1), 0, 0]) ++ t6))) (by exact xr_assign rfl rfl) rfl rfl rfl ?_
    refine ol_nil ?_
    refine cw_ret ?_
    repeat (first | with_reducible refine thn_r ?_ | with_reducible refine blk_r ?_)
    obtain rfl := Option.some.inj h
    refine fin_ret1 Try.results30 rfl ?_
    exact ⟨_, rfl, rfl, fB⟩
end Go.Proofs.Ytjhajfkfhdnciaa

/- rickyard/rickyardref07.Open: its model, and that the Go function computes it: written by gen.py. -/
set_option linter.unusedVariables false
namespace Go.Proofs.Ytjhajfkfhdnciaa
open Go Go.Xw
def rickyardref07_Open.f (fu : Nat) (a0 : List Int) : Option (Int × Int × (List UInt8) × Bool) := (((if (!decide ((List.length a0 : Int) = 64)) = true then some (true) else (if (4 : Int) < (List.length a0 : Int) then (if (decide ((ix a0 4) = 0)) = true then some (true) else (if (4 : Int) < (List.length a0 : Int) then (if (5 : Int) < (List.length a0 : Int) then (if (8 : Int) ≤ (List.length a0 : Int) then ((rickyardref07_Seal.f fu (IntKind.i64.wrap (ix a0 4)) (IntKind.i64.wrap (ix a0 5)) (List.map toB (cut a0 8 (List.length a0 : Int))) : Option (List UInt8)).bind fun t17 => some ((!decide (t17 = (List.map toB a0))))) else none) else none) else none)) else none)) : Option Bool).bind fun x1 => (if x1 = true then some (0, 0, [], false) else (if (4 : Int) < (List.length a0 : Int) then (if (5 : Int) < (List.length a0 : Int) then (if (8 : Int) ≤ (List.length a0 : Int) then some ((IntKind.i64.wrap (ix a0 4)), (IntKind.i64.wrap (ix a0 5)), (List.map toB (cut a0 8 (List.length a0 : Int))), true) else none) else none) else none)))
set_option maxRecDepth 100000 in
set_option maxHeartbeats 400000 in
theorem rickyardref07_Open.ok (fu : Nat) (w : World) (a0 : List Int) (V0_0 : Value) (R0_0 : Rd (kI .u8) w V0_0 a0) (r : Int × Int × (List UInt8) × Bool) (h : rickyardref07_Open.f fu a0 = some r) :
    Calls Try.prog 32 (([V0_0] : List Value).toArray) w (fun e w' => ∃ v, e = .returned v ∧ v = .tuple #[.int .i64 r.1, .int .i64 r.2.1, sv r.2.2.1, .bool r.2.2.2] ∧ Gr w w') := by
  unfold rickyardref07_Open.f at h
  have fB : Gr w w := Fr.refl _ _
  refine calls_cw Try.func32 rfl Try.ntmps32 rfl ?_
  refine cw_seq ?_
  refine cw_region ?_
  refine ol_val (v := .int .i64 0) (by exact xr_assign rfl rfl) rfl rfl rfl ?_
  refine ol_val (v := .int .i64 0) (by exact xr_assign rfl rfl) rfl rfl rfl ?_
  refine ol_val (v := sv []) (by exact xr_assign rfl rfl) rfl rfl rfl ?_
  refine ol_val (v := .bool false) (by exact xr_assign rfl rfl) rfl rfl rfl ?_
  refine ol_nil ?_
  refine cw_seq ?_
  refine cw_seq ?_
  obtain ⟨x1, j2, h⟩ := bs h
  refine cw_mid (fun ρ' w' => ρ' 0 = V0_0 ∧ ρ' 31 = .bool x1 ∧ Gr w w') ?_ ?_
  · skip
    rcases is j2 with ⟨c3, j2⟩ | ⟨c3, j2⟩
    · skip
      refine cw_drawL 25 [fun vz wz => vz = (V0_0 : Value), fun vz wz => vz = (.int .i64 (List.length a0 : Int) : Value), fun vz wz => vz = (.bool (!decide ((List.length a0 : Int) = 64)) : Value), fun vz wz => vz = (.bool (!decide ((List.length a0 : Int) = 64)) : Value), fun vz _ => vz = undef, fun vz _ => vz = undef, fun vz _ => vz = undef, fun vz _ => vz = undef, fun vz wz => vz = (.bool true : Value), fun vz wz => vz = (.bool true : Value), fun vz _ => vz = undef, fun vz _ => vz = undef, fun vz _ => vz = undef, fun vz _ => vz = undef, fun vz _ => vz = undef, fun vz _ => vz = undef, fun vz _ => vz = undef, fun vz _ => vz = undef, fun vz _ => vz = undef, fun vz _ => vz = undef, fun vz _ => vz = undef, fun vz _ => vz = undef, fun vz _ => vz = undef, fun vz _ => vz = undef, fun vz _ => vz = undef] mo rfl ⟨fun _ _ _ h _ => h, fun _ _ _ h _ => h, fun _ _ _ h _ => h, fun _ _ _ h _ => h, fun _ _ _ h _ => h, fun _ _ _ h _ => h, fun _ _ _ h _ => h, fun _ _ _ h _ => h, fun _ _ _ h _ => h, fun _ _ _ h _ => h, fun _ _ _ h _ => h, fun _ _ _ h _ => h, fun _ _ _ h _ => h, fun _ _ _ h _ => h, fun _ _ _ h _ => h, fun _ _ _ h _ => h, fun _ _ _ h _ => h, fun _ _ _ h _ => h, fun _ _ _ h _ => h, fun _ _ _ h _ => h, fun _ _ _ h _ => h, fun _ _ _ h _ => h, fun _ _ _ h _ => h, fun _ _ _ h _ => h, fun _ _ _ h _ => h, trivial⟩ ?_ ?_
      · refine ⟨?_, ?_, ?_, ?_, ?_, ?_, ?_, ?_, ?_, ?_, ?_, ?_, ?_, ?_, ?_, ?_, ?_, ?_, ?_, ?_, ?_, ?_, ?_, ?_, ?_, trivial⟩
        · intro ρz wz hz hk hd
          exact sk_val (v := V0_0) (by exact xr_move rfl ((hk 0 rfl).trans rfl)) rfl rfl
        · intro ρz wz hz hk hd
          have d6 := hd 0 rfl 6 rfl
          exact sk_val (v := .int .i64 (List.length a0 : Int)) (by exact xr_lenR rfl Try.underlying22 d6 (R0_0.gr (fB.gr hz))) rfl rfl
        · intro ρz wz hz hk hd
          have d7 := hd 1 rfl 7 rfl
          exact sk_val (v := .bool (!decide ((List.length a0 : Int) = 64))) (by exact xr_neI rfl Try.underlying3 rfl d7 rfl) rfl rfl
        · intro ρz wz hz hk hd
          have d8 := hd 2 rfl 8 rfl
          exact sk_val (v := .bool (!decide ((List.length a0 : Int) = 64))) (by exact xr_move rfl d8) rfl rfl
        · intro ρz wz hz hk hd
          have d9 := hd 3 rfl 9 rfl
          exact sk_skip rfl rfl d9 c3 rfl
        · intro ρz wz hz hk hd
          have d9 := hd 3 rfl 9 rfl
          exact sk_skip rfl rfl d9 c3 rfl
        · intro ρz wz hz hk hd
          have d9 := hd 3 rfl 9 rfl
          exact sk_skip rfl rfl d9 c3 rfl
        · intro ρz wz hz hk hd
          have d9 := hd 3 rfl 9 rfl
          exact sk_skip rfl rfl d9 c3 rfl
        · intro ρz wz hz hk hd
          have d9 := hd 3 rfl 9 rfl
          exact sk_val (v := .bool true) (by exact xr_pickT rfl d9 c3 rfl) rfl rfl
        · intro ρz wz hz hk hd
          have d14 := hd 8 rfl 14 rfl
          exact sk_val (v := .bool true) (by exact xr_move rfl d14) rfl rfl
        · intro ρz wz hz hk hd
          have d15 := hd 9 rfl 15 rfl
          exact sk_skip rfl rfl d15 rfl rfl
        · intro ρz wz hz hk hd
          have d15 := hd 9 rfl 15 rfl
          exact sk_skip rfl rfl d15 rfl rfl
        · intro ρz wz hz hk hd
          have d15 := hd 9 rfl 15 rfl
          exact sk_skip rfl rfl d15 rfl rfl
        · intro ρz wz hz hk hd
          have d15 := hd 9 rfl 15 rfl
          exact sk_skip rfl rfl d15 rfl rfl
        · intro ρz wz hz hk hd
          have d15 := hd 9 rfl 15 rfl
          exact sk_skip rfl rfl d15 rfl rfl
        · intro ρz wz hz hk hd
          have d15 := hd 9 rfl 15 rfl
          exact sk_skip rfl rfl d15 rfl rfl
        · intro ρz wz hz hk hd
          have d15 := hd 9 rfl 15 rfl
          exact sk_skip rfl rfl d15 rfl rfl
        · intro ρz wz hz hk hd
          have d15 := hd 9 rfl 15 rfl
          exact sk_skip rfl rfl d15 rfl rfl
        · intro ρz wz hz hk hd
          have d15 := hd 9 rfl 15 rfl
          exact sk_skip rfl rfl d15 rfl rfl
        · intro ρz wz hz hk hd
          have d15 := hd 9 rfl 15 rfl
          exact sk_skip rfl rfl d15 rfl rfl
        · intro ρz wz hz hk hd
          have d15 := hd 9 rfl 15 rfl
          exact sk_skip rfl rfl d15 rfl rfl
        · intro ρz wz hz hk hd
          have d15 := hd 9 rfl 15 rfl
          exact sk_skip rfl rfl d15 rfl rfl
        · intro ρz wz hz hk hd
          have d15 := hd 9 rfl 15 rfl
          exact sk_skip rfl rfl d15 rfl rfl
        · intro ρz wz hz hk hd
          have d15 := hd 9 rfl 15 rfl
          exact sk_skip rfl rfl d15 rfl rfl
        · intro ρz wz hz hk hd
          have d15 := hd 9 rfl 15 rfl
          exact sk_skip rfl rfl d15 rfl rfl
      · intro ρ4 w5 q6 hk hd
        have e0 := (hk 0 rfl).trans rfl
        have e15 := hd 9 rfl 15 rfl
        have fB := fB.gr q6
        refine ol_val (v := .bool true) (by exact xr_pickT rfl e15 rfl rfl) rfl rfl rfl ?_
        refine ol_nil ?_
        obtain rfl := Option.some.inj j2
        refine thn_i ?_
        exact ⟨e0, rfl, q6⟩
    · skip
      obtain ⟨g7, j2⟩ := gs j2
      rcases is j2 with ⟨c8, j2⟩ | ⟨c8, j2⟩
      · skip
        refine cw_drawL 25 [fun vz wz => vz = (V0_0 : Value), fun vz wz => vz = (.int .i64 (List.length a0 : Int) : Value), fun vz wz => vz = (.bool (!decide ((List.length a0 : Int) = 64)) : Value), fun vz wz => vz = (.bool (!decide ((List.length a0 : Int) = 64)) : Value), fun vz wz => vz = (V0_0 : Value), fun vz wz => vz = (.pointer (some ⟨(sb V0_0), so V0_0 + Int.toNat 4 * 1, none⟩) : Value), fun vz wz => vz = (.int .u8 (ix a0 4) : Value), fun vz wz => vz = (.bool (decide ((ix a0 4) = 0)) : Value), fun vz wz => vz = (.bool (decide ((ix a0 4) = 0)) : Value), fun vz wz => vz = (.bool (decide ((ix a0 4) = 0)) : Value), fun vz _ => vz = undef, fun vz _ => vz = undef, fun vz _ => vz = undef, fun vz _ => vz = undef, fun vz _ => vz = undef, fun vz _ => vz = undef, fun vz _ => vz = undef, fun vz _ => vz = undef, fun vz _ => vz = undef, fun vz _ => vz = undef, fun vz _ => vz = undef, fun vz _ => vz = undef, fun vz _ => vz = undef, fun vz _ => vz = undef, fun vz _ => vz = undef] mo rfl ⟨fun _ _ _ h _ => h, fun _ _ _ h _ => h, fun _ _ _ h _ => h, fun _ _ _ h _ => h, fun _ _ _ h _ => h, fun _ _ _ h _ => h, fun _ _ _ h _ => h, fun _ _ _ h _ => h, fun _ _ _ h _ => h, fun _ _ _ h _ => h, fun _ _ _ h _ => h, fun _ _ _ h _ => h, fun _ _ _ h _ => h, fun _ _ _ h _ => h, fun _ _ _ h _ => h, fun _ _ _ h _ => h, fun _ _ _ h _ => h, fun _ _ _ h _ => h, fun _ _ _ h _ => h, fun _ _ _ h _ => h, fun _ _ _ h _ => h, fun _ _ _ h _ => h, fun _ _ _ h _ => h, fun _ _ _ h _ => h, fun _ _ _ h _ => h, trivial⟩ ?_ ?_
        · refine ⟨?_, ?_, ?_, ?_, ?_, ?_, ?_, ?_, ?_, ?_, ?_, ?_, ?_, ?_, ?_, ?_, ?_, ?_, ?_, ?_, ?_, ?_, ?_, ?_, ?_, trivial⟩
          · intro ρz wz hz hk hd
            exact sk_val (v := V0_0) (by exact xr_move rfl ((hk 0 rfl).trans rfl)) rfl rfl
          · intro ρz wz hz hk hd
            have d6 := hd 0 rfl 6 rfl
            exact sk_val (v := .int .i64 (List.length a0 : Int)) (by exact xr_lenR rfl Try.underlying22 d6 (R0_0.gr (fB.gr hz))) rfl rfl
          · intro ρz wz hz hk hd
            have d7 := hd 1 rfl 7 rfl
            exact sk_val (v := .bool (!decide ((List.length a0 : Int) = 64))) (by exact xr_neI rfl Try.underlying3 rfl d7 rfl) rfl rfl
          · intro ρz wz hz hk hd
            have d8 := hd 2 rfl 8 rfl
            exact sk_val (v := .bool (!decide ((List.length a0 : Int) = 64))) (by exact xr_move rfl d8) rfl rfl
          · intro ρz wz hz hk hd
            have d9 := hd 3 rfl 9 rfl
            exact sk_gval (v := V0_0) (by exact xr_move rfl ((hk 0 rfl).trans rfl)) rfl rfl d9 c3 rfl
          · intro ρz wz hz hk hd
            have d10 := hd 4 rfl 10 rfl
            have d9 := hd 3 rfl 9 rfl
            exact sk_gval (by exact xr_indexR (K := (kI .u8)) (v := V0_0) rfl Try.underlying22 sz5 d10 (R0_0.gr (fB.gr hz)) rfl (by decide) g7) rfl rfl d9 c3 rfl
          · intro ρz wz hz hk hd
            have d11 := hd 5 rfl 11 rfl
            have d9 := hd 3 rfl 9 rfl
            exact sk_gval (v := .int .u8 (ix a0 4)) (by exact xr_load1 (v := .int .u8 (ix a0 4)) rfl ag5 d11 ((R0_0.gr (fB.gr hz)).elem (by decide) g7)) rfl rfl d9 c3 rfl
          · intro ρz wz hz hk hd
            have d12 := hd 6 rfl 12 rfl
            have d9 := hd 3 rfl 9 rfl
            exact sk_gval (v := .bool (decide ((ix a0 4) = 0))) (by exact xr_eqI rfl Try.underlying5 rfl d12 rfl) rfl rfl d9 c3 rfl
          · intro ρz wz hz hk hd
            have d9 := hd 3 rfl 9 rfl
            have d13 := hd 7 rfl 13 rfl
            exact sk_val (v := .bool (decide ((ix a0 4) = 0))) (by exact xr_pickF rfl d9 c3 d13) rfl rfl
          · intro ρz wz hz hk hd
            have d14 := hd 8 rfl 14 rfl
            exact sk_val (v := .bool (decide ((ix a0 4) = 0))) (by exact xr_move rfl d14) rfl rfl
          · intro ρz wz hz hk hd
            have d15 := hd 9 rfl 15 rfl
            exact sk_skip rfl rfl d15 c8 rfl
          · intro ρz wz hz hk hd
            have d15 := hd 9 rfl 15 rfl
            exact sk_skip rfl rfl d15 c8 rfl
          · intro ρz wz hz hk hd
            have d15 := hd 9 rfl 15 rfl
            exact sk_skip rfl rfl d15 c8 rfl
          · intro ρz wz hz hk hd
            have d15 := hd 9 rfl 15 rfl
            exact sk_skip rfl rfl d15 c8 rfl
          · intro ρz wz hz hk hd
            have d15 := hd 9 rfl 15 rfl
            exact sk_skip rfl rfl d15 c8 rfl
          · intro ρz wz hz hk hd
            have d15 := hd 9 rfl 15 rfl
            exact sk_skip rfl rfl d15 c8 rfl
          · intro ρz wz hz hk hd
            have d15 := hd 9 rfl 15 rfl
            exact sk_skip rfl rfl d15 c8 rfl
          · intro ρz wz hz hk hd
            have d15 := hd 9 rfl 15 rfl
            exact sk_skip rfl rfl d15 c8 rfl
          · intro ρz wz hz hk hd
            have d15 := hd 9 rfl 15 rfl
            exact sk_skip rfl rfl d15 c8 rfl
          · intro ρz wz hz hk hd
            have d15 := hd 9 rfl 15 rfl
            exact sk_skip rfl rfl d15 c8 rfl
          · intro ρz wz hz hk hd
            have d15 := hd 9 rfl 15 rfl
            exact sk_skip rfl rfl d15 c8 rfl
          · intro ρz wz hz hk hd
            have d15 := hd 9 rfl 15 rfl
            exact sk_skip rfl rfl d15 c8 rfl
          · intro ρz wz hz hk hd
            have d15 := hd 9 rfl 15 rfl
            exact sk_skip rfl rfl d15 c8 rfl
          · intro ρz wz hz hk hd
            have d15 := hd 9 rfl 15 rfl
            exact sk_skip rfl rfl d15 c8 rfl
          · intro ρz wz hz hk hd
            have d15 := hd 9 rfl 15 rfl
            exact sk_skip rfl rfl d15 c8 rfl
        · intro ρ9 w10 q11 hk hd
          have e0 := (hk 0 rfl).trans rfl
          have e15 := hd 9 rfl 15 rfl
          have fB := fB.gr q11
          refine ol_val (v := .bool true) (by exact xr_pickT rfl e15 c8 rfl) rfl rfl rfl ?_
          refine ol_nil ?_
          obtain rfl := Option.some.inj j2
          refine thn_i ?_
          exact ⟨e0, rfl, q11⟩
      · skip
        obtain ⟨g12, j2⟩ := gs j2
        obtain ⟨g13, j2⟩ := gs j2
        obtain ⟨g15, j2⟩ := gs j2
        obtain ⟨t17, k18, j2⟩ := bs j2
        refine cw_drawL 25 [fun vz wz => vz = (V0_0 : Value), fun vz wz => vz = (.int .i64 (List.length a0 : Int) : Value), fun vz wz => vz = (.bool (!decide ((List.length a0 : Int) = 64)) : Value), fun vz wz => vz = (.bool (!decide ((List.length a0 : Int) = 64)) : Value), fun vz wz => vz = (V0_0 : Value), fun vz wz => vz = (.pointer (some ⟨(sb V0_0), so V0_0 + Int.toNat 4 * 1, none⟩) : Value), fun vz wz => vz = (.int .u8 (ix a0 4) : Value), fun vz wz => vz = (.bool (decide ((ix a0 4) = 0)) : Value), fun vz wz => vz = (.bool (decide ((ix a0 4) = 0)) : Value), fun vz wz => vz = (.bool (decide ((ix a0 4) = 0)) : Value), fun vz wz => vz = (V0_0 : Value), fun vz wz => vz = (.pointer (some ⟨(sb V0_0), so V0_0 + Int.toNat 4 * 1, none⟩) : Value), fun vz wz => vz = (.int .u8 (ix a0 4) : Value), fun vz wz => vz = (.int .i64 (IntKind.i64.wrap (ix a0 4)) : Value), fun vz wz => vz = (V0_0 : Value), fun vz wz => vz = (.pointer (some ⟨(sb V0_0), so V0_0 + Int.toNat 5 * 1, none⟩) : Value), fun vz wz => vz = (.int .u8 (ix a0 5) : Value), fun vz wz => vz = (.int .i64 (IntKind.i64.wrap (ix a0 5)) : Value), fun vz wz => vz = (V0_0 : Value), fun vz wz => ∃ u16 : Value, ∃ r14 : Rd (kI .u8) wz u16 (cut a0 8 (List.length a0 : Int)), vz = (u16 : Value), fun vz wz => vz = (sv (List.map toB (cut a0 8 (List.length a0 : Int))) : Value), fun vz wz => vz = (sv t17 : Value), fun vz wz => vz = (V0_0 : Value), fun vz wz => vz = (sv (List.map toB a0) : Value), fun vz wz => vz = (.bool (!decide (t17 = (List.map toB a0))) : Value)] mo rfl ⟨fun _ _ _ h _ => h, fun _ _ _ h _ => h, fun _ _ _ h _ => h, fun _ _ _ h _ => h, fun _ _ _ h _ => h, fun _ _ _ h _ => h, fun _ _ _ h _ => h, fun _ _ _ h _ => h, fun _ _ _ h _ => h, fun _ _ _ h _ => h, fun _ _ _ h _ => h, fun _ _ _ h _ => h, fun _ _ _ h _ => h, fun _ _ _ h _ => h, fun _ _ _ h _ => h, fun _ _ _ h _ => h, fun _ _ _ h _ => h, fun _ _ _ h _ => h, fun _ _ _ h _ => h, fun _ _ _ ⟨u16, r14, h⟩ q => ⟨u16, r14.gr q, h⟩, fun _ _ _ h _ => h, fun _ _ _ h _ => h, fun _ _ _ h _ => h, fun _ _ _ h _ => h, fun _ _ _ h _ => h, trivial⟩ ?_ ?_
        · refine ⟨?_, ?_, ?_, ?_, ?_, ?_, ?_, ?_, ?_, ?_, ?_, ?_, ?_, ?_, ?_, ?_, ?_, ?_, ?_, ?_, ?_, ?_, ?_, ?_, ?_, trivial⟩
          · intro ρz wz hz hk hd
            exact sk_val (v := V0_0) (by exact xr_move rfl ((hk 0 rfl).trans rfl)) rfl rfl
          · intro ρz wz hz hk hd
            have d6 := hd 0 rfl 6 rfl
            exact sk_val (v := .int .i64 (List.length a0 : Int)) (by exact xr_lenR rfl Try.underlying22 d6 (R0_0.gr (fB.gr hz))) rfl rfl
          · intro ρz wz hz hk hd
            have d7 := hd 1 rfl 7 rfl
            exact sk_val (v := .bool (!decide ((List.length a0 : Int) = 64))) (by exact xr_neI rfl Try.underlying3 rfl d7 rfl) rfl rfl
          · intro ρz wz hz hk hd
            have d8 := hd 2 rfl 8 rfl
            exact sk_val (v := .bool (!decide ((List.length a0 : Int) = 64))) (by exact xr_move rfl d8) rfl rfl
          · intro ρz wz hz hk hd
            have d9 := hd 3 rfl 9 rfl
            exact sk_gval (v := V0_0) (by exact xr_move rfl ((hk 0 rfl).trans rfl)) rfl rfl d9 c3 rfl
          · intro ρz wz hz hk hd
            have d10 := hd 4 rfl 10 rfl
            have d9 := hd 3 rfl 9 rfl
            exact sk_gval (by exact xr_indexR (K := (kI .u8)) (v := V0_0) rfl Try.underlying22 sz5 d10 (R0_0.gr (fB.gr hz)) rfl (by decide) g7) rfl rfl d9 c3 rfl
          · intro ρz wz hz hk hd
            have d11 := hd 5 rfl 11 rfl
            have d9 := hd 3 rfl 9 rfl
            exact sk_gval (v := .int .u8 (ix a0 4)) (by exact xr_load1 (v := .int .u8 (ix a0 4)) rfl ag5 d11 ((R0_0.gr (fB.gr hz)).elem (by decide) g7)) rfl rfl d9 c3 rfl
          · intro ρz wz hz hk hd
            have d12 := hd 6 rfl 12 rfl
            have d9 := hd 3 rfl 9 rfl
            exact sk_gval (v := .bool (decide ((ix a0 4) = 0))) (by exact xr_eqI rfl Try.underlying5 rfl d12 rfl) rfl rfl d9 c3 rfl
          · intro ρz wz hz hk hd
            have d9 := hd 3 rfl 9 rfl
            have d13 := hd 7 rfl 13 rfl
            exact sk_val (v := .bool (decide ((ix a0 4) = 0))) (by exact xr_pickF rfl d9 c3 d13) rfl rfl
          · intro ρz wz hz hk hd
            have d14 := hd 8 rfl 14 rfl
            exact sk_val (v := .bool (decide ((ix a0 4) = 0))) (by exact xr_move rfl d14) rfl rfl
          · intro ρz wz hz hk hd
            have d15 := hd 9 rfl 15 rfl
            exact sk_gval (v := V0_0) (by exact xr_move rfl ((hk 0 rfl).trans rfl)) rfl rfl d15 c8 rfl
          · intro ρz wz hz hk hd
            have d16 := hd 10 rfl 16 rfl
            have d15 := hd 9 rfl 15 rfl
            exact sk_gval (by exact xr_indexR (K := (kI .u8)) (v := V0_0) rfl Try.underlying22 sz5 d16 (R0_0.gr (fB.gr hz)) rfl (by decide) g12) rfl rfl d15 c8 rfl
          · intro ρz wz hz hk hd
            have d17 := hd 11 rfl 17 rfl
            have d15 := hd 9 rfl 15 rfl
            exact sk_gval (v := .int .u8 (ix a0 4)) (by exact xr_load1 (v := .int .u8 (ix a0 4)) rfl ag5 d17 ((R0_0.gr (fB.gr hz)).elem (by decide) g12)) rfl rfl d15 c8 rfl
          · intro ρz wz hz hk hd
            have d18 := hd 12 rfl 18 rfl
            have d15 := hd 9 rfl 15 rfl
            exact sk_gval (v := .int .i64 (IntKind.i64.wrap (ix a0 4))) (by exact xr_conv rfl Try.underlying5 Try.underlying3 d18) rfl rfl d15 c8 rfl
          · intro ρz wz hz hk hd
            have d15 := hd 9 rfl 15 rfl
            exact sk_gval (v := V0_0) (by exact xr_move rfl ((hk 0 rfl).trans rfl)) rfl rfl d15 c8 rfl
          · intro ρz wz hz hk hd
            have d20 := hd 14 rfl 20 rfl
            have d15 := hd 9 rfl 15 rfl
            exact sk_gval (by exact xr_indexR (K := (kI .u8)) (v := V0_0) rfl Try.underlying22 sz5 d20 (R0_0.gr (fB.gr hz)) rfl (by decide) g13) rfl rfl d15 c8 rfl
          · intro ρz wz hz hk hd
            have d21 := hd 15 rfl 21 rfl
            have d15 := hd 9 rfl 15 rfl
            exact sk_gval (v := .int .u8 (ix a0 5)) (by exact xr_load1 (v := .int .u8 (ix a0 5)) rfl ag5 d21 ((R0_0.gr (fB.gr hz)).elem (by decide) g13)) rfl rfl d15 c8 rfl
          · intro ρz wz hz hk hd
            have d22 := hd 16 rfl 22 rfl
            have d15 := hd 9 rfl 15 rfl
            exact sk_gval (v := .int .i64 (IntKind.i64.wrap (ix a0 5))) (by exact xr_conv rfl Try.underlying5 Try.underlying3 d22) rfl rfl d15 c8 rfl
          · intro ρz wz hz hk hd
            have d15 := hd 9 rfl 15 rfl
            exact sk_gval (v := V0_0) (by exact xr_move rfl ((hk 0 rfl).trans rfl)) rfl rfl d15 c8 rfl
          · intro ρz wz hz hk hd
            have d24 := hd 18 rfl 24 rfl
            have d15 := hd 9 rfl 15 rfl
            exact sk_gval (by exact xr_slice_l (K := (kI .u8)) (v := V0_0) rfl Try.underlying22 sz5 d24 (R0_0.gr (fB.gr hz)) rfl (by decide) g15) rfl rfl d15 c8 ⟨_, (R0_0.gr (fB.gr hz)).cut (lo := 8) (hi := (List.length a0 : Int)) (by decide) g15 (Int.le_refl _), rfl⟩
          · intro ρz wz hz hk hd
            obtain ⟨u16, r14, d25⟩ := hd 19 rfl 25 rfl
            have d15 := hd 9 rfl 15 rfl
            exact sk_gval (v := sv (List.map toB (cut a0 8 (List.length a0 : Int)))) (by exact xr_toStr rfl Try.underlying22 Try.underlying5 Try.underlying9 d25 r14) rfl rfl d15 c8 rfl
          · intro ρz wz hz hk hd
            have d19 := hd 13 rfl 19 rfl
            have d23 := hd 17 rfl 23 rfl
            have d26 := hd 20 rfl 26 rfl
            have d15 := hd 9 rfl 15 rfl
            refine sk_gop (by exact opv_call rfl cal30 (ac d19 (ac d23 (ac d26 an))) (rickyardref07_Seal.ok fu _ (IntKind.i64.wrap (ix a0 4)) (IntKind.i64.wrap (ix a0 5)) (List.map toB (cut a0 8 (List.length a0 : Int))) _ k18)) rfl rfl d15 c8 ?_
            rintro _ wy ⟨rfl, q19⟩
            exact ⟨rfl, q19⟩
          · intro ρz wz hz hk hd
            have d15 := hd 9 rfl 15 rfl
            exact sk_gval (v := V0_0) (by exact xr_move rfl ((hk 0 rfl).trans rfl)) rfl rfl d15 c8 rfl
          · intro ρz wz hz hk hd
            have d28 := hd 22 rfl 28 rfl
            have d15 := hd 9 rfl 15 rfl
            exact sk_gval (v := sv (List.map toB a0)) (by exact xr_toStr rfl Try.underlying22 Try.underlying5 Try.underlying9 d28 (R0_0.gr (fB.gr hz))) rfl rfl d15 c8 rfl
          · intro ρz wz hz hk hd
            have d27 := hd 21 rfl 27 rfl
            have d29 := hd 23 rfl 29 rfl
            have d15 := hd 9 rfl 15 rfl
            exact sk_gval (v := .bool (!decide (t17 = (List.map toB a0)))) (by exact xr_neStr rfl Try.underlying9 d27 d29) rfl rfl d15 c8 rfl
        · intro ρ20 w21 q22 hk hd
          have e0 := (hk 0 rfl).trans rfl
          have e15 := hd 9 rfl 15 rfl
          have e30 := hd 24 rfl 30 rfl
          have fB := fB.gr q22
          refine ol_val (v := .bool (!decide (t17 = (List.map toB a0)))) (by exact xr_pickF rfl e15 c8 e30) rfl rfl rfl ?_
          refine ol_nil ?_
          obtain rfl := Option.some.inj j2
          refine thn_i ?_
          exact ⟨e0, rfl, q22⟩
  · skip
    rintro ρ23 w24 ⟨e0, e31, q25⟩
    have fB := fB.gr q25
    rcases is h with ⟨c26, h⟩ | ⟨c26, h⟩
    · refine cw_condT e31 c26 ?_
      refine cw_seq ?_
      refine cw_region ?_
      refine ol_val (v := .int .i64 0) (by exact xr_assign rfl rfl) rfl rfl rfl ?_
      refine ol_val (v := .int .i64 0) (by exact xr_assign rfl rfl) rfl rfl rfl ?_
      refine ol_val (v := sv []) (by exact xr_assign rfl rfl) rfl rfl rfl ?_
      refine ol_val (v := .bool false) (by exact xr_assign rfl rfl) rfl rfl rfl ?_
      refine ol_nil ?_
      refine cw_ret ?_
      repeat (first | with_reducible refine thn_r ?_ | with_reducible refine blk_r ?_)
      obtain rfl := Option.some.inj h
      refine fin_ret4 Try.results32 rfl rfl rfl rfl ?_
      exact ⟨_, rfl, rfl, fB⟩
    · refine cw_condF e31 c26 ?_
      refine cw_skip ?_
      refine cw_seq ?_
      obtain ⟨g27, h⟩ := gs h
      obtain ⟨g28, h⟩ := gs h
      obtain ⟨g30, h⟩ := gs h
      refine cw_drawL 13 [fun vz wz => vz = (V0_0 : Value), fun vz wz => vz = (.pointer (some ⟨(sb V0_0), so V0_0 + Int.toNat 4 * 1, none⟩) : Value), fun vz wz => vz = (.int .u8 (ix a0 4) : Value), fun vz wz => vz = (.int .i64 (IntKind.i64.wrap (ix a0 4)) : Value), fun vz wz => vz = (V0_0 : Value), fun vz wz => vz = (.pointer (some ⟨(sb V0_0), so V0_0 + Int.toNat 5 * 1, none⟩) : Value), fun vz wz => vz = (.int .u8 (ix a0 5) : Value), fun vz wz => vz = (.int .i64 (IntKind.i64.wrap (ix a0 5)) : Value), fun vz wz => vz = (V0_0 : Value), fun vz wz => ∃ u31 : Value, ∃ r29 : Rd (kI .u8) wz u31 (cut a0 8 (List.length a0 : Int)), vz = (u31 : Value), fun vz wz => vz = (sv (List.map toB (cut a0 8 (List.length a0 : Int))) : Value), fun vz wz => vz = (.int .i64 (IntKind.i64.wrap (ix a0 4)) : Value), fun vz wz => vz = (.int .i64 (IntKind.i64.wrap (ix a0 5)) : Value)] mo rfl ⟨fun _ _ _ h _ => h, fun _ _ _ h _ => h, fun _ _ _ h _ => h, fun _ _ _ h _ => h, fun _ _ _ h _ => h, fun _ _ _ h _ => h, fun _ _ _ h _ => h, fun _ _ _ h _ => h, fun _ _ _ h _ => h, fun _ _ _ ⟨u31, r29, h⟩ q => ⟨u31, r29.gr q, h⟩, fun _ _ _ h _ => h, fun _ _ _ h _ => h, fun _ _ _ h _ => h, trivial⟩ ?_ ?_
      · refine ⟨?_, ?_, ?_, ?_, ?_, ?_, ?_, ?_, ?_, ?_, ?_, ?_, ?_, trivial⟩
        · intro ρz wz hz hk hd
          exact sk_val (v := V0_0) (by exact xr_move rfl ((hk 0 rfl).trans e0)) rfl rfl
        · intro ρz wz hz hk hd
          have d32 := hd 0 rfl 32 rfl
          exact sk_val (by exact xr_indexR (K := (kI .u8)) (v := V0_0) rfl Try.underlying22 sz5 d32 (R0_0.gr (fB.gr hz)) rfl (by decide) g27) rfl rfl
        · intro ρz wz hz hk hd
          have d33 := hd 1 rfl 33 rfl
          exact sk_val (v := .int .u8 (ix a0 4)) (by exact xr_load1 (v := .int .u8 (ix a0 4)) rfl ag5 d33 ((R0_0.gr (fB.gr hz)).elem (by decide) g27)) rfl rfl
        · intro ρz wz hz hk hd
          have d34 := hd 2 rfl 34 rfl
          exact sk_val (v := .int .i64 (IntKind.i64.wrap (ix a0 4))) (by exact xr_conv rfl Try.underlying5 Try.underlying3 d34) rfl rfl
        · intro ρz wz hz hk hd
          exact sk_val (v := V0_0) (by exact xr_move rfl ((hk 0 rfl).trans e0)) rfl rfl
        · intro ρz wz hz hk hd
          have d36 := hd 4 rfl 36 rfl
          exact sk_val (by exact xr_indexR (K := (kI .u8)) (v := V0_0) rfl Try.underlying22 sz5 d36 (R0_0.gr (fB.gr hz)) rfl (by decide) g28) rfl rfl
        · intro ρz wz hz hk hd
          have d37 := hd 5 rfl 37 rfl
          exact sk_val (v := .int .u8 (ix a0 5)) (by exact xr_load1 (v := .int .u8 (ix a0 5)) rfl ag5 d37 ((R0_0.gr (fB.gr hz)).elem (by decide) g28)) rfl rfl
        · intro ρz wz hz hk hd
          have d38 := hd 6 rfl 38 rfl
          exact sk_val (v := .int .i64 (IntKind.i64.wrap (ix a0 5))) (by exact xr_conv rfl Try.underlying5 Try.underlying3 d38) rfl rfl
        · intro ρz wz hz hk hd
          exact sk_val (v := V0_0) (by exact xr_move rfl ((hk 0 rfl).trans e0)) rfl rfl
        · intro ρz wz hz hk hd
          have d40 := hd 8 rfl 40 rfl
          exact sk_val (by exact xr_slice_l (K := (kI .u8)) (v := V0_0) rfl Try.underlying22 sz5 d40 (R0_0.gr (fB.gr hz)) rfl (by decide) g30) rfl ⟨_, (R0_0.gr (fB.gr hz)).cut (lo := 8) (hi := (List.length a0 : Int)) (by decide) g30 (Int.le_refl _), rfl⟩
        · intro ρz wz hz hk hd
          obtain ⟨u31, r29, d41⟩ := hd 9 rfl 41 rfl
          exact sk_val (v := sv (List.map toB (cut a0 8 (List.length a0 : Int)))) (by exact xr_toStr rfl Try.underlying22 Try.underlying5 Try.underlying9 d41 r29) rfl rfl
        · intro ρz wz hz hk hd
          have d35 := hd 3 rfl 35 rfl
          exact sk_val (v := .int .i64 (IntKind.i64.wrap (ix a0 4))) (by exact xr_assign rfl d35) rfl rfl
        · intro ρz wz hz hk hd
          have d39 := hd 7 rfl 39 rfl
          exact sk_val (v := .int .i64 (IntKind.i64.wrap (ix a0 5))) (by exact xr_assign rfl d39) rfl rfl
      · intro ρ32 w33 q34 hk hd
        have e2 := hd 11 rfl 2 rfl
        have e3 := hd 12 rfl 3 rfl
        have e42 := hd 10 rfl 42 rfl
        have fB := fB.gr q34
        refine ol_val (v := sv (List.map toB (cut a0 8 (List.length a0 : Int)))) (by exact xr_assign rfl e42) rfl rfl rfl ?_
        refine ol_val (v := .bool true) (by exact xr_assign rfl rfl) rfl rfl rfl ?_
        refine ol_nil ?_
        refine cw_ret ?_
        repeat (first | with_reducible refine thn_r ?_ | with_reducible refine blk_r ?_)
        obtain rfl := Option.some.inj h
        refine fin_ret4 Try.results32 e2 e3 rfl rfl ?_
        exact ⟨_, rfl, rfl, fB⟩
end Go.Proofs.Ytjhajfkfhdnciaa

/- Blocks in plain words: how one is sealed, which octets are one, as the program and the document tell it. -/
set_option linter.unusedVariables false
set_option linter.unusedSimpArgs false
namespace Go.Proofs.Ytjhajfkfhdnciaa.Pure
open Go Go.Xw
theorem toB_inj {a b : Int} (ha : 0 ≤ a ∧ a ≤ 255) (hb : 0 ≤ b ∧ b ≤ 255) (h : toB a = toB b) : a = b := by
  unfold toB at h
  have := congrArg UInt8.toNat h
  simp only [UInt8.toNat_ofNat'] at this
  omega
theorem map_toB_inj : ∀ {a b : List Int}, Bytes a → Bytes b → a.map toB = b.map toB → a = b
  | [], [], _, _, _ => rfl
  | [], _ :: _, _, _, h => by simp at h
  | _ :: _, [], _, _, h => by simp at h
  | x :: a, y :: b, ha, hb, h => by
    simp only [List.map_cons, List.cons.injEq] at h
    rw [toB_inj (ha x (by simp)) (hb y (by simp)) h.1, map_toB_inj (fun z hz => ha z (by simp [hz])) (fun z hz => hb z (by simp [hz])) h.2]
theorem map_toB_iff {a b : List Int} (ha : Bytes a) (hb : Bytes b) : (a.map toB = b.map toB) ↔ a = b := ⟨map_toB_inj ha hb, fun h => by rw [h]⟩
theorem of_toB {l : List Int} (h : Bytes l) : (l.map toB).map ofB = l := by
  rw [List.map_map]
  conv => rhs; rw [← List.map_id l]
  apply List.map_congr_left
  intro x hx
  have := h x hx
  simp only [Function.comp, ofB, toB, UInt8.toNat_ofNat', id]
  omega
theorem Bytes.app {a b : List Int} (ha : Bytes a) (hb : Bytes b) : Bytes (a ++ b) := by
  intro x hx
  rcases List.mem_append.1 hx with h | h
  · exact ha x h
  · exact hb x h
theorem Bytes.rep (n : Nat) : Bytes (List.replicate n (0 : Int)) := by
  intro x hx
  obtain rfl := List.eq_of_mem_replicate hx
  omega
theorem Bytes.drop {l : List Int} (h : Bytes l) (n : Nat) : Bytes (l.drop n) := fun x hx => h x (List.mem_of_mem_drop hx)
theorem Bytes.take {l : List Int} (h : Bytes l) (n : Nat) : Bytes (l.take n) := fun x hx => h x (List.mem_of_mem_take hx)
/-- What is summed: kind, tag, a gap, the body with noughts behind it. -/
def summed (k t : Int) (body : List Int) : List Int := [k, t, 0, 0] ++ (body ++ List.replicate (56 - body.length) 0)
def sealed (s : List Int) : List Int := lay (crc s).toNat 4 ++ s
theorem summed_len {k t : Int} {body : List Int} (h : body.length ≤ 56) : (summed k t body).length = 60 := by
  simp [summed]
  omega
theorem summed_bytes {k t : Int} {body : List Int} (hk : 0 ≤ k ∧ k ≤ 255) (ht : 0 ≤ t ∧ t ≤ 255) (hb : Bytes body) : Bytes (summed k t body) := by
  refine Bytes.app ?_ (Bytes.app hb (Bytes.rep _))
  intro x hx
  simp only [List.mem_cons, List.not_mem_nil, or_false] at hx
  rcases hx with rfl | rfl | rfl | rfl <;> omega
theorem sealed_len {s : List Int} (h : s.length = 60) : (sealed s).length = 64 := by
  simp [sealed, lay_len, h]
theorem sealed_bytes {s : List Int} (h : Bytes s) : Bytes (sealed s) := Bytes.app (lay_bytes _ _) h
theorem x2_eq (k t : Int) : List.set (List.set (List.replicate (Int.toNat 64) (0 : Int)) (Int.toNat 4) k) (Int.toNat 5) t = [0, 0, 0, 0, k, t, 0, 0] ++ List.replicate 56 (0 : Int) := rfl
theorem x3_eq {k t : Int} {body : List Int} (h : body.length ≤ 56) : splL ([0, 0, 0, 0, k, t, 0, 0] ++ List.replicate 56 (0 : Int)) (Int.toNat 8) (List.take (List.length ([0, 0, 0, 0, k, t, 0, 0] ++ List.replicate 56 (0 : Int)) - Int.toNat 8) body) = [0, 0, 0, 0] ++ summed k t body := by
  have e : List.take (List.length ([0, 0, 0, 0, k, t, 0, 0] ++ List.replicate 56 (0 : Int)) - Int.toNat 8) body = body := List.take_of_length_le (by simpa using h)
  rw [e]
  have e2 : List.drop (8 + body.length) ([0, 0, 0, 0, k, t, 0, 0] ++ List.replicate 56 (0 : Int)) = List.replicate (56 - body.length) 0 := by
    have h8 : ([0, 0, 0, 0, k, t, 0, 0] : List Int).length = 8 := rfl
    rw [List.drop_append, List.drop_eq_nil_of_le (by rw [h8]; omega), List.nil_append, h8, List.drop_replicate]
    congr 1
    omega
  unfold splL summed
  rw [show (Int.toNat 8) = 8 from rfl, e2]
  simp
theorem lay4_eq {fu : Nat} (x : BitVec 32) (hf : 8 < fu) : octet_Lay.f fu (IntKind.u64.wrap (I32 x)) 4 = some (lay x.toNat 4) := by
  have hb := I32_lt x
  rw [wu64 hb.1 (by omega)]
  exact olay_eq (n := 4) (by decide) (by omega)
theorem rlay4_eq {fu : Nat} (x : BitVec 32) (hf : 8 < fu) : rickyardref01_Lay.f fu (IntKind.u64.wrap (I32 x)) 4 = some ((lay x.toNat 4).map toB) := by
  have hb := I32_lt x
  rw [wu64 hb.1 (by omega)]
  exact rlay_eq (n := 4) (by have := x.isLt; omega) (by decide) (by omega)
theorem seal_eq {fu : Nat} {k t : Int} {body : List Int} (hb : Bytes body) (hk : 1 ≤ k ∧ k ≤ 255) (ht : 0 ≤ t ∧ t ≤ 255) (hl : body.length ≤ 56) (hf : 100 < fu) : block_Seal.f fu k t body = some (sealed (summed k t body), true) := by
  have hs := summed_len (k := k) (t := t) hl
  have hsb := summed_bytes ⟨by omega, hk.2⟩ ht hb
  unfold block_Seal.f
  rw [wu8 (by omega : 0 ≤ k) hk.2, wu8 ht.1 ht.2]
  have c0 : (if (decide (k < 1)) = true then true else (if (decide (k ≥ 256)) = true then true else (if (decide (t < 0)) = true then true else (if (decide (t ≥ 256)) = true then true else (decide ((List.length body : Int) > 56)))))) = false := by
    have h1 : ¬ k < 1 := by omega
    have h2 : ¬ k ≥ 256 := by omega
    have h3 : ¬ t < 0 := by omega
    have h4 : ¬ t ≥ 256 := by omega
    have h5 : ¬ (List.length body : Int) > 56 := by omega
    simp [h1, h2, h3, h4, h5]
  rw [c0]
  simp only [x2_eq, x3_eq hl]
  have e1 : cut ([0, 0, 0, 0] ++ summed k t body) 4 (List.length ([0, 0, 0, 0] ++ summed k t body) : Int) = summed k t body := by
    unfold cut
    rw [Int.toNat_natCast, List.take_length]
    rfl
  have e2 : ∀ v, splL ([0, 0, 0, 0] ++ summed k t body) 0 (List.take (List.length ([0, 0, 0, 0] ++ summed k t body)) (lay v 4)) = lay v 4 ++ summed k t body := by
    intro v
    rw [List.take_of_length_le (by simp [lay_len])]
    unfold splL
    simp [lay_len]
  simp only [e1, e2, sum_eq (fu := fu) hsb (by omega) (by omega), Option.bind_some, lay4_eq (fu := fu) _ (by omega)]
  simp [hs, sealed]
theorem seal_no {fu : Nat} {k t : Int} {body : List Int} (h : k < 1 ∨ k > 255 ∨ t < 0 ∨ t > 255 ∨ body.length > 56) : block_Seal.f fu k t body = some ([], false) := by
  unfold block_Seal.f
  have c0 : (if (decide (k < 1)) = true then true else (if (decide (k ≥ 256)) = true then true else (if (decide (t < 0)) = true then true else (if (decide (t ≥ 256)) = true then true else (decide ((List.length body : Int) > 56)))))) = true := by
    by_cases h1 : k < 1
    · simp [h1]
    · by_cases h2 : k ≥ 256
      · simp [h2]
      · by_cases h3 : t < 0
        · simp [h3]
        · by_cases h4 : t ≥ 256
          · simp [h4]
          · have h5 : (List.length body : Int) > 56 := by omega
            simp [h5]
  rw [c0]
  rfl
theorem fill_eq {fu : Nat} {body : List Int} (hl : body.length ≤ 56) : rickyardref07_Fill.f fu (body.map toB) 56 = some ((body ++ List.replicate (56 - body.length) 0).map toB) := by
  unfold rickyardref07_Fill.f
  have e1 : mxI (IntKind.i64.wrap (56 - (List.length (body.map toB) : Int))) 0 = ((56 - body.length : Nat) : Int) := by
    rw [List.length_map, w64 (by omega) (by omega)]
    unfold mxI
    split <;> omega
  have hL : (100 : Nat) ≤ LIM := by decide
  rw [e1, Int.toNat_natCast, if_pos ⟨by omega, by omega⟩, if_pos (by simp only [List.length_map, List.length_replicate]; omega), List.map_append]
theorem rseal_eq {fu : Nat} {k t : Int} {body : List Int} (hb : Bytes body) (hk : 0 ≤ k ∧ k ≤ 255) (ht : 0 ≤ t ∧ t ≤ 255) (hl : body.length ≤ 56) (hf : 100 < fu) : rickyardref07_Seal.f fu k t (body.map toB) = some ((sealed (summed k t body)).map toB) := by
  have hs := summed_len (k := k) (t := t) hl
  have hsb := summed_bytes hk ht hb
  unfold rickyardref07_Seal.f
  rw [wu8 hk.1 hk.2, wu8 ht.1 ht.2]
  have e1 : List.map toB [k, t, 0, 0] ++ List.map toB (body ++ List.replicate (56 - body.length) 0) = (summed k t body).map toB := by
    rw [← List.map_append]
    rfl
  have hL : (100 : Nat) ≤ LIM := by decide
  have e2 : List.length (List.map toB [k, t, 0, 0]) + List.length (List.map toB (body ++ List.replicate (56 - body.length) 0)) ≤ LIM := by
    simp
    omega
  simp only [fill_eq (fu := fu) hl, Option.bind_some, e1, of_toB hsb, rsum_eq (fu := fu) hsb (by omega) (by omega), rlay4_eq (fu := fu) _ (by omega : 8 < fu)]
  rw [if_pos e2, if_pos (by simp [lay_len, hs]; omega)]
  simp [sealed]
theorem there_eq {fu : Nat} {b : List Int} {i n : Nat} (hl : b.length ≤ 9000000000000000000) (h : i + n ≤ b.length) : octet_there.f fu b (i : Int) (n : Int) = some true := by
  unfold octet_there.f
  have h1 : (i : Int) ≥ 0 := by omega
  have h2 : (n : Int) ≥ 0 := by omega
  have h3 : (n : Int) ≤ (b.length : Int) := by omega
  have h4 : IntKind.i64.wrap ((b.length : Int) - (n : Int)) = (b.length : Int) - (n : Int) := w64 (by omega) (by omega)
  have h5 : (i : Int) ≤ (b.length : Int) - (n : Int) := by omega
  simp [h1, h2, h3, h4, h5]
theorem noughts_from {fu : Nat} (b : List Int) (x n : Int) {C : List Int} (hC : cut b x (IntKind.i64.wrap (x + n)) = C) (hl : C.length ≤ 9000000000000000000) : ∀ k m, m ≤ C.length → C.length - m < k → loopM (octet_Noughts.s0 fu b x n) k (m : Int) = some (if ∀ y ∈ C.drop m, y = 0 then .inr () else .inl false)
  | 0, m, _, hk => by omega
  | k + 1, m, hm, hk => by
    unfold loopM
    by_cases e : m = C.length
    · subst e
      have : octet_Noughts.s0 fu b x n (C.length : Int) = some (.inl (.inr ())) := by
        unfold octet_Noughts.s0
        rw [hC]
        simp
      rw [this]
      simp
    · have hlt : m < C.length := by omega
      have hx : ix C (m : Int) = C[m] := ix_nat hlt
      rw [List.drop_eq_getElem_cons hlt]
      have h1 : (m : Int) < (C.length : Int) := by omega
      by_cases hn : C[m] = 0
      · have w3 : IntKind.i64.wrap ((m : Int) + 1) = ((m + 1 : Nat) : Int) := by rw [w64 (by omega) (by omega)]; omega
        have : octet_Noughts.s0 fu b x n (m : Int) = some (.inr ((m + 1 : Nat) : Int)) := by
          unfold octet_Noughts.s0
          rw [hC]
          simp [h1, hx, hn, w3, hlt]
        rw [this]
        simp only
        rw [noughts_from b x n hC hl k (m + 1) (by omega) (by omega)]
        have e3 : (∀ y ∈ C[m] :: C.drop (m + 1), y = 0) ↔ ∀ y ∈ C.drop (m + 1), y = 0 := by
          constructor
          · intro h y hy
            exact h y (List.mem_cons_of_mem _ hy)
          · intro h y hy
            rcases List.mem_cons.1 hy with rfl | hy
            · exact hn
            · exact h y hy
        simp only [e3]
      · have : octet_Noughts.s0 fu b x n (m : Int) = some (.inl (.inl false)) := by
          unfold octet_Noughts.s0
          rw [hC]
          simp [h1, hx, hn, hlt]
        rw [this]
        have e3 : ¬ (∀ y ∈ C[m] :: C.drop (m + 1), y = 0) := fun h => hn (h _ (List.mem_cons_self ..))
        simp only [e3, if_false]
theorem noughts_eq {fu : Nat} {b : List Int} {i n : Nat} (hl : b.length ≤ 9000000000000000000) (h : i + n ≤ b.length) (hf : n < fu) : octet_Noughts.f fu b (i : Int) (n : Int) = some (decide (∀ y ∈ (b.drop i).take n, y = 0)) := by
  unfold octet_Noughts.f
  rw [there_eq hl h]
  have w1 : IntKind.i64.wrap ((i : Int) + (n : Int)) = ((i + n : Nat) : Int) := by rw [w64 (by omega) (by omega)]; omega
  have hC : cut b (i : Int) (IntKind.i64.wrap ((i : Int) + (n : Int))) = (b.drop i).take n := by
    rw [w1]
    unfold cut
    rw [Int.toNat_natCast, Int.toNat_natCast, List.drop_take]
    congr 1
    omega
  have hlen : ((b.drop i).take n).length = n := by
    rw [List.length_take, List.length_drop]
    omega
  have := noughts_from (fu := fu) b (i : Int) (n : Int) hC (by omega) fu 0 (by omega) (by omega)
  rw [Int.natCast_zero, List.drop_zero] at this
  have c1 : 0 ≤ (i : Int) ∧ (i : Int) ≤ IntKind.i64.wrap ((i : Int) + (n : Int)) ∧ IntKind.i64.wrap ((i : Int) + (n : Int)) ≤ (b.length : Int) := by
    rw [w1]
    omega
  simp only [Option.bind_some, Bool.not_true, Bool.false_eq_true, if_false]
  rw [if_pos c1, this]
  by_cases hz : ∀ y ∈ (b.drop i).take n, y = 0
  · rw [if_pos hz]
    simp only [Option.bind_some, decide_eq_true hz]
  · rw [if_neg hz]
    simp only [Option.bind_some, decide_eq_false hz]
/-- Octets that are a block. -/
def Is (b : List Int) : Prop := b.length = 64 ∧ ix b 4 ≠ 0 ∧ b = sealed (summed (ix b 4) (ix b 5) (b.drop 8))
instance (b : List Int) : Decidable (Is b) := inferInstanceAs (Decidable (_ ∧ _))
theorem parts {b : List Int} (h : b.length = 64) : b = b.take 4 ++ ([ix b 4, ix b 5, ix b 6, ix b 7] ++ b.drop 8) := by
  have e : b.drop 4 = [ix b 4, ix b 5, ix b 6, ix b 7] ++ b.drop 8 := by
    have g : ∀ j : Nat, j < 64 → b.drop j = ix b (j : Int) :: b.drop (j + 1) := by
      intro j hj
      rw [List.drop_eq_getElem_cons (by omega), ix_nat (by omega)]
    rw [g 4 (by omega), g 5 (by omega), g 6 (by omega), g 7 (by omega)]
    rfl
  rw [← e, List.take_append_drop]
theorem gap_eq {b : List Int} (h : b.length = 64) : (b.drop 6).take 2 = [ix b 6, ix b 7] := by
  have g : ∀ j : Nat, j < 64 → b.drop j = ix b (j : Int) :: b.drop (j + 1) := by
    intro j hj
    rw [List.drop_eq_getElem_cons (by omega), ix_nat (by omega)]
  rw [g 6 (by omega), g 7 (by omega)]
  rfl
theorem drop4 {b : List Int} (h : b.length = 64) : b.drop 4 = [ix b 4, ix b 5, ix b 6, ix b 7] ++ b.drop 8 := by
  have g : ∀ j : Nat, j < 64 → b.drop j = ix b (j : Int) :: b.drop (j + 1) := by
    intro j hj
    rw [List.drop_eq_getElem_cons (by omega), ix_nat (by omega)]
  rw [g 4 (by omega), g 5 (by omega), g 6 (by omega), g 7 (by omega)]
  rfl
theorem summed_full (k t : Int) {body : List Int} (h : body.length = 56) : summed k t body = [k, t, 0, 0] ++ body := by
  unfold summed
  rw [h]
  simp
theorem is_iff {b : List Int} (hb : Bytes b) (h : b.length = 64) : b = sealed (summed (ix b 4) (ix b 5) (b.drop 8)) ↔ (ix b 6 = 0 ∧ ix b 7 = 0) ∧ num (b.take 4) = (crc (b.drop 4)).toNat := by
  have h8 : (b.drop 8).length = 56 := by rw [List.length_drop, h]
  have h4 : (b.take 4).length = 4 := by rw [List.length_take, h]; rfl
  rw [summed_full _ _ h8]
  constructor
  · intro e
    have e2 : b.take 4 ++ b.drop 4 = lay (crc ([ix b 4, ix b 5, 0, 0] ++ b.drop 8)).toNat 4 ++ ([ix b 4, ix b 5, 0, 0] ++ b.drop 8) := by
      rw [List.take_append_drop]
      exact e
    obtain ⟨e3, e4⟩ := List.append_inj e2 (by rw [h4, lay_len])
    have e5 := e4
    rw [drop4 h] at e5
    have e6 := List.append_inj_left e5 rfl
    simp only [List.cons.injEq, and_true, true_and] at e6
    refine ⟨e6, ?_⟩
    rw [e3, e4, num_lay]
    exact Nat.mod_eq_of_lt (crc _).isLt
  · rintro ⟨⟨h6, h7⟩, hn⟩
    have e4 : b.drop 4 = [ix b 4, ix b 5, 0, 0] ++ b.drop 8 := by
      have := drop4 h
      rw [h6, h7] at this
      exact this
    unfold sealed
    rw [← e4, ← hn]
    have := lay_num (hb.take 4)
    rw [h4] at this
    rw [this, List.take_append_drop]
theorem right_is {fu : Nat} {b : List Int} (hb : Bytes b) (hl : b.length ≤ 9000000000000000000) (hf : 100 < fu) : block_right.f fu b = some (decide (Is b)) := by
  unfold block_right.f
  by_cases h : b.length = 64
  · have hL : (b.length : Int) = 64 := by omega
    by_cases h4 : ix b 4 = 0
    · simp [hL, h4, Is]
    · have hn : octet_Noughts.f fu b 6 2 = some (decide (∀ y ∈ (b.drop 6).take 2, y = 0)) := noughts_eq (i := 6) (n := 2) hl (by omega) (by omega)
      have hg : (∀ y ∈ (b.drop 6).take 2, y = 0) ↔ ix b 6 = 0 ∧ ix b 7 = 0 := by
        rw [gap_eq h]
        simp
      by_cases hz : ix b 6 = 0 ∧ ix b 7 = 0
      · have c1 : cut b 0 4 = b.take 4 := by
          unfold cut
          rfl
        have c2 : cut b 4 (b.length : Int) = b.drop 4 := by
          unfold cut
          rw [Int.toNat_natCast, List.take_length]
          rfl
        have h4' : (b.take 4).length = 4 := by rw [List.length_take, h]; rfl
        have hr : octet_Read.f fu (b.take 4) = some ((num (b.take 4) : Nat) : Int) := read_eq (hb.take 4) (by omega) (by omega)
        have hlt : num (b.take 4) < 4294967296 := by
          have := num_lt (hb.take 4)
          rwa [h4'] at this
        have hd : (b.drop 4).length = 60 := by rw [List.length_drop, h]
        have hs : crc_Sum.f fu [b.drop 4] = some (I32 (crc (b.drop 4))) := sum_eq (hb.drop 4) (by omega) (by omega)
        have hw : IntKind.u32.wrap ((num (b.take 4) : Nat) : Int) = ((num (b.take 4) : Nat) : Int) := wu32 (by omega) (by omega)
        have hi : Is b ↔ num (b.take 4) = (crc (b.drop 4)).toNat := by
          unfold Is
          rw [is_iff hb h]
          exact ⟨fun x => x.2.2.2, fun x => ⟨h, h4, hz, x⟩⟩
        have hq : (I32 (crc (b.drop 4)) = ((num (b.take 4) : Nat) : Int)) ↔ Is b := by
          rw [hi]
          unfold I32
          omega
        unfold crc_Fits.f
        rw [hn, decide_eq_true (hg.2 hz), c1, c2, hr]
        simp only [Option.bind_some, hw, hs, hq]
        have hL5 : (4 : Int) < (b.length : Int) := by omega
        have hL6 : (4 : Int) ≤ (b.length : Int) := by omega
        simp [hL, h4]
      · have hi : ¬ Is b := by
          intro x
          unfold Is at x
          rw [is_iff hb h] at x
          exact hz x.2.2.1
        rw [hn, decide_eq_false (fun x => hz (hg.1 x))]
        simp [hL, h4, hi]
  · have hi : ¬ Is b := fun x => h x.1
    have hL : ¬ (b.length : Int) = 64 := by omega
    simp [hL, hi]
theorem open_eq {fu : Nat} {b : List Int} (hb : Bytes b) (hl : b.length ≤ 9000000000000000000) (hf : 100 < fu) : block_Open.f fu b = some (if Is b then (ix b 4, ix b 5, b.drop 8, true) else (0, 0, [], false)) := by
  unfold block_Open.f
  rw [right_is hb hl hf]
  by_cases h : Is b
  · have h0 := h.1
    have c2 : cut b 8 (b.length : Int) = b.drop 8 := by
      unfold cut
      rw [Int.toNat_natCast, List.take_length]
      rfl
    have hc : bytes_Clone.f fu (b.drop 8) = some (b.drop 8) := by
      unfold bytes_Clone.f
      rw [if_pos]
      rw [List.length_drop, h0]
      decide
    have h4 : 0 ≤ ix b 4 ∧ ix b 4 ≤ 255 := by
      have := ix_nat (l := b) (j := 4) (by omega)
      rw [show ((4 : Nat) : Int) = 4 from rfl] at this
      rw [this]
      exact hb _ (List.getElem_mem _)
    have h5 : 0 ≤ ix b 5 ∧ ix b 5 ≤ 255 := by
      have := ix_nat (l := b) (j := 5) (by omega)
      rw [show ((5 : Nat) : Int) = 5 from rfl] at this
      rw [this]
      exact hb _ (List.getElem_mem _)
    have w4 : IntKind.i64.wrap (ix b 4) = ix b 4 := w64 (by omega) (by omega)
    have w5 : IntKind.i64.wrap (ix b 5) = ix b 5 := w64 (by omega) (by omega)
    simp only [c2, hc, w4, w5]
    simp [h, h0]
  · simp [h]
theorem kind_eq {fu : Nat} {b : List Int} (hb : Bytes b) (hl : b.length ≤ 9000000000000000000) (hf : 100 < fu) : block_Kind.f fu b = some (if Is b then ix b 4 else 0) := by
  unfold block_Kind.f
  rw [right_is hb hl hf]
  by_cases h : Is b
  · have h0 := h.1
    have h4 : 0 ≤ ix b 4 ∧ ix b 4 ≤ 255 := by
      have := ix_nat (l := b) (j := 4) (by omega)
      rw [show ((4 : Nat) : Int) = 4 from rfl] at this
      rw [this]
      exact hb _ (List.getElem_mem _)
    have w4 : IntKind.i64.wrap (ix b 4) = ix b 4 := w64 (by omega) (by omega)
    simp [h, h0, w4]
  · simp [h]
theorem sealed_parts (k t : Int) (body : List Int) : ix (sealed (summed k t body)) 4 = k ∧ ix (sealed (summed k t body)) 5 = t ∧ (sealed (summed k t body)).drop 8 = body ++ List.replicate (56 - body.length) 0 := by
  unfold sealed
  obtain ⟨a, b, c, d, e⟩ : ∃ a b c d, lay (crc (summed k t body)).toNat 4 = [a, b, c, d] := ⟨_, _, _, _, rfl⟩
  rw [e]
  exact ⟨rfl, rfl, rfl⟩
theorem fulled (body : List Int) (h : body.length ≤ 56) : (body ++ List.replicate (56 - body.length) (0 : Int)).length = 56 := by
  simp
  omega
theorem is_sealed {k t : Int} {body : List Int} (hk : k ≠ 0) (hl : body.length ≤ 56) : Is (sealed (summed k t body)) := by
  obtain ⟨h4, h5, h8⟩ := sealed_parts k t body
  refine ⟨sealed_len (summed_len hl), by rw [h4]; exact hk, ?_⟩
  rw [h4, h5, h8, summed_full k t (fulled body hl)]
  rfl
theorem ix_byte {b : List Int} (hb : Bytes b) (j : Nat) (h : j < b.length) : 0 ≤ ix b (j : Int) ∧ ix b (j : Int) ≤ 255 := by
  rw [ix_nat h]
  exact hb _ (List.getElem_mem _)
theorem ropen_eq {fu : Nat} {b : List Int} (hb : Bytes b) (hf : 100 < fu) : rickyardref07_Open.f fu b = some (if Is b then (ix b 4, ix b 5, (b.drop 8).map toB, true) else (0, 0, [], false)) := by
  unfold rickyardref07_Open.f
  by_cases h : b.length = 64
  · have hL : (b.length : Int) = 64 := by omega
    have b4 := ix_byte hb 4 (by omega)
    have b5 := ix_byte hb 5 (by omega)
    rw [show ((4 : Nat) : Int) = 4 from rfl] at b4
    rw [show ((5 : Nat) : Int) = 5 from rfl] at b5
    have w4 : IntKind.i64.wrap (ix b 4) = ix b 4 := w64 (by omega) (by omega)
    have w5 : IntKind.i64.wrap (ix b 5) = ix b 5 := w64 (by omega) (by omega)
    have c2 : cut b 8 (b.length : Int) = b.drop 8 := by
      unfold cut
      rw [Int.toNat_natCast, List.take_length]
      rfl
    have h8 : (b.drop 8).length = 56 := by rw [List.length_drop, h]
    have hs : rickyardref07_Seal.f fu (ix b 4) (ix b 5) ((b.drop 8).map toB) = some ((sealed (summed (ix b 4) (ix b 5) (b.drop 8))).map toB) := rseal_eq (hb.drop 8) b4 b5 (by omega) hf
    have hq : (sealed (summed (ix b 4) (ix b 5) (b.drop 8))).map toB = b.map toB ↔ b = sealed (summed (ix b 4) (ix b 5) (b.drop 8)) :=
      (map_toB_iff (sealed_bytes (summed_bytes b4 b5 (hb.drop 8))) hb).trans ⟨Eq.symm, Eq.symm⟩
    rw [c2, w4, w5]
    by_cases h4 : ix b 4 = 0
    · have hi : ¬ Is b := fun x => x.2.1 h4
      simp [hL, h4, hi]
    · by_cases he : b = sealed (summed (ix b 4) (ix b 5) (b.drop 8))
      · have hi : Is b := ⟨h, h4, he⟩
        simp only [hs, hq.2 he]
        simp [hL, h4, hi]
      · have hi : ¬ Is b := fun x => he x.2.2
        have hne : ¬ (sealed (summed (ix b 4) (ix b 5) (b.drop 8))).map toB = b.map toB := fun x => he (hq.1 x)
        simp only [hs, hne]
        simp [hL, h4, hi]
        exact hne
  · have hi : ¬ Is b := fun x => h x.1
    have hL : ¬ (b.length : Int) = 64 := by omega
    simp [hL, hi]
theorem bytes_of {l : List Int} (h : ∀ x ∈ l, (Lit.int .u8 x).wf = true) : Bytes l := fun x hx => wf8.1 (h x hx)
end Go.Proofs.Ytjhajfkfhdnciaa.Pure

/- Blocks that are sealed anew; arrays filled place by place. -/
set_option linter.unusedVariables false
set_option linter.unusedSimpArgs false
namespace Go.Proofs.Ytjhajfkfhdnciaa.Pure
open Go Go.Xw
theorem summed_fulled (k t : Int) (body : List Int) (h : body.length ≤ 56) : summed k t body = summed k t (body ++ List.replicate (56 - body.length) 0) := by
  rw [summed_full k t (fulled body h)]
  rfl
theorem sealed_iff {b : List Int} (hi : Is b) {k t : Int} {body : List Int} (hl : body.length ≤ 56) : sealed (summed k t body) = b ↔ k = ix b 4 ∧ t = ix b 5 ∧ body ++ List.replicate (56 - body.length) 0 = b.drop 8 := by
  obtain ⟨p4, p5, p8⟩ := sealed_parts k t body
  constructor
  · intro e
    rw [← e]
    exact ⟨p4.symm, p5.symm, p8.symm⟩
  · rintro ⟨h1, h2, h3⟩
    rw [summed_fulled k t body hl, h1, h2, h3]
    exact hi.2.2.symm
theorem sealed_map_iff {b : List Int} (hb : Bytes b) (hi : Is b) {k t : Int} {body : List Int} (hk : 0 ≤ k ∧ k ≤ 255) (ht : 0 ≤ t ∧ t ≤ 255) (hbb : Bytes body) (hl : body.length ≤ 56) :
    (sealed (summed k t body)).map toB = b.map toB ↔ k = ix b 4 ∧ t = ix b 5 ∧ body ++ List.replicate (56 - body.length) 0 = b.drop 8 :=
  (map_toB_iff (sealed_bytes (summed_bytes hk ht hbb)) hb).trans (sealed_iff hi hl)
theorem is_tag {b : List Int} (hb : Bytes b) (hi : Is b) : (0 ≤ ix b 4 ∧ ix b 4 ≤ 255) ∧ (0 ≤ ix b 5 ∧ ix b 5 ≤ 255) := by
  have h0 := hi.1
  exact ⟨ix_byte hb 4 (by omega), ix_byte hb 5 (by omega)⟩
theorem is_body {b : List Int} (hi : Is b) : (b.drop 8).length = 56 := by rw [List.length_drop, hi.1]
theorem full_iff {body full : List Int} (hl : body.length ≤ 56) (hf : full.length = 56) : body ++ List.replicate (56 - body.length) 0 = full ↔ body = full.take body.length ∧ ∀ y ∈ full.drop body.length, y = 0 := by
  constructor
  · intro e
    subst e
    refine ⟨by simp, fun y hy => ?_⟩
    rw [List.drop_left' rfl] at hy
    exact List.eq_of_mem_replicate hy
  · rintro ⟨h1, h2⟩
    have h3 : full.drop body.length = List.replicate (56 - body.length) 0 := by
      apply List.eq_replicate_iff.2
      exact ⟨by rw [List.length_drop, hf], h2⟩
    rw [← h3]
    conv => lhs; lhs; rw [h1]
    exact List.take_append_drop _ _
/-! ### Arrays filled place by place -/
def fillA {n : Nat} {α : Type} (f : Nat → α) (a : Arr n α) : Nat → Arr n α
  | 0 => a
  | j + 1 => Arr.set (fillA f a j) (j : Int) (f j)
theorem fillA_l {n : Nat} {α : Type} (f : Nat → α) (a : Arr n α) : ∀ j, j ≤ n → (fillA f a j).l = (List.range j).map f ++ a.l.drop j
  | 0, _ => by simp [fillA]
  | j + 1, h => by
    have ih := fillA_l f a j (by omega)
    have ha := a.h
    show List.set (fillA f a j).l (Int.toNat (j : Int)) (f j) = _
    rw [ih, Int.toNat_natCast, List.set_append_right _ _ (by simp), List.length_map, List.length_range, Nat.sub_self, List.range_succ, List.map_append]
    rw [List.drop_eq_getElem_cons (by omega), List.set_cons_zero]
    simp
theorem fillA_all {n : Nat} {α : Type} (f : Nat → α) (a : Arr n α) : (fillA f a n).l = (List.range n).map f := by
  rw [fillA_l f a n (Nat.le_refl _)]
  have := a.h
  simp [← this]
theorem take_range {l : List Int} {n : Nat} (h : n ≤ l.length) : l.take n = (List.range n).map fun (j : Nat) => ix l (j : Int) := by
  apply List.ext_getElem
  · simp [h]
  · intro i h1 h2
    have hi : i < n := by simpa using h2
    simp [ix_nat (show i < l.length by omega)]
theorem getA {n : Nat} {α : Type} [Inhabited α] (a : Arr n α) {i : Nat} (hi : i < n) : Arr.get a (i : Int) = a.l[i]'(by rw [a.h]; exact hi) := by
  have hl : i < a.l.length := by rw [a.h]; exact hi
  simp [Arr.get, ix, List.getD_eq_getElem?_getD, List.getElem?_eq_getElem hl]
theorem lA {n : Nat} {α : Type} [Inhabited α] (a : Arr n α) : a.l = (List.range n).map fun (i : Nat) => Arr.get a (i : Int) := by
  apply List.ext_getElem
  · simp [a.h]
  · intro i h1 h2
    have hi : i < n := by rw [← a.h]; exact h1
    simp [getA a hi]
theorem getD_toB {l : List Int} (hb : Bytes l) {i : Nat} (h : i < l.length) : ofB (List.getD (l.map toB) (Int.toNat (i : Int)) 0) = ix l (i : Int) := by
  rw [Int.toNat_natCast, List.getD_eq_getElem?_getD, List.getElem?_map, List.getElem?_eq_getElem h, ix_nat h]
  have := of_toB (l := [l[i]]) (by intro x hx; obtain rfl := List.mem_singleton.1 hx; exact hb _ (List.getElem_mem h))
  simpa using this
end Go.Proofs.Ytjhajfkfhdnciaa.Pure

/- rickyard/rickyardref01.Number: its model, and that the Go function computes it: written by gen.py. -/
set_option linter.unusedVariables false
namespace Go.Proofs.Ytjhajfkfhdnciaa
open Go Go.Xw
def rickyardref01_Number.s0 (fu : Nat) (a0 : List UInt8) : (Int × Int) → Option (Sum Int (Int × Int)) := fun s1 => (if (decide (s1.2 ≥ 0)) = true then (((if (decide (s1.2 < 8)) = true then (if 0 ≤ s1.2 ∧ s1.2 < (List.length a0 : Int) then some ((IntKind.u64.wrap ((IntKind.u64.wrap (s1.1 * 256)) + (IntKind.u64.wrap (ofB (List.getD a0 (Int.toNat s1.2) 0)))))) else none) else some (s1.1)) : Option Int).bind fun x9 => some (Sum.inr (x9, (IntKind.i64.wrap (s1.2 - 1))))) else some (Sum.inl (s1.1)))
def rickyardref01_Number.f (fu : Nat) (a0 : List UInt8) : Option Int := ((loopM (rickyardref01_Number.s0 fu a0) fu (0, (IntKind.i64.wrap ((List.length a0 : Int) - 1)))).bind fun e2 => some (e2))
set_option maxRecDepth 100000 in
set_option maxHeartbeats 400000 in
theorem rickyardref01_Number.ok (fu : Nat) (w : World) (a0 : List UInt8) (r : Int) (h : rickyardref01_Number.f fu a0 = some r) :
    Calls Try.prog 136 (([sv a0] : List Value).toArray) w (fun e w' => ∃ v, e = .returned v ∧ v = .int .u64 r ∧ Gr w w') := by
  unfold rickyardref01_Number.f at h
  have fB : Gr w w := Fr.refl _ _
  refine calls_cw Try.func136 rfl Try.ntmps136 rfl ?_
  refine cw_seq ?_
  refine cw_region ?_
  refine ol_val (v := .int .u64 0) (by exact xr_assign rfl rfl) rfl rfl rfl ?_
  refine ol_nil ?_
  refine cw_seq ?_
  refine cw_region ?_
  refine ol_val (v := .int .u64 0) (by exact xr_assign rfl rfl) rfl rfl rfl ?_
  refine ol_nil ?_
  refine cw_seq ?_
  refine cw_seq ?_
  refine cw_region ?_
  refine ol_val (v := sv a0) (by exact xr_move rfl rfl) rfl rfl rfl ?_
  refine ol_val (v := .int .i64 (List.length a0 : Int)) (by exact xr_lenStr rfl Try.underlying9 rfl) rfl rfl rfl ?_
  refine ol_val (v := .int .i64 (IntKind.i64.wrap ((List.length a0 : Int) - 1))) (by exact xr_sub rfl rfl rfl) rfl rfl rfl ?_
  refine ol_val (v := .int .i64 (IntKind.i64.wrap ((List.length a0 : Int) - 1))) (by exact xr_assign rfl rfl) rfl rfl rfl ?_
  refine ol_nil ?_
  obtain ⟨e2, l3, h4⟩ := bs h
  refine cw_mid (fun ρ' w' => ρ' 3 = .int .u64 e2 ∧ Gr w w') ?_ ?_
  · refine cw_block ?_
    refine cw_round (fun (s1 : Int × Int) ρ' w' => ρ' 0 = sv a0 ∧ ρ' 3 = .int .u64 s1.1 ∧ ρ' 4 = .int .i64 s1.2 ∧ Gr w w') l3 ?_ ?_
    · skip
      exact ⟨rfl, rfl, rfl, fB⟩
    · rintro s1 x7 ρ5 w6 ⟨e0, e3, e4, fB⟩ h
      unfold rickyardref01_Number.s0 at h
      refine cw_seq ?_
      refine cw_seq ?_
      refine cw_region ?_
      refine ol_val (v := .int .i64 s1.2) (by exact xr_move rfl e4) rfl rfl rfl ?_
      refine ol_val (v := .bool (decide (s1.2 ≥ 0))) (by exact xr_geq rfl rfl rfl) rfl rfl rfl ?_
      refine ol_nil ?_
      rcases is h with ⟨c8, h⟩ | ⟨c8, h⟩
      · refine cw_condT rfl c8 ?_
        refine cw_skip ?_
        refine cw_seq ?_
        refine cw_block ?_
        refine cw_seq ?_
        refine cw_region ?_
        refine ol_val (v := .int .i64 s1.2) (by exact xr_move rfl e4) rfl rfl rfl ?_
        refine ol_val (v := .bool (decide (s1.2 < 8))) (by exact xr_lss rfl rfl rfl) rfl rfl rfl ?_
        refine ol_nil ?_
        obtain ⟨x9, j10, h11⟩ := bs h
        refine cw_mid (fun ρ' w' => ρ' 0 = sv a0 ∧ ρ' 3 = .int .u64 x9 ∧ ρ' 4 = .int .i64 s1.2 ∧ Gr w w') ?_ ?_
        · have h := j10
          rcases is h with ⟨c12, h⟩ | ⟨c12, h⟩
          · refine cw_condT rfl c12 ?_
            refine cw_region ?_
            refine ol_val (v := .int .u64 s1.1) (by exact xr_move rfl e3) rfl rfl rfl ?_
            refine ol_val (v := .int .u64 (IntKind.u64.wrap (s1.1 * 256))) (by exact xr_mul rfl rfl rfl) rfl rfl rfl ?_
            refine ol_val (v := sv a0) (by exact xr_move rfl e0) rfl rfl rfl ?_
            refine ol_val (v := .int .i64 s1.2) (by exact xr_move rfl e4) rfl rfl rfl ?_
            obtain ⟨g13, h⟩ := gs h
            refine ol_val (v := .int .u8 (ofB (List.getD a0 (Int.toNat s1.2) 0))) (by exact xr_indexStr rfl Try.underlying9 rfl rfl g13.1 g13.2) rfl rfl rfl ?_
            refine ol_val (v := .int .u64 (IntKind.u64.wrap (ofB (List.getD a0 (Int.toNat s1.2) 0)))) (by exact xr_conv rfl Try.underlying5 Try.underlying129 rfl) rfl rfl rfl ?_
            refine ol_val (v := .int .u64 (IntKind.u64.wrap ((IntKind.u64.wrap (s1.1 * 256)) + (IntKind.u64.wrap (ofB (List.getD a0 (Int.toNat s1.2) 0)))))) (by exact xr_add rfl rfl rfl) rfl rfl rfl ?_
            refine ol_val (v := .int .u64 (IntKind.u64.wrap ((IntKind.u64.wrap (s1.1 * 256)) + (IntKind.u64.wrap (ofB (List.getD a0 (Int.toNat s1.2) 0)))))) (by exact xr_assign rfl rfl) rfl rfl rfl ?_
            refine ol_nil ?_
            obtain rfl := Option.some.inj h
            refine thn_i ?_
            exact ⟨e0, rfl, e4, fB⟩
          · refine cw_condF rfl c12 ?_
            refine cw_skip ?_
            obtain rfl := Option.some.inj h
            refine thn_i ?_
            exact ⟨e0, e3, e4, fB⟩
        · rintro ρ14 w15 ⟨e0, e3, e4, fB⟩
          have h := h11
          refine blk_i ?_
          refine cw_region ?_
          refine ol_val (v := .int .i64 s1.2) (by exact xr_move rfl e4) rfl rfl rfl ?_
          refine ol_val (v := .int .i64 (IntKind.i64.wrap (s1.2 - 1))) (by exact xr_sub rfl rfl rfl) rfl rfl rfl ?_
          refine ol_val (v := .int .i64 (IntKind.i64.wrap (s1.2 - 1))) (by exact xr_assign rfl rfl) rfl rfl rfl ?_
          refine ol_nil ?_
          obtain rfl := Option.some.inj h
          refine lp_in ?_
          exact ⟨e0, e3, rfl, fB⟩
      · refine cw_condF rfl c8 ?_
        refine cw_exit ?_
        repeat (first | with_reducible refine thn_e ?_ | with_reducible refine blk_e rfl ?_)
        obtain rfl := Option.some.inj h
        refine lp_exit ?_
        rintro rfl
        refine thn_x ?_
        exact ⟨e3, fB⟩
  · rintro ρ16 w17 ⟨e3, fB⟩
    have h := h4
    refine cw_seq ?_
    refine cw_region ?_
    refine ol_val (v := .int .u64 e2) (by exact xr_move rfl e3) rfl rfl rfl ?_
    refine ol_val (v := .int .u64 e2) (by exact xr_assign rfl rfl) rfl rfl rfl ?_
    refine ol_nil ?_
    refine cw_ret ?_
    repeat (first | with_reducible refine thn_r ?_ | with_reducible refine blk_r ?_)
    obtain rfl := Option.some.inj h
    refine fin_ret1 Try.results136 rfl ?_
    exact ⟨_, rfl, rfl, fB⟩
end Go.Proofs.Ytjhajfkfhdnciaa

/- rickyard/rickyardref01.Int: its model, and that the Go function computes it: written by gen.py. -/
set_option linter.unusedVariables false
namespace Go.Proofs.Ytjhajfkfhdnciaa
open Go Go.Xw
def rickyardref01_Int.f (fu : Nat) (a0 : List UInt8) : Option Int := ((rickyardref01_Number.f fu a0 : Option Int).bind fun t1 => some ((IntKind.i64.wrap t1)))
set_option maxRecDepth 100000 in
set_option maxHeartbeats 400000 in
theorem rickyardref01_Int.ok (fu : Nat) (w : World) (a0 : List UInt8) (r : Int) (h : rickyardref01_Int.f fu a0 = some r) :
    Calls Try.prog 103 (([sv a0] : List Value).toArray) w (fun e w' => ∃ v, e = .returned v ∧ v = .int .i64 r ∧ Gr w w') := by
  unfold rickyardref01_Int.f at h
  have fB : Gr w w := Fr.refl _ _
  refine calls_cw Try.func103 rfl Try.ntmps103 rfl ?_
  refine cw_seq ?_
  refine cw_region ?_
  refine ol_val (v := .int .i64 0) (by exact xr_assign rfl rfl) rfl rfl rfl ?_
  refine ol_nil ?_
  refine cw_seq ?_
  refine cw_region ?_
  refine ol_val (v := sv a0) (by exact xr_move rfl rfl) rfl rfl rfl ?_
  obtain ⟨t1, k2, h⟩ := bs h
  refine ol_op (by exact opv_call rfl cal136 (ac rfl an) (rickyardref01_Number.ok fu _ a0 _ k2)) rfl rfl rfl ?_
  rintro _ w4 ⟨rfl, q3⟩
  have fB := fB.gr q3
  refine ol_val (v := .int .i64 (IntKind.i64.wrap t1)) (by exact xr_conv rfl Try.underlying129 Try.underlying3 rfl) rfl rfl rfl ?_
  refine ol_val (v := .int .i64 (IntKind.i64.wrap t1)) (by exact xr_assign rfl rfl) rfl rfl rfl ?_
  refine ol_nil ?_
  refine cw_ret ?_
  repeat (first | with_reducible refine thn_r ?_ | with_reducible refine blk_r ?_)
  obtain rfl := Option.some.inj h
  refine fin_ret1 Try.results103 rfl ?_
  exact ⟨_, rfl, rfl, fB⟩
end Go.Proofs.Ytjhajfkfhdnciaa

/- Numbers laid as octets and read again, as the program and the document do it. -/
set_option linter.unusedVariables false
set_option linter.unusedSimpArgs false
namespace Go.Proofs.Ytjhajfkfhdnciaa.Pure
open Go Go.Xw
def u64n (x : Int) : Nat := (x % 18446744073709551616).toNat
theorem u64_wrap (x : Int) : IntKind.u64.wrap x = (u64n x : Int) := by
  unfold u64n IntKind.wrap
  simp only [IntKind.signed, IntKind.bits]
  simp
  omega
theorem u64n_lt (x : Int) : u64n x < 18446744073709551616 := by
  unfold u64n
  omega
theorem u64n_of {x : Int} (h0 : 0 ≤ x) (h1 : x ≤ 18446744073709551615) : u64n x = x.toNat := by
  unfold u64n
  rw [Int.emod_eq_of_lt h0 (by omega)]
theorem i64_u64 {x : Int} (h0 : -9223372036854775808 ≤ x) (h1 : x ≤ 9223372036854775807) : IntKind.i64.wrap (u64n x : Int) = x := by
  unfold u64n IntKind.wrap
  simp only [IntKind.signed, IntKind.bits]
  simp
  split <;> omega
theorem olay64 {fu n : Nat} {x : Int} (hn : n ≤ 8) (hf : n < fu) : octet_Lay.f fu (IntKind.u64.wrap x) (n : Int) = some (lay (u64n x) n) := by
  rw [u64_wrap]
  exact olay_eq hn hf
theorem rlay64 {fu n : Nat} {x : Int} (hn : n ≤ 8) (hf : n < fu) : rickyardref01_Lay.f fu (IntKind.u64.wrap x) (n : Int) = some ((lay (u64n x) n).map toB) := by
  rw [u64_wrap]
  exact rlay_eq (u64n_lt x) hn hf
theorem num_lt8 {l : List Int} (hb : Bytes l) (hl : l.length ≤ 8) : num l < 18446744073709551616 := by
  have h1 := num_lt hb
  have h2 : (256 : Nat) ^ l.length ≤ 256 ^ 8 := Nat.pow_le_pow_right (by decide) hl
  have h3 : (256 : Nat) ^ 8 = 18446744073709551616 := by decide
  omega
theorem rnumber_eq {fu : Nat} {l : List Int} (hb : Bytes l) (hl : l.length ≤ 8) (hf : l.length < fu) : rickyardref01_Number.f fu (l.map toB) = some ((num l : Nat) : Int) := by
  unfold rickyardref01_Number.f
  have w0 : IntKind.i64.wrap (((l.map toB).length : Int) - 1) = (l.length : Int) - 1 := by rw [List.length_map, w64 (by omega) (by omega)]
  rw [w0]
  have : loopM (rickyardref01_Number.s0 fu (l.map toB)) fu (0, (l.length : Int) - 1) = some ((num l : Nat) : Int) := by
    refine loopM_run (S := fun j => (((num (l.drop (l.length - j)) : Nat) : Int), (l.length : Int) - 1 - (j : Int))) l.length (by simp [num]) ?_ ?_ hf
    · intro j hj
      unfold rickyardref01_Number.s0
      obtain ⟨i, hi⟩ : ∃ i : Nat, l.length - j = i + 1 := ⟨l.length - j - 1, by omega⟩
      have e1 : (l.length : Int) - 1 - (j : Int) = (i : Int) := by omega
      have hil : i < l.length := by omega
      have e2 : l.length - (j + 1) = i := by omega
      have c1 : (i : Int) ≥ 0 := by omega
      have c2 : (i : Int) < 8 := by omega
      have c3 : True ∧ (i : Int) < ((l.map toB).length : Int) := ⟨trivial, by rw [List.length_map]; omega⟩
      have w1 : IntKind.i64.wrap ((i : Int) - 1) = (l.length : Int) - 1 - ((j + 1 : Nat) : Int) := by rw [w64 (by omega) (by omega)]; omega
      have hcb := hb _ (List.getElem_mem hil)
      obtain ⟨c, hc⟩ : ∃ c : Nat, l[i] = (c : Int) := ⟨l[i].toNat, by omega⟩
      have hd : l.drop i = l[i] :: l.drop (i + 1) := List.drop_eq_getElem_cons hil
      have hn : num (l.drop i) = c + 256 * num (l.drop (i + 1)) := by rw [hd, num, hc, Int.toNat_natCast]
      have hlt := num_lt8 (hb.drop i) (by rw [List.length_drop]; omega)
      rw [hn] at hlt
      have w2 : IntKind.u64.wrap (((num (l.drop (i + 1)) : Nat) : Int) * 256) = ((num (l.drop (i + 1)) : Nat) : Int) * 256 := wu64 (by omega) (by omega)
      have w3 : IntKind.u64.wrap (ix l (i : Int)) = (c : Int) := by rw [ix_nat hil, hc, wu64 (by omega) (by omega)]
      have w4 : IntKind.u64.wrap (((num (l.drop (i + 1)) : Nat) : Int) * 256 + (c : Int)) = ((num (l.drop i) : Nat) : Int) := by rw [wu64 (by omega) (by omega), hn]; omega
      simp only [e1, hi, e2, getD_toB hb hil, w1, w2, w3, w4, c1, c2, decide_true, if_true]
      rw [if_pos c3]
      rfl
    · unfold rickyardref01_Number.s0
      have : ¬ (l.length : Int) - 1 - (l.length : Int) ≥ 0 := by omega
      simp only [this]
      simp
  rw [this]
  rfl
theorem rint_eq {fu : Nat} {l : List Int} (hb : Bytes l) (hl : l.length ≤ 8) (hf : l.length < fu) : rickyardref01_Int.f fu (l.map toB) = some (IntKind.i64.wrap ((num l : Nat) : Int)) := by
  unfold rickyardref01_Int.f
  rw [rnumber_eq hb hl hf]
  rfl
theorem num_small {l : List Int} (hb : Bytes l) (hl : l.length ≤ 7) : IntKind.i64.wrap ((num l : Nat) : Int) = ((num l : Nat) : Int) := by
  have h1 := num_lt hb
  have h2 : (256 : Nat) ^ l.length ≤ 256 ^ 7 := Nat.pow_le_pow_right (by decide) hl
  have h3 : (256 : Nat) ^ 7 = 72057594037927936 := by decide
  exact w64 (by omega) (by omega)
/-! ### Rows of fields of one width -/
/-- The i-th field of w octets. -/
def fieldAt (l : List Int) (w i : Nat) : List Int := (l.drop (w * i)).take w
theorem fieldAt_len {l : List Int} {w i n : Nat} (h : w * n ≤ l.length) (hi : i < n) : (fieldAt l w i).length = w := by
  have : w * (i + 1) ≤ w * n := Nat.mul_le_mul_left w hi
  rw [Nat.mul_succ] at this
  unfold fieldAt
  rw [List.length_take, List.length_drop]
  omega
theorem fieldAt_bytes {l : List Int} (hb : Bytes l) (w i : Nat) : Bytes (fieldAt l w i) := (hb.drop _).take _
theorem cut_eq (l : List Int) (i n : Nat) : cut l (i : Int) ((i + n : Nat) : Int) = (l.drop i).take n := by
  unfold cut
  rw [Int.toNat_natCast, Int.toNat_natCast, List.drop_take]
  congr 1
  omega
theorem flat_len {α : Type} {g : Nat → List α} {w : Nat} (hg : ∀ i, (g i).length = w) : ∀ n, ((List.range n).flatMap g).length = w * n
  | 0 => by simp
  | n + 1 => by
    rw [List.range_succ, List.flatMap_append, List.length_append, flat_len hg n]
    simp [hg, Nat.mul_succ]
theorem flat_succ {α : Type} (g : Nat → List α) (n : Nat) : (List.range (n + 1)).flatMap g = (List.range n).flatMap g ++ g n := by
  rw [List.range_succ, List.flatMap_append]
  simp
theorem flat_field {g : Nat → List Int} {w : Nat} (hg : ∀ i, (g i).length = w) {n i : Nat} (hi : i < n) (t : List Int) : fieldAt ((List.range n).flatMap g ++ t) w i = g i := by
  have e : (List.range n).flatMap g = (List.range i).flatMap g ++ (g i ++ ((List.range (n - i - 1)).map (i + 1 + ·)).flatMap g) := by
    have h1 : n = i + (1 + (n - i - 1)) := by omega
    conv => lhs; rw [h1]
    rw [List.range_add, List.flatMap_append, List.range_add, List.map_append, List.flatMap_append]
    congr 1
    simp [List.map_map, Function.comp_def, Nat.add_assoc]
  unfold fieldAt
  rw [e, List.append_assoc, List.drop_left' (flat_len hg i), List.append_assoc, List.take_left' (hg i)]
theorem field_flat {l : List Int} {w : Nat} : ∀ n, w * n ≤ l.length → (List.range n).flatMap (fieldAt l w) = l.take (w * n)
  | 0, _ => by simp
  | n + 1, h => by
    rw [Nat.mul_succ] at h
    rw [flat_succ, field_flat n (by omega), Nat.mul_succ, List.take_add]
    rfl
theorem flat_congr {α : Type} {g k : Nat → List α} {n : Nat} (h : ∀ i, i < n → g i = k i) : (List.range n).flatMap g = (List.range n).flatMap k := by
  induction n with
  | zero => rfl
  | succ n ih => rw [flat_succ, flat_succ, ih fun i hi => h i (by omega), h n (by omega)]
theorem flat_bytes {g : Nat → List Int} (hg : ∀ i, Bytes (g i)) (n : Nat) : Bytes ((List.range n).flatMap g) := by
  intro x hx
  obtain ⟨i, _, h⟩ := List.mem_flatMap.1 hx
  exact hg i x h
theorem flat_map {g : Nat → List Int} (n : Nat) : ((List.range n).flatMap g).map toB = (List.range n).flatMap fun i => (g i).map toB := by
  induction n with
  | zero => rfl
  | succ n ih => rw [flat_succ, flat_succ, List.map_append, ih]
end Go.Proofs.Ytjhajfkfhdnciaa.Pure

/- rickyard/rickyardref09.Fan: its model, and that the Go function computes it: written by gen.py. -/
set_option linter.unusedVariables false
namespace Go.Proofs.Ytjhajfkfhdnciaa
open Go Go.Xw
def rickyardref09_Fan.s0 (fu : Nat) (a0 : S_api_Fan) : ((List UInt8) × Int) → Option (Sum (Sum ((List UInt8) × Bool) (List UInt8)) ((List UInt8) × Int)) := fun s7 => (if (decide (s7.2 < 16)) = true then (((if 0 ≤ s7.2 ∧ s7.2 < 16 then (if (!decide ((Arr.get a0.Kids s7.2) = 0)) = true then (if 0 ≤ s7.2 ∧ s7.2 < 16 then ((rickyardref08_Block.f fu (Arr.get a0.Kids s7.2) : Option Bool).bind fun t21 => some ((!t21))) else none) else some (false)) else none) : Option Bool).bind fun x16 => (if x16 = true then some (Sum.inl (Sum.inl ([], false))) else (if 0 ≤ s7.2 ∧ s7.2 < 16 then ((rickyardref01_Lay.f fu (IntKind.u64.wrap (Arr.get a0.Kids s7.2)) 2 : Option (List UInt8)).bind fun t30 => (if List.length s7.1 + List.length t30 ≤ LIM then some (Sum.inr ((s7.1 ++ t30), (IntKind.i64.wrap (s7.2 + 1)))) else none)) else none))) else some (Sum.inl (Sum.inr (s7.1))))
def rickyardref09_Fan.f (fu : Nat) (a0 : S_api_Fan) : Option ((List UInt8) × Bool) := ((loopM (rickyardref09_Fan.s0 fu a0) fu ([], 0)).bind fun e8 => match e8 with | Sum.inl p => some p | Sum.inr x11 => ((rickyardref07_Seal.f fu 3 0 x11 : Option (List UInt8)).bind fun t37 => some (t37, true)))
set_option maxRecDepth 100000 in
set_option maxHeartbeats 400000 in
theorem rickyardref09_Fan.ok (fu : Nat) (w : World) (a0 : S_api_Fan) (r : (List UInt8) × Bool) (h : rickyardref09_Fan.f fu a0 = some r) :
    Calls Try.prog 54 (([aggV [Kd.seg (kA 16 (kI .i64)) a0.Kids]] : List Value).toArray) w (fun e w' => ∃ v, e = .returned v ∧ v = .tuple #[sv r.1, .bool r.2] ∧ Gr w w') := by
  unfold rickyardref09_Fan.f at h
  have fB : Gr w w := Fr.refl _ _
  refine calls_cw Try.func54 rfl Try.ntmps54 rfl ?_
  refine cw_seq ?_
  refine cw_region ?_
  refine ol_op (by exact opv_box (ss := [Kd.seg (kA 16 (kI .i64)) a0.Kids]) rfl rfl rfl) rfl rfl rfl ?_
  rintro _ w6 ⟨G1, rfl, b2, q3, z4⟩
  have z4 := Nat.le_trans fB.size z4
  have fB := fB.gr q3
  refine ol_val (v := sv []) (by exact xr_assign rfl rfl) rfl rfl rfl ?_
  refine ol_val (v := .bool false) (by exact xr_assign rfl rfl) rfl rfl rfl ?_
  refine ol_nil ?_
  refine cw_seq ?_
  refine cw_region ?_
  refine ol_val (v := sv []) (by exact xr_assign rfl rfl) rfl rfl rfl ?_
  refine ol_nil ?_
  refine cw_seq ?_
  refine cw_seq ?_
  refine cw_region ?_
  refine ol_val (v := .int .i64 0) (by exact xr_assign rfl rfl) rfl rfl rfl ?_
  refine ol_nil ?_
  obtain ⟨e8, l9, h10⟩ := bs h
  refine cw_mid (fun ρ' w' => ∃ x11, e8 = Sum.inr x11 ∧ ρ' 4 = sv x11 ∧ Gr w w') ?_ ?_
  · refine cw_block ?_
    refine cw_round (fun (s7 : (List UInt8) × Int) ρ' w' => ρ' 1 = .pointer (some ⟨G1, 0, none⟩) ∧ ρ' 4 = sv s7.1 ∧ ρ' 5 = .int .i64 s7.2 ∧ Blk w' G1 73 [Kd.seg (kA 16 (kI .i64)) a0.Kids] ∧ Gr w w') l9 ?_ ?_
    · skip
      exact ⟨rfl, rfl, rfl, b2, fB⟩
    · rintro s7 x14 ρ12 w13 ⟨e1, e4, e5, b2, fB⟩ h
      unfold rickyardref09_Fan.s0 at h
      refine cw_seq ?_
      refine cw_seq ?_
      refine cw_region ?_
      refine ol_val (v := .int .i64 s7.2) (by exact xr_move rfl e5) rfl rfl rfl ?_
      refine ol_val (v := .bool (decide (s7.2 < 16))) (by exact xr_lss rfl rfl rfl) rfl rfl rfl ?_
      refine ol_nil ?_
      rcases is h with ⟨c15, h⟩ | ⟨c15, h⟩
      · refine cw_condT rfl c15 ?_
        refine cw_skip ?_
        refine cw_seq ?_
        refine cw_block ?_
        refine cw_seq ?_
        refine cw_seq ?_
        obtain ⟨x16, j17, h⟩ := bs h
        refine cw_mid (fun ρ' w' => ρ' 1 = .pointer (some ⟨G1, 0, none⟩) ∧ ρ' 4 = sv s7.1 ∧ ρ' 5 = .int .i64 s7.2 ∧ ρ' 22 = .bool x16 ∧ Gr w13 w') ?_ ?_
        · skip
          refine cw_region ?_
          refine ol_val (v := .int .i64 s7.2) (by exact xr_move rfl e5) rfl rfl rfl ?_
          refine ol_val (v := .pointer (some ⟨G1, 0, none⟩)) (by exact xr_fieldAddr (p := 0) (q := 0) rfl fl73_0 e1) rfl rfl rfl ?_
          obtain ⟨g18, j17⟩ := gs j17
          refine ol_val (v := .pointer (some ⟨G1, 0 + Int.toNat s7.2 * 1, none⟩)) (by exact xr_indexA (p := 0) (s := 1) rfl Try.underlying71 sz3 rfl rfl g18.1 g18.2) rfl rfl rfl ?_
          refine ol_val (v := .int .i64 (Arr.get a0.Kids s7.2)) (by exact xr_load1 (v := .int .i64 (Arr.get a0.Kids s7.2)) rfl ag3 rfl (At.arr (a := a0.Kids) (b2.seg 0 rfl rfl) g18.1 g18.2)) rfl rfl rfl ?_
          refine ol_val (v := .bool (!decide ((Arr.get a0.Kids s7.2) = 0))) (by exact xr_neI rfl Try.underlying3 rfl rfl rfl) rfl rfl rfl ?_
          refine ol_val (v := .bool (!decide ((Arr.get a0.Kids s7.2) = 0))) (by exact xr_move rfl rfl) rfl rfl rfl ?_
          rcases is j17 with ⟨c19, j17⟩ | ⟨c19, j17⟩
          · skip
            refine ol_gval (v := .int .i64 s7.2) (by exact xr_move rfl e5) rfl rfl rfl rfl rfl c19 ?_
            refine ol_gval (v := .pointer (some ⟨G1, 0, none⟩)) (by exact xr_fieldAddr (p := 0) (q := 0) rfl fl73_0 e1) rfl rfl rfl rfl rfl c19 ?_
            obtain ⟨g20, j17⟩ := gs j17
            refine ol_gval (v := .pointer (some ⟨G1, 0 + Int.toNat s7.2 * 1, none⟩)) (by exact xr_indexA (p := 0) (s := 1) rfl Try.underlying71 sz3 rfl rfl g20.1 g20.2) rfl rfl rfl rfl rfl c19 ?_
            refine ol_gval (v := .int .i64 (Arr.get a0.Kids s7.2)) (by exact xr_load1 (v := .int .i64 (Arr.get a0.Kids s7.2)) rfl ag3 rfl (At.arr (a := a0.Kids) (b2.seg 0 rfl rfl) g20.1 g20.2)) rfl rfl rfl rfl rfl c19 ?_
            obtain ⟨t21, k22, j17⟩ := bs j17
            refine ol_gop (by exact opv_call rfl cal107 (ac rfl an) (rickyardref08_Block.ok fu _ (Arr.get a0.Kids s7.2) _ k22)) rfl rfl rfl rfl rfl c19 ?_
            rintro _ w24 ⟨rfl, q23⟩
            have b2 := b2.gr q23
            have fB := fB.gr q23
            refine ol_gval (v := .bool (!t21)) (by exact xr_not rfl rfl) rfl rfl rfl rfl rfl c19 ?_
            refine ol_val (v := .bool (!t21)) (by exact xr_pickT rfl rfl c19 rfl) rfl rfl rfl ?_
            refine ol_nil ?_
            obtain rfl := Option.some.inj j17
            refine thn_i ?_
            exact ⟨e1, e4, e5, rfl, q23⟩
          · skip
            refine ol_gskip rfl rfl rfl rfl rfl c19 ?_
            refine ol_gskip rfl rfl rfl rfl rfl c19 ?_
            refine ol_gskip rfl rfl rfl rfl rfl c19 ?_
            refine ol_gskip rfl rfl rfl rfl rfl c19 ?_
            refine ol_gskip rfl rfl rfl rfl rfl c19 ?_
            refine ol_gskip rfl rfl rfl rfl rfl c19 ?_
            refine ol_val (v := .bool false) (by exact xr_pickF rfl rfl c19 rfl) rfl rfl rfl ?_
            refine ol_nil ?_
            obtain rfl := Option.some.inj j17
            refine thn_i ?_
            exact ⟨e1, e4, e5, rfl, Fr.refl _ _⟩
        · skip
          rintro ρ25 w26 ⟨e1, e4, e5, e22, q27⟩
          have b2 := b2.gr q27
          have fB := fB.gr q27
          rcases is h with ⟨c28, h⟩ | ⟨c28, h⟩
          · refine cw_condT e22 c28 ?_
            refine cw_seq ?_
            refine cw_region ?_
            refine ol_val (v := sv []) (by exact xr_assign rfl rfl) rfl rfl rfl ?_
            refine ol_val (v := .bool false) (by exact xr_assign rfl rfl) rfl rfl rfl ?_
            refine ol_nil ?_
            refine cw_ret ?_
            repeat (first | with_reducible refine thn_r ?_ | with_reducible refine blk_r ?_)
            obtain rfl := Option.some.inj h
            refine lp_ret ?_
            rintro rfl
            repeat (first | with_reducible refine thn_r ?_ | with_reducible refine blk_r ?_)
            have h := h10
            obtain rfl := Option.some.inj h
            refine fin_ret2 Try.results54 rfl rfl ?_
            exact ⟨_, rfl, rfl, fB⟩
          · refine cw_condF e22 c28 ?_
            refine cw_skip ?_
            refine cw_region ?_
            refine ol_val (v := sv s7.1) (by exact xr_move rfl e4) rfl rfl rfl ?_
            refine ol_val (v := .int .i64 s7.2) (by exact xr_move rfl e5) rfl rfl rfl ?_
            refine ol_val (v := .pointer (some ⟨G1, 0, none⟩)) (by exact xr_fieldAddr (p := 0) (q := 0) rfl fl73_0 e1) rfl rfl rfl ?_
            obtain ⟨g29, h⟩ := gs h
            refine ol_val (v := .pointer (some ⟨G1, 0 + Int.toNat s7.2 * 1, none⟩)) (by exact xr_indexA (p := 0) (s := 1) rfl Try.underlying71 sz3 rfl rfl g29.1 g29.2) rfl rfl rfl ?_
            refine ol_val (v := .int .i64 (Arr.get a0.Kids s7.2)) (by exact xr_load1 (v := .int .i64 (Arr.get a0.Kids s7.2)) rfl ag3 rfl (At.arr (a := a0.Kids) (b2.seg 0 rfl rfl) g29.1 g29.2)) rfl rfl rfl ?_
            refine ol_val (v := .int .u64 (IntKind.u64.wrap (Arr.get a0.Kids s7.2))) (by exact xr_conv rfl Try.underlying3 Try.underlying129 rfl) rfl rfl rfl ?_
            obtain ⟨t30, k31, h⟩ := bs h
            refine ol_op (by exact opv_call rfl cal99 (ac rfl (ac rfl an)) (rickyardref01_Lay.ok fu _ (IntKind.u64.wrap (Arr.get a0.Kids s7.2)) 2 _ k31)) rfl rfl rfl ?_
            rintro _ w33 ⟨rfl, q32⟩
            have b2 := b2.gr q32
            have fB := fB.gr q32
            obtain ⟨g34, h⟩ := gs h
            refine ol_val (v := sv (s7.1 ++ t30)) (by exact xr_addStr rfl rfl rfl g34) rfl rfl rfl ?_
            refine ol_val (v := sv (s7.1 ++ t30)) (by exact xr_assign rfl rfl) rfl rfl rfl ?_
            refine ol_nil ?_
            refine blk_i ?_
            refine cw_region ?_
            refine ol_val (v := .int .i64 s7.2) (by exact xr_move rfl e5) rfl rfl rfl ?_
            refine ol_val (v := .int .i64 (IntKind.i64.wrap (s7.2 + 1))) (by exact xr_add rfl rfl rfl) rfl rfl rfl ?_
            refine ol_val (v := .int .i64 (IntKind.i64.wrap (s7.2 + 1))) (by exact xr_assign rfl rfl) rfl rfl rfl ?_
            refine ol_nil ?_
            obtain rfl := Option.some.inj h
            refine lp_in ?_
            exact ⟨e1, rfl, rfl, b2, fB⟩
      · refine cw_condF rfl c15 ?_
        refine cw_exit ?_
        repeat (first | with_reducible refine thn_e ?_ | with_reducible refine blk_e rfl ?_)
        obtain rfl := Option.some.inj h
        refine lp_exit ?_
        rintro rfl
        refine thn_x ?_
        exact ⟨_, rfl, e4, fB⟩
  · rintro ρ35 w36 ⟨x11, rfl, e4, fB⟩
    have h := h10
    refine cw_seq ?_
    refine cw_region ?_
    refine ol_val (v := sv x11) (by exact xr_move rfl e4) rfl rfl rfl ?_
    obtain ⟨t37, k38, h⟩ := bs h
    refine ol_op (by exact opv_call rfl cal30 (ac rfl (ac rfl (ac rfl an))) (rickyardref07_Seal.ok fu _ 3 0 x11 _ k38)) rfl rfl rfl ?_
    rintro _ w40 ⟨rfl, q39⟩
    have fB := fB.gr q39
    refine ol_val (v := sv t37) (by exact xr_assign rfl rfl) rfl rfl rfl ?_
    refine ol_val (v := .bool true) (by exact xr_assign rfl rfl) rfl rfl rfl ?_
    refine ol_nil ?_
    refine cw_ret ?_
    repeat (first | with_reducible refine thn_r ?_ | with_reducible refine blk_r ?_)
    obtain rfl := Option.some.inj h
    refine fin_ret2 Try.results54 rfl rfl ?_
    exact ⟨_, rfl, rfl, fB⟩
end Go.Proofs.Ytjhajfkfhdnciaa

/- rickyard/page.GetFan: its model, and that the Go function computes it: written by gen.py. -/
set_option linter.unusedVariables false
namespace Go.Proofs.Ytjhajfkfhdnciaa
open Go Go.Xw
def page_GetFan.s0 (fu : Nat) (t7 : Int × Int × (List Int) × Bool) : (Int × S_api_Fan) → Option (Sum S_api_Fan (Int × S_api_Fan)) := fun s36 => (if (decide (s36.1 < 16)) = true then (if (0 : Int) ≤ (IntKind.i64.wrap (2 * s36.1)) ∧ (IntKind.i64.wrap (2 * s36.1)) ≤ (IntKind.i64.wrap (2 * (IntKind.i64.wrap (s36.1 + 1)))) ∧ (IntKind.i64.wrap (2 * (IntKind.i64.wrap (s36.1 + 1)))) ≤ (List.length t7.2.2.1 : Int) then ((octet_Read.f fu (cut t7.2.2.1 (IntKind.i64.wrap (2 * s36.1)) (IntKind.i64.wrap (2 * (IntKind.i64.wrap (s36.1 + 1))))) : Option Int).bind fun t46 => (if 0 ≤ s36.1 ∧ s36.1 < 16 then some (Sum.inr ((IntKind.i64.wrap (s36.1 + 1)), (⟨(Arr.set s36.2.Kids s36.1 (IntKind.i64.wrap t46))⟩ : S_api_Fan))) else none)) else none) else some (Sum.inl (s36.2)))
def page_GetFan.f (fu : Nat) (a0 : List Int) : Option (S_api_Fan × Bool) := ((block_Open.f fu a0 : Option (Int × Int × (List Int) × Bool)).bind fun t7 => (((if (!t7.2.2.2) = true then some (true) else (if (!decide (t7.1 = 3)) = true then some (true) else (if (!decide (t7.2.1 = 0)) = true then some (true) else ((octet_Noughts.f fu t7.2.2.1 32 (IntKind.i64.wrap ((List.length t7.2.2.1 : Int) - 32)) : Option Bool).bind fun t19 => some ((!t19)))))) : Option Bool).bind fun x14 => (if x14 = true then some ((⟨(Arr.rep 16 (0 : Int))⟩ : S_api_Fan), false) else ((loopM (page_GetFan.s0 fu t7) fu (0, (⟨(Arr.rep 16 (0 : Int))⟩ : S_api_Fan))).bind fun e37 => ((page_rightFan.f fu e37 : Option Bool).bind fun t56 => (if (!t56) = true then some ((⟨(Arr.rep 16 (0 : Int))⟩ : S_api_Fan), false) else some (e37, true)))))))
set_option maxRecDepth 100000 in
set_option maxHeartbeats 400000 in
theorem page_GetFan.ok (fu : Nat) (w : World) (a0 : List Int) (V0_0 : Value) (R0_0 : Rd (kI .u8) w V0_0 a0) (r : S_api_Fan × Bool) (h : page_GetFan.f fu a0 = some r) :
    Calls Try.prog 55 (([V0_0] : List Value).toArray) w (fun e w' => ∃ v, e = .returned v ∧ v = .tuple #[aggV [Kd.seg (kA 16 (kI .i64)) r.1.Kids], .bool r.2] ∧ Gr w w') := by
  unfold page_GetFan.f at h
  have fB : Gr w w := Fr.refl _ _
  refine calls_cw Try.func55 rfl Try.ntmps55 rfl ?_
  refine cw_seq ?_
  refine cw_region ?_
  refine ol_op (by exact opv_alloc (ss := [Kd.seg (kA 16 (kI .i64)) (Arr.rep 16 (0 : Int))]) rfl ze73 rfl) rfl rfl rfl ?_
  rintro _ w6 ⟨G1, rfl, b2, q3, z4⟩
  have z4 := Nat.le_trans fB.size z4
  have fB := fB.gr q3
  refine ol_val (v := .bool false) (by exact xr_assign rfl rfl) rfl rfl rfl ?_
  refine ol_nil ?_
  refine cw_seq ?_
  refine cw_region ?_
  refine ol_val (v := V0_0) (by exact xr_move rfl rfl) rfl rfl rfl ?_
  obtain ⟨t7, k8, h⟩ := bs h
  refine ol_op (by exact opv_call rfl cal29 (ac rfl an) (block_Open.ok fu _ a0 V0_0 (R0_0.gr fB) _ k8)) rfl rfl rfl ?_
  rintro _ w13 ⟨u9, o10, rfl, q12⟩
  have o10 := Own.base o10 fB.size
  have b2 := b2.gr q12
  have fB := fB.gr q12
  refine ol_val (v := .tuple #[.int .i64 t7.1, .int .i64 t7.2.1, u9, .bool t7.2.2.2]) (by exact xr_move rfl rfl) rfl rfl rfl ?_
  refine ol_val (v := .int .i64 t7.1) (by exact xr_extract rfl rfl rfl) rfl rfl rfl ?_
  refine ol_val (v := .int .i64 t7.2.1) (by exact xr_extract rfl rfl rfl) rfl rfl rfl ?_
  refine ol_val (v := u9) (by exact xr_extract rfl rfl rfl) rfl rfl rfl ?_
  refine ol_val (v := .bool t7.2.2.2) (by exact xr_extract rfl rfl rfl) rfl rfl rfl ?_
  refine ol_val (v := .int .i64 t7.1) (by exact xr_assign rfl rfl) rfl rfl rfl ?_
  refine ol_val (v := .int .i64 t7.2.1) (by exact xr_assign rfl rfl) rfl rfl rfl ?_
  refine ol_val (v := u9) (by exact xr_assign rfl rfl) rfl rfl rfl ?_
  refine ol_val (v := .bool t7.2.2.2) (by exact xr_assign rfl rfl) rfl rfl rfl ?_
  refine ol_nil ?_
  refine cw_seq ?_
  refine cw_seq ?_
  obtain ⟨x14, j15, h⟩ := bs h
  refine cw_mid (fun ρ' w' => ρ' 2 = .pointer (some ⟨G1, 0, none⟩) ∧ ρ' 6 = u9 ∧ ρ' 34 = .bool x14 ∧ Gr w13 w') ?_ ?_
  · skip
    refine cw_region ?_
    refine ol_val (v := .bool t7.2.2.2) (by exact xr_move rfl rfl) rfl rfl rfl ?_
    refine ol_val (v := .bool (!t7.2.2.2)) (by exact xr_not rfl rfl) rfl rfl rfl ?_
    refine ol_val (v := .bool (!t7.2.2.2)) (by exact xr_move rfl rfl) rfl rfl rfl ?_
    rcases is j15 with ⟨c16, j15⟩ | ⟨c16, j15⟩
    · skip
      refine ol_gskip rfl rfl rfl rfl rfl c16 ?_
      refine ol_gskip rfl rfl rfl rfl rfl c16 ?_
      refine ol_val (v := .bool true) (by exact xr_pickT rfl rfl c16 rfl) rfl rfl rfl ?_
      refine ol_val (v := .bool true) (by exact xr_move rfl rfl) rfl rfl rfl ?_
      refine ol_gskip rfl rfl rfl rfl rfl rfl ?_
      refine ol_gskip rfl rfl rfl rfl rfl rfl ?_
      refine ol_val (v := .bool true) (by exact xr_pickT rfl rfl rfl rfl) rfl rfl rfl ?_
      refine ol_val (v := .bool true) (by exact xr_move rfl rfl) rfl rfl rfl ?_
      refine ol_gskip rfl rfl rfl rfl rfl rfl ?_
      refine ol_gskip rfl rfl rfl rfl rfl rfl ?_
      refine ol_gskip rfl rfl rfl rfl rfl rfl ?_
      refine ol_gskip rfl rfl rfl rfl rfl rfl ?_
      refine ol_gskip rfl rfl rfl rfl rfl rfl ?_
      refine ol_gskip rfl rfl rfl rfl rfl rfl ?_
      refine ol_val (v := .bool true) (by exact xr_pickT rfl rfl rfl rfl) rfl rfl rfl ?_
      refine ol_nil ?_
      obtain rfl := Option.some.inj j15
      refine thn_i ?_
      exact ⟨rfl, rfl, rfl, Fr.refl _ _⟩
    · skip
      refine ol_gval (v := .int .i64 t7.1) (by exact xr_move rfl rfl) rfl rfl rfl rfl rfl c16 ?_
      refine ol_gval (v := .bool (!decide (t7.1 = 3))) (by exact xr_neI rfl Try.underlying3 rfl rfl rfl) rfl rfl rfl rfl rfl c16 ?_
      refine ol_val (v := .bool (!decide (t7.1 = 3))) (by exact xr_pickF rfl rfl c16 rfl) rfl rfl rfl ?_
      refine ol_val (v := .bool (!decide (t7.1 = 3))) (by exact xr_move rfl rfl) rfl rfl rfl ?_
      rcases is j15 with ⟨c17, j15⟩ | ⟨c17, j15⟩
      · skip
        refine ol_gskip rfl rfl rfl rfl rfl c17 ?_
        refine ol_gskip rfl rfl rfl rfl rfl c17 ?_
        refine ol_val (v := .bool true) (by exact xr_pickT rfl rfl c17 rfl) rfl rfl rfl ?_
        refine ol_val (v := .bool true) (by exact xr_move rfl rfl) rfl rfl rfl ?_
        refine ol_gskip rfl rfl rfl rfl rfl rfl ?_
        refine ol_gskip rfl rfl rfl rfl rfl rfl ?_
        refine ol_gskip rfl rfl rfl rfl rfl rfl ?_
        refine ol_gskip rfl rfl rfl rfl rfl rfl ?_
        refine ol_gskip rfl rfl rfl rfl rfl rfl ?_
        refine ol_gskip rfl rfl rfl rfl rfl rfl ?_
        refine ol_val (v := .bool true) (by exact xr_pickT rfl rfl rfl rfl) rfl rfl rfl ?_
        refine ol_nil ?_
        obtain rfl := Option.some.inj j15
        refine thn_i ?_
        exact ⟨rfl, rfl, rfl, Fr.refl _ _⟩
      · skip
        refine ol_gval (v := .int .i64 t7.2.1) (by exact xr_move rfl rfl) rfl rfl rfl rfl rfl c17 ?_
        refine ol_gval (v := .bool (!decide (t7.2.1 = 0))) (by exact xr_neI rfl Try.underlying3 rfl rfl rfl) rfl rfl rfl rfl rfl c17 ?_
        refine ol_val (v := .bool (!decide (t7.2.1 = 0))) (by exact xr_pickF rfl rfl c17 rfl) rfl rfl rfl ?_
        refine ol_val (v := .bool (!decide (t7.2.1 = 0))) (by exact xr_move rfl rfl) rfl rfl rfl ?_
        rcases is j15 with ⟨c18, j15⟩ | ⟨c18, j15⟩
        · skip
          refine ol_gskip rfl rfl rfl rfl rfl c18 ?_
          refine ol_gskip rfl rfl rfl rfl rfl c18 ?_
          refine ol_gskip rfl rfl rfl rfl rfl c18 ?_
          refine ol_gskip rfl rfl rfl rfl rfl c18 ?_
          refine ol_gskip rfl rfl rfl rfl rfl c18 ?_
          refine ol_gskip rfl rfl rfl rfl rfl c18 ?_
          refine ol_val (v := .bool true) (by exact xr_pickT rfl rfl c18 rfl) rfl rfl rfl ?_
          refine ol_nil ?_
          obtain rfl := Option.some.inj j15
          refine thn_i ?_
          exact ⟨rfl, rfl, rfl, Fr.refl _ _⟩
        · skip
          refine ol_gval (v := u9) (by exact xr_move rfl rfl) rfl rfl rfl rfl rfl c18 ?_
          refine ol_gval (v := u9) (by exact xr_move rfl rfl) rfl rfl rfl rfl rfl c18 ?_
          refine ol_gval (v := .int .i64 (List.length t7.2.2.1 : Int)) (by exact xr_lenR rfl Try.underlying22 rfl o10.rd) rfl rfl rfl rfl rfl c18 ?_
          refine ol_gval (v := .int .i64 (IntKind.i64.wrap ((List.length t7.2.2.1 : Int) - 32))) (by exact xr_sub rfl rfl rfl) rfl rfl rfl rfl rfl c18 ?_
          obtain ⟨t19, k20, j15⟩ := bs j15
          refine ol_gop (by exact opv_call rfl cal102 (ac rfl (ac rfl (ac rfl an))) (octet_Noughts.ok fu _ t7.2.2.1 u9 (o10.rd) 32 (IntKind.i64.wrap ((List.length t7.2.2.1 : Int) - 32)) _ k20)) rfl rfl rfl rfl rfl c18 ?_
          rintro _ w22 ⟨rfl, q21⟩
          have b2 := b2.gr q21
          have o10 := o10.gr q21
          have fB := fB.gr q21
          refine ol_gval (v := .bool (!t19)) (by exact xr_not rfl rfl) rfl rfl rfl rfl rfl c18 ?_
          refine ol_val (v := .bool (!t19)) (by exact xr_pickF rfl rfl c18 rfl) rfl rfl rfl ?_
          refine ol_nil ?_
          obtain rfl := Option.some.inj j15
          refine thn_i ?_
          exact ⟨rfl, rfl, rfl, q21⟩
  · skip
    rintro ρ23 w24 ⟨e2, e6, e34, q25⟩
    have b2 := b2.gr q25
    have o10 := o10.gr q25
    have fB := fB.gr q25
    rcases is h with ⟨c26, h⟩ | ⟨c26, h⟩
    · refine cw_condT e34 c26 ?_
      refine cw_seq ?_
      refine cw_region ?_
      refine ol_val (v := aggV [Kd.seg (kA 16 (kI .i64)) (Arr.rep 16 (0 : Int))]) (by exact xr_build (vals := []) rfl trivial (bl73_ _)) rfl rfl rfl ?_
      refine ol_op0 (by exact opv_store (ss' := [Kd.seg (kA 16 (kI .i64)) (Arr.rep 16 (0 : Int))]) (xs := cellsOf [Kd.seg (kA 16 (kI .i64)) (Arr.rep 16 (0 : Int))]) rfl sz73 e2 rfl rfl (len_cellsOf _) (one_cellsOf _) b2 (Spl.segs _ 0 1 [Kd.seg (kA 16 (kI .i64)) (Arr.rep 16 (0 : Int))] rfl rfl)) rfl rfl ?_
      rintro _ w28 ⟨b2, q27⟩
      have fB := fB.wr q27 z4
      refine ol_val (v := .bool false) (by exact xr_assign rfl rfl) rfl rfl rfl ?_
      refine ol_nil ?_
      refine cw_ret ?_
      repeat (first | with_reducible refine thn_r ?_ | with_reducible refine blk_r ?_)
      obtain rfl := Option.some.inj h
      refine fin_cell_tmp Try.results55 e2 ag73 sz73 b2 (by rfl) rfl ?_
      exact ⟨_, rfl, rfl, fB⟩
    · refine cw_condF e34 c26 ?_
      refine cw_skip ?_
      refine cw_seq ?_
      refine cw_region ?_
      refine ol_op (by exact opv_alloc (ss := [Kd.seg (kA 16 (kI .i64)) (Arr.rep 16 (0 : Int))]) rfl ze73 rfl) rfl rfl rfl ?_
      rintro _ w34 ⟨G29, rfl, b30, q31, z32⟩
      have n35 := Blk.ne b2 z32
      have z32 := Nat.le_trans fB.size z32
      have b2 := b2.gr q31
      have o10 := o10.gr q31
      have fB := fB.gr q31
      refine ol_nil ?_
      refine cw_seq ?_
      refine cw_seq ?_
      refine cw_region ?_
      refine ol_val (v := .int .i64 0) (by exact xr_move rfl rfl) rfl rfl rfl ?_
      refine ol_nil ?_
      obtain ⟨e37, l38, h39⟩ := bs h
      refine cw_mid (fun ρ' w' => ρ' 2 = .pointer (some ⟨G1, 0, none⟩) ∧ ρ' 8 = .pointer (some ⟨G29, 0, none⟩) ∧ Blk w' G1 73 [Kd.seg (kA 16 (kI .i64)) (Arr.rep 16 (0 : Int))] ∧ Blk w' G29 73 [Kd.seg (kA 16 (kI .i64)) e37.Kids] ∧ Gr w w') ?_ ?_
      · refine cw_block ?_
        refine cw_round (fun (s36 : Int × S_api_Fan) ρ' w' => ∃ o10 : Own (kI .u8) 5 w' w.heap.size u9 t7.2.2.1, ρ' 2 = .pointer (some ⟨G1, 0, none⟩) ∧ ρ' 6 = u9 ∧ ρ' 8 = .pointer (some ⟨G29, 0, none⟩) ∧ ρ' 36 = .int .i64 s36.1 ∧ Blk w' G1 73 [Kd.seg (kA 16 (kI .i64)) (Arr.rep 16 (0 : Int))] ∧ Blk w' G29 73 [Kd.seg (kA 16 (kI .i64)) s36.2.Kids] ∧ Gr w w') l38 ?_ ?_
        · skip
          exact ⟨o10, e2, e6, rfl, rfl, b2, b30, fB⟩
        · rintro s36 x42 ρ40 w41 ⟨o10, e2, e6, e8, e36, b2, b30, fB⟩ h
          unfold page_GetFan.s0 at h
          refine cw_seq ?_
          refine cw_region ?_
          refine ol_val (v := .bool (decide (s36.1 < 16))) (by exact xr_lss rfl e36 rfl) rfl rfl rfl ?_
          refine ol_nil ?_
          refine cw_seq ?_
          rcases is h with ⟨c43, h⟩ | ⟨c43, h⟩
          · refine cw_condT rfl c43 ?_
            refine cw_skip ?_
            refine cw_seq ?_
            refine cw_block ?_
            refine cw_seq ?_
            refine cw_region ?_
            refine ol_val (v := .int .i64 s36.1) (by exact xr_move rfl e36) rfl rfl rfl ?_
            refine ol_val (v := .int .i64 s36.1) (by exact xr_assign rfl rfl) rfl rfl rfl ?_
            refine ol_nil ?_
            refine cw_region ?_
            refine ol_val (v := .int .i64 s36.1) (by exact xr_move rfl rfl) rfl rfl rfl ?_
            refine ol_val (v := u9) (by exact xr_move rfl e6) rfl rfl rfl ?_
            refine ol_val (v := .int .i64 s36.1) (by exact xr_move rfl rfl) rfl rfl rfl ?_
            refine ol_val (v := .int .i64 (IntKind.i64.wrap (2 * s36.1))) (by exact xr_mul rfl rfl rfl) rfl rfl rfl ?_
            refine ol_val (v := .int .i64 s36.1) (by exact xr_move rfl rfl) rfl rfl rfl ?_
            refine ol_val (v := .int .i64 (IntKind.i64.wrap (s36.1 + 1))) (by exact xr_add rfl rfl rfl) rfl rfl rfl ?_
            refine ol_val (v := .int .i64 (IntKind.i64.wrap (2 * (IntKind.i64.wrap (s36.1 + 1))))) (by exact xr_mul rfl rfl rfl) rfl rfl rfl ?_
            obtain ⟨g45, h⟩ := gs h
            refine ol_val (v := subv 1 u9 (Int.toNat (IntKind.i64.wrap (2 * s36.1))) (Int.toNat (IntKind.i64.wrap (2 * (IntKind.i64.wrap (s36.1 + 1)))))) (by exact xr_slice_lh (K := (kI .u8)) (v := u9) rfl Try.underlying22 sz5 rfl o10.rd rfl rfl g45.1 g45.2.1 g45.2.2) rfl rfl rfl ?_
            have r44 : Rd (kI .u8) w41 (subv 1 u9 (Int.toNat (IntKind.i64.wrap (2 * s36.1))) (Int.toNat (IntKind.i64.wrap (2 * (IntKind.i64.wrap (s36.1 + 1)))))) (cut t7.2.2.1 (IntKind.i64.wrap (2 * s36.1)) (IntKind.i64.wrap (2 * (IntKind.i64.wrap (s36.1 + 1))))) := o10.rd.cut (lo := (IntKind.i64.wrap (2 * s36.1))) (hi := (IntKind.i64.wrap (2 * (IntKind.i64.wrap (s36.1 + 1))))) g45.1 g45.2.1 g45.2.2
            obtain ⟨t46, k47, h⟩ := bs h
            refine ol_op (by exact opv_call rfl cal112 (ac rfl an) (octet_Read.ok fu _ (cut t7.2.2.1 (IntKind.i64.wrap (2 * s36.1)) (IntKind.i64.wrap (2 * (IntKind.i64.wrap (s36.1 + 1))))) (subv 1 u9 (Int.toNat (IntKind.i64.wrap (2 * s36.1))) (Int.toNat (IntKind.i64.wrap (2 * (IntKind.i64.wrap (s36.1 + 1)))))) (r44) _ k47)) rfl rfl rfl ?_
            rintro _ w49 ⟨rfl, q48⟩
            have b2 := b2.gr q48
            have b30 := b30.gr q48
            have o10 := o10.gr q48
            have fB := fB.gr q48
            refine ol_val (v := .int .i64 (IntKind.i64.wrap t46)) (by exact xr_conv rfl Try.underlying129 Try.underlying3 rfl) rfl rfl rfl ?_
            refine ol_val (v := .pointer (some ⟨G29, 0, none⟩)) (by exact xr_fieldAddr (p := 0) (q := 0) rfl fl73_0 e8) rfl rfl rfl ?_
            obtain ⟨g50, h⟩ := gs h
            refine ol_val (v := .pointer (some ⟨G29, 0 + Int.toNat s36.1 * 1, none⟩)) (by exact xr_indexA (p := 0) (s := 1) rfl Try.underlying71 sz3 rfl rfl g50.1 g50.2) rfl rfl rfl ?_
            have f52 := off_ty b30 o10 (by decide)
            refine ol_op0 (by exact opv_store (ss' := [Kd.seg (kA 16 (kI .i64)) (Arr.set s36.2.Kids s36.1 (IntKind.i64.wrap t46))]) (xs := cellsOf [Seg.cell (.int .i64 (IntKind.i64.wrap t46))]) rfl sz3 rfl rfl rfl (len_cellsOf _) (one_cellsOf _) b30 (Spl.seg_in _ 0 (Kd.seg (kA 16 (kI .i64)) (Arr.set s36.2.Kids s36.1 (IntKind.i64.wrap t46))) rfl rfl (Spl.arr s36.2.Kids s36.1 (IntKind.i64.wrap t46) g50.1 g50.2 (Spl.whole ((Kd.len _ _).trans (Kd.len _ _).symm))))) rfl rfl ?_
            rintro _ w53 ⟨b30, q51⟩
            have b2 := b2.wr q51 n35
            have o10 := o10.wr q51 f52
            have fB := fB.wr q51 z32
            refine ol_nil ?_
            refine blk_i ?_
            refine cw_region ?_
            refine ol_val (v := .int .i64 (IntKind.i64.wrap (s36.1 + 1))) (by exact xr_add rfl e36 rfl) rfl rfl rfl ?_
            refine ol_val (v := .int .i64 (IntKind.i64.wrap (s36.1 + 1))) (by exact xr_move rfl rfl) rfl rfl rfl ?_
            refine ol_nil ?_
            obtain rfl := Option.some.inj h
            refine lp_in ?_
            exact ⟨o10, e2, e6, e8, rfl, b2, b30, fB⟩
          · refine cw_condF rfl c43 ?_
            refine cw_exit ?_
            repeat (first | with_reducible refine thn_e ?_ | with_reducible refine blk_e rfl ?_)
            obtain rfl := Option.some.inj h
            refine lp_exit ?_
            rintro rfl
            refine thn_x ?_
            exact ⟨e2, e8, b2, b30, fB⟩
      · rintro ρ54 w55 ⟨e2, e8, b2, b30, fB⟩
        have h := h39
        refine cw_seq ?_
        refine cw_seq ?_
        refine cw_region ?_
        refine ol_val (v := aggV [Kd.seg (kA 16 (kI .i64)) e37.Kids]) (by exact xr_loadS (ss := [Kd.seg (kA 16 (kI .i64)) e37.Kids]) rfl ag73 sz73 rfl e8 (b30.segs 0 1 rfl)) rfl rfl rfl ?_
        obtain ⟨t56, k57, h⟩ := bs h
        refine ol_op (by exact opv_call rfl cal113 (ac rfl an) (page_rightFan.ok fu _ e37 _ k57)) rfl rfl rfl ?_
        rintro _ w59 ⟨rfl, q58⟩
        have b2 := b2.gr q58
        have b30 := b30.gr q58
        have fB := fB.gr q58
        refine ol_val (v := .bool (!t56)) (by exact xr_not rfl rfl) rfl rfl rfl ?_
        refine ol_nil ?_
        rcases is h with ⟨c60, h⟩ | ⟨c60, h⟩
        · refine cw_condT rfl c60 ?_
          refine cw_seq ?_
          refine cw_region ?_
          refine ol_val (v := aggV [Kd.seg (kA 16 (kI .i64)) (Arr.rep 16 (0 : Int))]) (by exact xr_build (vals := []) rfl trivial (bl73_ _)) rfl rfl rfl ?_
          refine ol_op0 (by exact opv_store (ss' := [Kd.seg (kA 16 (kI .i64)) (Arr.rep 16 (0 : Int))]) (xs := cellsOf [Kd.seg (kA 16 (kI .i64)) (Arr.rep 16 (0 : Int))]) rfl sz73 e2 rfl rfl (len_cellsOf _) (one_cellsOf _) b2 (Spl.segs _ 0 1 [Kd.seg (kA 16 (kI .i64)) (Arr.rep 16 (0 : Int))] rfl rfl)) rfl rfl ?_
          rintro _ w62 ⟨b2, q61⟩
          have fB := fB.wr q61 z4
          refine ol_val (v := .bool false) (by exact xr_assign rfl rfl) rfl rfl rfl ?_
          refine ol_nil ?_
          refine cw_ret ?_
          repeat (first | with_reducible refine thn_r ?_ | with_reducible refine blk_r ?_)
          obtain rfl := Option.some.inj h
          refine fin_cell_tmp Try.results55 e2 ag73 sz73 b2 (by rfl) rfl ?_
          exact ⟨_, rfl, rfl, fB⟩
        · refine cw_condF rfl c60 ?_
          refine cw_skip ?_
          refine cw_seq ?_
          refine cw_region ?_
          refine ol_val (v := aggV [Kd.seg (kA 16 (kI .i64)) e37.Kids]) (by exact xr_loadS (ss := [Kd.seg (kA 16 (kI .i64)) e37.Kids]) rfl ag73 sz73 rfl e8 (b30.segs 0 1 rfl)) rfl rfl rfl ?_
          refine ol_op0 (by exact opv_store (ss' := [Kd.seg (kA 16 (kI .i64)) e37.Kids]) (xs := cellsOf [Kd.seg (kA 16 (kI .i64)) e37.Kids]) rfl sz73 e2 rfl rfl (len_cellsOf _) (one_cellsOf _) b2 (Spl.segs _ 0 1 [Kd.seg (kA 16 (kI .i64)) e37.Kids] rfl rfl)) rfl rfl ?_
          rintro _ w64 ⟨b2, q63⟩
          have fB := fB.wr q63 z4
          refine ol_val (v := .bool true) (by exact xr_assign rfl rfl) rfl rfl rfl ?_
          refine ol_nil ?_
          refine cw_ret ?_
          repeat (first | with_reducible refine thn_r ?_ | with_reducible refine blk_r ?_)
          obtain rfl := Option.some.inj h
          refine fin_cell_tmp Try.results55 e2 ag73 sz73 b2 (by rfl) rfl ?_
          exact ⟨_, rfl, rfl, fB⟩
end Go.Proofs.Ytjhajfkfhdnciaa

/- rickyard/rickyardlaw09.PageFans: its model, and that the Go function computes it: written by gen.py. -/
set_option linter.unusedVariables false
namespace Go.Proofs.Ytjhajfkfhdnciaa
open Go Go.Xw
def rickyardlaw09_PageFans.f (fu : Nat) (a0 : S_api_Fan) : Option Bool := ((rickyardlaw09_awake.f fu : Option Bool).bind fun t7 => (if (!t7) = true then some (false) else ((page_PutFan.f fu a0 : Option ((List Int) × Bool)).bind fun t12 => ((rickyardref09_Fan.f fu a0 : Option ((List UInt8) × Bool)).bind fun t19 => ((page_GetFan.f fu t12.1 : Option (S_api_Fan × Bool)).bind fun t23 => (((if (decide (t12.2 = t19.2)) = true then (if (decide ((List.map toB t12.1) = t19.1)) = true then (if (decide (t23.2 = t19.2)) = true then (if (!t23.2) = true then ((page_Empty.f fu a0 : Option Bool).bind fun t43 => some ((decide (t43 = (decide (a0 = (⟨(Arr.rep 16 (0 : Int))⟩ : S_api_Fan))))))) else (if (decide (t23.1 = a0)) = true then ((page_Empty.f fu a0 : Option Bool).bind fun t50 => some ((decide (t50 = (decide (a0 = (⟨(Arr.rep 16 (0 : Int))⟩ : S_api_Fan))))))) else some (false))) else some (false)) else some (false)) else some (false)) : Option Bool).bind fun x37 => some (x37)))))))
set_option maxRecDepth 100000 in
set_option maxHeartbeats 400000 in
theorem rickyardlaw09_PageFans.ok (fu : Nat) (w : World) (a0 : S_api_Fan) (r : Bool) (h : rickyardlaw09_PageFans.f fu a0 = some r) :
    Calls Try.prog 13 (([aggV [Kd.seg (kA 16 (kI .i64)) a0.Kids]] : List Value).toArray) w (fun e w' => ∃ v, e = .returned v ∧ v = .bool r ∧ Gr w w') := by
  unfold rickyardlaw09_PageFans.f at h
  have fB : Gr w w := Fr.refl _ _
  refine calls_cw Try.func13 rfl Try.ntmps13 rfl ?_
  refine cw_seq ?_
  refine cw_region ?_
  refine ol_op (by exact opv_box (ss := [Kd.seg (kA 16 (kI .i64)) a0.Kids]) rfl rfl rfl) rfl rfl rfl ?_
  rintro _ w6 ⟨G1, rfl, b2, q3, z4⟩
  have z4 := Nat.le_trans fB.size z4
  have fB := fB.gr q3
  refine ol_val (v := .bool false) (by exact xr_assign rfl rfl) rfl rfl rfl ?_
  refine ol_nil ?_
  refine cw_seq ?_
  refine cw_seq ?_
  refine cw_region ?_
  obtain ⟨t7, k8, h⟩ := bs h
  refine ol_op (by exact opv_call rfl cal46 an (rickyardlaw09_awake.ok fu _ _ k8)) rfl rfl rfl ?_
  rintro _ w10 ⟨rfl, q9⟩
  have b2 := b2.gr q9
  have fB := fB.gr q9
  refine ol_val (v := .bool (!t7)) (by exact xr_not rfl rfl) rfl rfl rfl ?_
  refine ol_nil ?_
  rcases is h with ⟨c11, h⟩ | ⟨c11, h⟩
  · refine cw_condT rfl c11 ?_
    refine cw_seq ?_
    refine cw_region ?_
    refine ol_val (v := .bool false) (by exact xr_assign rfl rfl) rfl rfl rfl ?_
    refine ol_nil ?_
    refine cw_ret ?_
    repeat (first | with_reducible refine thn_r ?_ | with_reducible refine blk_r ?_)
    obtain rfl := Option.some.inj h
    refine fin_ret1 Try.results13 rfl ?_
    exact ⟨_, rfl, rfl, fB⟩
  · refine cw_condF rfl c11 ?_
    refine cw_skip ?_
    refine cw_seq ?_
    refine cw_region ?_
    refine ol_val (v := aggV [Kd.seg (kA 16 (kI .i64)) a0.Kids]) (by exact xr_loadS (ss := [Kd.seg (kA 16 (kI .i64)) a0.Kids]) rfl ag73 sz73 rfl rfl (b2.segs 0 1 rfl)) rfl rfl rfl ?_
    obtain ⟨t12, k13, h⟩ := bs h
    refine ol_op (by exact opv_call rfl cal53 (ac rfl an) (page_PutFan.ok fu _ a0 _ k13)) rfl rfl rfl ?_
    rintro _ w18 ⟨u14, o15, rfl, q17⟩
    have o15 := Own.base o15 fB.size
    have b2 := b2.gr q17
    have fB := fB.gr q17
    refine ol_val (v := .tuple #[u14, .bool t12.2]) (by exact xr_move rfl rfl) rfl rfl rfl ?_
    refine ol_val (v := u14) (by exact xr_extract rfl rfl rfl) rfl rfl rfl ?_
    refine ol_val (v := .bool t12.2) (by exact xr_extract rfl rfl rfl) rfl rfl rfl ?_
    refine ol_val (v := u14) (by exact xr_assign rfl rfl) rfl rfl rfl ?_
    refine ol_val (v := .bool t12.2) (by exact xr_assign rfl rfl) rfl rfl rfl ?_
    refine ol_nil ?_
    refine cw_seq ?_
    refine cw_region ?_
    refine ol_val (v := aggV [Kd.seg (kA 16 (kI .i64)) a0.Kids]) (by exact xr_loadS (ss := [Kd.seg (kA 16 (kI .i64)) a0.Kids]) rfl ag73 sz73 rfl rfl (b2.segs 0 1 rfl)) rfl rfl rfl ?_
    obtain ⟨t19, k20, h⟩ := bs h
    refine ol_op (by exact opv_call rfl cal54 (ac rfl an) (rickyardref09_Fan.ok fu _ a0 _ k20)) rfl rfl rfl ?_
    rintro _ w22 ⟨rfl, q21⟩
    have b2 := b2.gr q21
    have o15 := o15.gr q21
    have fB := fB.gr q21
    refine ol_val (v := .tuple #[sv t19.1, .bool t19.2]) (by exact xr_move rfl rfl) rfl rfl rfl ?_
    refine ol_val (v := sv t19.1) (by exact xr_extract rfl rfl rfl) rfl rfl rfl ?_
    refine ol_val (v := .bool t19.2) (by exact xr_extract rfl rfl rfl) rfl rfl rfl ?_
    refine ol_val (v := sv t19.1) (by exact xr_assign rfl rfl) rfl rfl rfl ?_
    refine ol_val (v := .bool t19.2) (by exact xr_assign rfl rfl) rfl rfl rfl ?_
    refine ol_nil ?_
    refine cw_seq ?_
    refine cw_region ?_
    refine ol_val (v := u14) (by exact xr_move rfl rfl) rfl rfl rfl ?_
    obtain ⟨t23, k24, h⟩ := bs h
    refine ol_op (by exact opv_call rfl cal55 (ac rfl an) (page_GetFan.ok fu _ t12.1 u14 (o15.rd) _ k24)) rfl rfl rfl ?_
    rintro _ w26 ⟨rfl, q25⟩
    have b2 := b2.gr q25
    have o15 := o15.gr q25
    have fB := fB.gr q25
    refine ol_val (v := .tuple #[aggV [Kd.seg (kA 16 (kI .i64)) t23.1.Kids], .bool t23.2]) (by exact xr_move rfl rfl) rfl rfl rfl ?_
    refine ol_val (v := aggV [Kd.seg (kA 16 (kI .i64)) t23.1.Kids]) (by exact xr_extract rfl rfl rfl) rfl rfl rfl ?_
    refine ol_val (v := .bool t23.2) (by exact xr_extract rfl rfl rfl) rfl rfl rfl ?_
    refine ol_op (by exact opv_alloc (ss := [Kd.seg (kA 16 (kI .i64)) (Arr.rep 16 (0 : Int))]) rfl ze73 rfl) rfl rfl rfl ?_
    rintro _ w32 ⟨G27, rfl, b28, q29, z30⟩
    have n33 := Blk.ne b2 z30
    have z30 := Nat.le_trans fB.size z30
    have b2 := b2.gr q29
    have o15 := o15.gr q29
    have fB := fB.gr q29
    have f35 := off_ty b28 o15 (by decide)
    refine ol_op0 (by exact opv_store (ss' := [Kd.seg (kA 16 (kI .i64)) t23.1.Kids]) (xs := cellsOf [Kd.seg (kA 16 (kI .i64)) t23.1.Kids]) rfl sz73 rfl rfl rfl (len_cellsOf _) (one_cellsOf _) b28 (Spl.segs _ 0 1 [Kd.seg (kA 16 (kI .i64)) t23.1.Kids] rfl rfl)) rfl rfl ?_
    rintro _ w36 ⟨b28, q34⟩
    have b2 := b2.wr q34 n33
    have o15 := o15.wr q34 f35
    have fB := fB.wr q34 z30
    refine ol_val (v := .bool t23.2) (by exact xr_assign rfl rfl) rfl rfl rfl ?_
    refine ol_nil ?_
    refine cw_seq ?_
    obtain ⟨x37, j38, h⟩ := bs h
    refine cw_mid (fun ρ' w' => ρ' 2 = .bool x37 ∧ Gr w36 w') ?_ ?_
    · skip
      rcases is j38 with ⟨c39, j38⟩ | ⟨c39, j38⟩
      · skip
        rcases is j38 with ⟨c40, j38⟩ | ⟨c40, j38⟩
        · skip
          rcases is j38 with ⟨c41, j38⟩ | ⟨c41, j38⟩
          · skip
            rcases is j38 with ⟨c42, j38⟩ | ⟨c42, j38⟩
            · skip
              obtain ⟨t43, k44, j38⟩ := bs j38
              refine cw_drawL 30 [fun vz wz => vz = (.bool t12.2 : Value), fun vz wz => vz = (.bool t19.2 : Value), fun vz wz => vz = (.bool (decide (t12.2 = t19.2)) : Value), fun vz wz => vz = (.bool (decide (t12.2 = t19.2)) : Value), fun vz wz => vz = (u14 : Value), fun vz wz => vz = (sv (List.map toB t12.1) : Value), fun vz wz => vz = (sv t19.1 : Value), fun vz wz => vz = (.bool (decide ((List.map toB t12.1) = t19.1)) : Value), fun vz wz => vz = (.bool (decide ((List.map toB t12.1) = t19.1)) : Value), fun vz wz => vz = (.bool (decide ((List.map toB t12.1) = t19.1)) : Value), fun vz wz => vz = (.bool t23.2 : Value), fun vz wz => vz = (.bool t19.2 : Value), fun vz wz => vz = (.bool (decide (t23.2 = t19.2)) : Value), fun vz wz => vz = (.bool (decide (t23.2 = t19.2)) : Value), fun vz wz => vz = (.bool (decide (t23.2 = t19.2)) : Value), fun vz wz => vz = (.bool t23.2 : Value), fun vz wz => vz = (.bool (!t23.2) : Value), fun vz wz => vz = (.bool (!t23.2) : Value), fun vz _ => vz = undef, fun vz _ => vz = undef, fun vz _ => vz = undef, fun vz wz => vz = (.bool true : Value), fun vz wz => vz = (.bool true : Value), fun vz wz => vz = (.bool true : Value), fun vz wz => vz = (aggV [Kd.seg (kA 16 (kI .i64)) a0.Kids] : Value), fun vz wz => vz = (.bool t43 : Value), fun vz wz => vz = (aggV [Kd.seg (kA 16 (kI .i64)) a0.Kids] : Value), fun vz wz => vz = (aggV [Kd.seg (kA 16 (kI .i64)) (Arr.rep 16 (0 : Int))] : Value), fun vz wz => vz = (.bool (decide (a0 = (⟨(Arr.rep 16 (0 : Int))⟩ : S_api_Fan))) : Value), fun vz wz => vz = (.bool (decide (t43 = (decide (a0 = (⟨(Arr.rep 16 (0 : Int))⟩ : S_api_Fan))))) : Value)] mo rfl ⟨fun _ _ _ h _ => h, fun _ _ _ h _ => h, fun _ _ _ h _ => h, fun _ _ _ h _ => h, fun _ _ _ h _ => h, fun _ _ _ h _ => h, fun _ _ _ h _ => h, fun _ _ _ h _ => h, fun _ _ _ h _ => h, fun _ _ _ h _ => h, fun _ _ _ h _ => h, fun _ _ _ h _ => h, fun _ _ _ h _ => h, fun _ _ _ h _ => h, fun _ _ _ h _ => h, fun _ _ _ h _ => h, fun _ _ _ h _ => h, fun _ _ _ h _ => h, fun _ _ _ h _ => h, fun _ _ _ h _ => h, fun _ _ _ h _ => h, fun _ _ _ h _ => h, fun _ _ _ h _ => h, fun _ _ _ h _ => h, fun _ _ _ h _ => h, fun _ _ _ h _ => h, fun _ _ _ h _ => h, fun _ _ _ h _ => h, fun _ _ _ h _ => h, fun _ _ _ h _ => h, trivial⟩ ?_ ?_
              · refine ⟨?_, ?_, ?_, ?_, ?_, ?_, ?_, ?_, ?_, ?_, ?_, ?_, ?_, ?_, ?_, ?_, ?_, ?_, ?_, ?_, ?_, ?_, ?_, ?_, ?_, ?_, ?_, ?_, ?_, ?_, trivial⟩
                · intro ρz wz hz hk hd
                  exact sk_val (v := .bool t12.2) (by exact xr_move rfl ((hk 4 rfl).trans rfl)) rfl rfl
                · intro ρz wz hz hk hd
                  exact sk_val (v := .bool t19.2) (by exact xr_move rfl ((hk 6 rfl).trans rfl)) rfl rfl
                · intro ρz wz hz hk hd
                  have d26 := hd 0 rfl 26 rfl
                  have d27 := hd 1 rfl 27 rfl
                  exact sk_val (v := .bool (decide (t12.2 = t19.2))) (by exact xr_eqB rfl Try.underlying4 d26 d27) rfl rfl
                · intro ρz wz hz hk hd
                  have d28 := hd 2 rfl 28 rfl
                  exact sk_val (v := .bool (decide (t12.2 = t19.2))) (by exact xr_move rfl d28) rfl rfl
                · intro ρz wz hz hk hd
                  have d29 := hd 3 rfl 29 rfl
                  exact sk_gval (v := u14) (by exact xr_move rfl ((hk 3 rfl).trans rfl)) rfl rfl d29 c39 rfl
                · intro ρz wz hz hk hd
                  have d30 := hd 4 rfl 30 rfl
                  have d29 := hd 3 rfl 29 rfl
                  exact sk_gval (v := sv (List.map toB t12.1)) (by exact xr_toStr rfl Try.underlying22 Try.underlying5 Try.underlying9 d30 (o15.gr hz).rd) rfl rfl d29 c39 rfl
                · intro ρz wz hz hk hd
                  have d29 := hd 3 rfl 29 rfl
                  exact sk_gval (v := sv t19.1) (by exact xr_move rfl ((hk 5 rfl).trans rfl)) rfl rfl d29 c39 rfl
                · intro ρz wz hz hk hd
                  have d31 := hd 5 rfl 31 rfl
                  have d32 := hd 6 rfl 32 rfl
                  have d29 := hd 3 rfl 29 rfl
                  exact sk_gval (v := .bool (decide ((List.map toB t12.1) = t19.1))) (by exact xr_eqStr rfl Try.underlying9 d31 d32) rfl rfl d29 c39 rfl
                · intro ρz wz hz hk hd
                  have d29 := hd 3 rfl 29 rfl
                  have d33 := hd 7 rfl 33 rfl
                  exact sk_val (v := .bool (decide ((List.map toB t12.1) = t19.1))) (by exact xr_pickT rfl d29 c39 d33) rfl rfl
                · intro ρz wz hz hk hd
                  have d34 := hd 8 rfl 34 rfl
                  exact sk_val (v := .bool (decide ((List.map toB t12.1) = t19.1))) (by exact xr_move rfl d34) rfl rfl
                · intro ρz wz hz hk hd
                  have d35 := hd 9 rfl 35 rfl
                  exact sk_gval (v := .bool t23.2) (by exact xr_move rfl ((hk 8 rfl).trans rfl)) rfl rfl d35 c40 rfl
                · intro ρz wz hz hk hd
                  have d35 := hd 9 rfl 35 rfl
                  exact sk_gval (v := .bool t19.2) (by exact xr_move rfl ((hk 6 rfl).trans rfl)) rfl rfl d35 c40 rfl
                · intro ρz wz hz hk hd
                  have d36 := hd 10 rfl 36 rfl
                  have d37 := hd 11 rfl 37 rfl
                  have d35 := hd 9 rfl 35 rfl
                  exact sk_gval (v := .bool (decide (t23.2 = t19.2))) (by exact xr_eqB rfl Try.underlying4 d36 d37) rfl rfl d35 c40 rfl
                · intro ρz wz hz hk hd
                  have d35 := hd 9 rfl 35 rfl
                  have d38 := hd 12 rfl 38 rfl
                  exact sk_val (v := .bool (decide (t23.2 = t19.2))) (by exact xr_pickT rfl d35 c40 d38) rfl rfl
                · intro ρz wz hz hk hd
                  have d39 := hd 13 rfl 39 rfl
                  exact sk_val (v := .bool (decide (t23.2 = t19.2))) (by exact xr_move rfl d39) rfl rfl
                · intro ρz wz hz hk hd
                  have d40 := hd 14 rfl 40 rfl
                  exact sk_gval (v := .bool t23.2) (by exact xr_move rfl ((hk 8 rfl).trans rfl)) rfl rfl d40 c41 rfl
                · intro ρz wz hz hk hd
                  have d41 := hd 15 rfl 41 rfl
                  have d40 := hd 14 rfl 40 rfl
                  exact sk_gval (v := .bool (!t23.2)) (by exact xr_not rfl d41) rfl rfl d40 c41 rfl
                · intro ρz wz hz hk hd
                  have d42 := hd 16 rfl 42 rfl
                  have d40 := hd 14 rfl 40 rfl
                  exact sk_gval (v := .bool (!t23.2)) (by exact xr_move rfl d42) rfl rfl d40 c41 rfl
                · intro ρz wz hz hk hd
                  have d43 := hd 17 rfl 43 rfl
                  exact sk_skip rfl rfl d43 c42 rfl
                · intro ρz wz hz hk hd
                  have d43 := hd 17 rfl 43 rfl
                  exact sk_skip rfl rfl d43 c42 rfl
                · intro ρz wz hz hk hd
                  have d43 := hd 17 rfl 43 rfl
                  exact sk_skip rfl rfl d43 c42 rfl
                · intro ρz wz hz hk hd
                  have d43 := hd 17 rfl 43 rfl
                  have d40 := hd 14 rfl 40 rfl
                  exact sk_gval (v := .bool true) (by exact xr_pickT rfl d43 c42 rfl) rfl rfl d40 c41 rfl
                · intro ρz wz hz hk hd
                  have d40 := hd 14 rfl 40 rfl
                  have d47 := hd 21 rfl 47 rfl
                  exact sk_val (v := .bool true) (by exact xr_pickT rfl d40 c41 d47) rfl rfl
                · intro ρz wz hz hk hd
                  have d48 := hd 22 rfl 48 rfl
                  exact sk_val (v := .bool true) (by exact xr_move rfl d48) rfl rfl
                · intro ρz wz hz hk hd
                  have d49 := hd 23 rfl 49 rfl
                  exact sk_gval (v := aggV [Kd.seg (kA 16 (kI .i64)) a0.Kids]) (by exact xr_loadS (ss := [Kd.seg (kA 16 (kI .i64)) a0.Kids]) rfl ag73 sz73 rfl ((hk 1 rfl).trans rfl) ((b2.gr hz).segs 0 1 rfl)) rfl rfl d49 rfl rfl
                · intro ρz wz hz hk hd
                  have d50 := hd 24 rfl 50 rfl
                  have d49 := hd 23 rfl 49 rfl
                  refine sk_gop (by exact opv_call rfl cal56 (ac d50 an) (page_Empty.ok fu _ a0 _ k44)) rfl rfl d49 rfl ?_
                  rintro _ wy ⟨rfl, q45⟩
                  exact ⟨rfl, q45⟩
                · intro ρz wz hz hk hd
                  have d49 := hd 23 rfl 49 rfl
                  exact sk_gval (v := aggV [Kd.seg (kA 16 (kI .i64)) a0.Kids]) (by exact xr_loadS (ss := [Kd.seg (kA 16 (kI .i64)) a0.Kids]) rfl ag73 sz73 rfl ((hk 1 rfl).trans rfl) ((b2.gr hz).segs 0 1 rfl)) rfl rfl d49 rfl rfl
                · intro ρz wz hz hk hd
                  have d49 := hd 23 rfl 49 rfl
                  exact sk_gval (v := aggV [Kd.seg (kA 16 (kI .i64)) (Arr.rep 16 (0 : Int))]) (by exact xr_build (vals := []) rfl trivial (bl73_ _)) rfl rfl d49 rfl rfl
                · intro ρz wz hz hk hd
                  have d52 := hd 26 rfl 52 rfl
                  have d53 := hd 27 rfl 53 rfl
                  have d49 := hd 23 rfl 49 rfl
                  exact sk_gval (by exact xr_eqA (a := a0) (b := (⟨(Arr.rep 16 (0 : Int))⟩ : S_api_Fan)) rfl eqa73 rfl Try.eqGuardType72 d52 d53 rfl rfl) rfl rfl d49 rfl rfl
                · intro ρz wz hz hk hd
                  have d51 := hd 25 rfl 51 rfl
                  have d54 := hd 28 rfl 54 rfl
                  have d49 := hd 23 rfl 49 rfl
                  exact sk_gval (by exact xr_eqB rfl Try.underlying4 d51 d54) rfl rfl d49 rfl rfl
              · intro ρ46 w47 q48 hk hd
                have e49 := hd 23 rfl 49 rfl
                have e55 := hd 29 rfl 55 rfl
                have fB := fB.gr q48
                refine ol_val (v := .bool (decide (t43 = (decide (a0 = (⟨(Arr.rep 16 (0 : Int))⟩ : S_api_Fan)))))) (by exact xr_pickT rfl e49 rfl e55) rfl rfl rfl ?_
                refine ol_val (v := .bool (decide (t43 = (decide (a0 = (⟨(Arr.rep 16 (0 : Int))⟩ : S_api_Fan)))))) (by exact xr_assign rfl rfl) rfl rfl rfl ?_
                refine ol_nil ?_
                obtain rfl := Option.some.inj j38
                refine thn_i ?_
                exact ⟨rfl, q48⟩
            · skip
              rcases is j38 with ⟨c49, j38⟩ | ⟨c49, j38⟩
              · skip
                obtain ⟨t50, k51, j38⟩ := bs j38
                refine cw_drawL 30 [fun vz wz => vz = (.bool t12.2 : Value), fun vz wz => vz = (.bool t19.2 : Value), fun vz wz => vz = (.bool (decide (t12.2 = t19.2)) : Value), fun vz wz => vz = (.bool (decide (t12.2 = t19.2)) : Value), fun vz wz => vz = (u14 : Value), fun vz wz => vz = (sv (List.map toB t12.1) : Value), fun vz wz => vz = (sv t19.1 : Value), fun vz wz => vz = (.bool (decide ((List.map toB t12.1) = t19.1)) : Value), fun vz wz => vz = (.bool (decide ((List.map toB t12.1) = t19.1)) : Value), fun vz wz => vz = (.bool (decide ((List.map toB t12.1) = t19.1)) : Value), fun vz wz => vz = (.bool t23.2 : Value), fun vz wz => vz = (.bool t19.2 : Value), fun vz wz => vz = (.bool (decide (t23.2 = t19.2)) : Value), fun vz wz => vz = (.bool (decide (t23.2 = t19.2)) : Value), fun vz wz => vz = (.bool (decide (t23.2 = t19.2)) : Value), fun vz wz => vz = (.bool t23.2 : Value), fun vz wz => vz = (.bool (!t23.2) : Value), fun vz wz => vz = (.bool (!t23.2) : Value), fun vz wz => vz = (aggV [Kd.seg (kA 16 (kI .i64)) t23.1.Kids] : Value), fun vz wz => vz = (aggV [Kd.seg (kA 16 (kI .i64)) a0.Kids] : Value), fun vz wz => vz = (.bool (decide (t23.1 = a0)) : Value), fun vz wz => vz = (.bool (decide (t23.1 = a0)) : Value), fun vz wz => vz = (.bool (decide (t23.1 = a0)) : Value), fun vz wz => vz = (.bool (decide (t23.1 = a0)) : Value), fun vz wz => vz = (aggV [Kd.seg (kA 16 (kI .i64)) a0.Kids] : Value), fun vz wz => vz = (.bool t50 : Value), fun vz wz => vz = (aggV [Kd.seg (kA 16 (kI .i64)) a0.Kids] : Value), fun vz wz => vz = (aggV [Kd.seg (kA 16 (kI .i64)) (Arr.rep 16 (0 : Int))] : Value), fun vz wz => vz = (.bool (decide (a0 = (⟨(Arr.rep 16 (0 : Int))⟩ : S_api_Fan))) : Value), fun vz wz => vz = (.bool (decide (t50 = (decide (a0 = (⟨(Arr.rep 16 (0 : Int))⟩ : S_api_Fan))))) : Value)] mo rfl ⟨fun _ _ _ h _ => h, fun _ _ _ h _ => h, fun _ _ _ h _ => h, fun _ _ _ h _ => h, fun _ _ _ h _ => h, fun _ _ _ h _ => h, fun _ _ _ h _ => h, fun _ _ _ h _ => h, fun _ _ _ h _ => h, fun _ _ _ h _ => h, fun _ _ _ h _ => h, fun _ _ _ h _ => h, fun _ _ _ h _ => h, fun _ _ _ h _ => h, fun _ _ _ h _ => h, fun _ _ _ h _ => h, fun _ _ _ h _ => h, fun _ _ _ h _ => h, fun _ _ _ h _ => h, fun _ _ _ h _ => h, fun _ _ _ h _ => h, fun _ _ _ h _ => h, fun _ _ _ h _ => h, fun _ _ _ h _ => h, fun _ _ _ h _ => h, fun _ _ _ h _ => h, fun _ _ _ h _ => h, fun _ _ _ h _ => h, fun _ _ _ h _ => h, fun _ _ _ h _ => h, trivial⟩ ?_ ?_
                · refine ⟨?_, ?_, ?_, ?_, ?_, ?_, ?_, ?_, ?_, ?_, ?_, ?_, ?_, ?_, ?_, ?_, ?_, ?_, ?_, ?_, ?_, ?_, ?_, ?_, ?_, ?_, ?_, ?_, ?_, ?_, trivial⟩
                  · intro ρz wz hz hk hd
                    exact sk_val (v := .bool t12.2) (by exact xr_move rfl ((hk 4 rfl).trans rfl)) rfl rfl
                  · intro ρz wz hz hk hd
                    exact sk_val (v := .bool t19.2) (by exact xr_move rfl ((hk 6 rfl).trans rfl)) rfl rfl
                  · intro ρz wz hz hk hd
                    have d26 := hd 0 rfl 26 rfl
                    have d27 := hd 1 rfl 27 rfl
                    exact sk_val (v := .bool (decide (t12.2 = t19.2))) (by exact xr_eqB rfl Try.underlying4 d26 d27) rfl rfl
                  · intro ρz wz hz hk hd
                    have d28 := hd 2 rfl 28 rfl
                    exact sk_val (v := .bool (decide (t12.2 = t19.2))) (by exact xr_move rfl d28) rfl rfl
                  · intro ρz wz hz hk hd
                    have d29 := hd 3 rfl 29 rfl
                    exact sk_gval (v := u14) (by exact xr_move rfl ((hk 3 rfl).trans rfl)) rfl rfl d29 c39 rfl
                  · intro ρz wz hz hk hd
                    have d30 := hd 4 rfl 30 rfl
                    have d29 := hd 3 rfl 29 rfl
                    exact sk_gval (v := sv (List.map toB t12.1)) (by exact xr_toStr rfl Try.underlying22 Try.underlying5 Try.underlying9 d30 (o15.gr hz).rd) rfl rfl d29 c39 rfl
                  · intro ρz wz hz hk hd
                    have d29 := hd 3 rfl 29 rfl
                    exact sk_gval (v := sv t19.1) (by exact xr_move rfl ((hk 5 rfl).trans rfl)) rfl rfl d29 c39 rfl
                  · intro ρz wz hz hk hd
                    have d31 := hd 5 rfl 31 rfl
                    have d32 := hd 6 rfl 32 rfl
                    have d29 := hd 3 rfl 29 rfl
                    exact sk_gval (v := .bool (decide ((List.map toB t12.1) = t19.1))) (by exact xr_eqStr rfl Try.underlying9 d31 d32) rfl rfl d29 c39 rfl
                  · intro ρz wz hz hk hd
                    have d29 := hd 3 rfl 29 rfl
                    have d33 := hd 7 rfl 33 rfl
                    exact sk_val (v := .bool (decide ((List.map toB t12.1) = t19.1))) (by exact xr_pickT rfl d29 c39 d33) rfl rfl
                  · intro ρz wz hz hk hd
                    have d34 := hd 8 rfl 34 rfl
                    exact sk_val (v := .bool (decide ((List.map toB t12.1) = t19.1))) (by exact xr_move rfl d34) rfl rfl
                  · intro ρz wz hz hk hd
                    have d35 := hd 9 rfl 35 rfl
                    exact sk_gval (v := .bool t23.2) (by exact xr_move rfl ((hk 8 rfl).trans rfl)) rfl rfl d35 c40 rfl
                  · intro ρz wz hz hk hd
                    have d35 := hd 9 rfl 35 rfl
                    exact sk_gval (v := .bool t19.2) (by exact xr_move rfl ((hk 6 rfl).trans rfl)) rfl rfl d35 c40 rfl
                  · intro ρz wz hz hk hd
                    have d36 := hd 10 rfl 36 rfl
                    have d37 := hd 11 rfl 37 rfl
                    have d35 := hd 9 rfl 35 rfl
                    exact sk_gval (v := .bool (decide (t23.2 = t19.2))) (by exact xr_eqB rfl Try.underlying4 d36 d37) rfl rfl d35 c40 rfl
                  · intro ρz wz hz hk hd
                    have d35 := hd 9 rfl 35 rfl
                    have d38 := hd 12 rfl 38 rfl
                    exact sk_val (v := .bool (decide (t23.2 = t19.2))) (by exact xr_pickT rfl d35 c40 d38) rfl rfl
                  · intro ρz wz hz hk hd
                    have d39 := hd 13 rfl 39 rfl
                    exact sk_val (v := .bool (decide (t23.2 = t19.2))) (by exact xr_move rfl d39) rfl rfl
                  · intro ρz wz hz hk hd
                    have d40 := hd 14 rfl 40 rfl
                    exact sk_gval (v := .bool t23.2) (by exact xr_move rfl ((hk 8 rfl).trans rfl)) rfl rfl d40 c41 rfl
                  · intro ρz wz hz hk hd
                    have d41 := hd 15 rfl 41 rfl
                    have d40 := hd 14 rfl 40 rfl
                    exact sk_gval (v := .bool (!t23.2)) (by exact xr_not rfl d41) rfl rfl d40 c41 rfl
                  · intro ρz wz hz hk hd
                    have d42 := hd 16 rfl 42 rfl
                    have d40 := hd 14 rfl 40 rfl
                    exact sk_gval (v := .bool (!t23.2)) (by exact xr_move rfl d42) rfl rfl d40 c41 rfl
                  · intro ρz wz hz hk hd
                    have d43 := hd 17 rfl 43 rfl
                    exact sk_gval (v := aggV [Kd.seg (kA 16 (kI .i64)) t23.1.Kids]) (by exact xr_loadS (ss := [Kd.seg (kA 16 (kI .i64)) t23.1.Kids]) rfl ag73 sz73 rfl ((hk 7 rfl).trans rfl) ((b28.gr hz).segs 0 1 rfl)) rfl rfl d43 c42 rfl
                  · intro ρz wz hz hk hd
                    have d43 := hd 17 rfl 43 rfl
                    exact sk_gval (v := aggV [Kd.seg (kA 16 (kI .i64)) a0.Kids]) (by exact xr_loadS (ss := [Kd.seg (kA 16 (kI .i64)) a0.Kids]) rfl ag73 sz73 rfl ((hk 1 rfl).trans rfl) ((b2.gr hz).segs 0 1 rfl)) rfl rfl d43 c42 rfl
                  · intro ρz wz hz hk hd
                    have d44 := hd 18 rfl 44 rfl
                    have d45 := hd 19 rfl 45 rfl
                    have d43 := hd 17 rfl 43 rfl
                    exact sk_gval (v := .bool (decide (t23.1 = a0))) (by exact xr_eqA (a := t23.1) (b := a0) rfl eqa73 rfl Try.eqGuardType72 d44 d45 rfl rfl) rfl rfl d43 c42 rfl
                  · intro ρz wz hz hk hd
                    have d43 := hd 17 rfl 43 rfl
                    have d46 := hd 20 rfl 46 rfl
                    have d40 := hd 14 rfl 40 rfl
                    exact sk_gval (v := .bool (decide (t23.1 = a0))) (by exact xr_pickF rfl d43 c42 d46) rfl rfl d40 c41 rfl
                  · intro ρz wz hz hk hd
                    have d40 := hd 14 rfl 40 rfl
                    have d47 := hd 21 rfl 47 rfl
                    exact sk_val (v := .bool (decide (t23.1 = a0))) (by exact xr_pickT rfl d40 c41 d47) rfl rfl
                  · intro ρz wz hz hk hd
                    have d48 := hd 22 rfl 48 rfl
                    exact sk_val (v := .bool (decide (t23.1 = a0))) (by exact xr_move rfl d48) rfl rfl
                  · intro ρz wz hz hk hd
                    have d49 := hd 23 rfl 49 rfl
                    exact sk_gval (v := aggV [Kd.seg (kA 16 (kI .i64)) a0.Kids]) (by exact xr_loadS (ss := [Kd.seg (kA 16 (kI .i64)) a0.Kids]) rfl ag73 sz73 rfl ((hk 1 rfl).trans rfl) ((b2.gr hz).segs 0 1 rfl)) rfl rfl d49 c49 rfl
                  · intro ρz wz hz hk hd
                    have d50 := hd 24 rfl 50 rfl
                    have d49 := hd 23 rfl 49 rfl
                    refine sk_gop (by exact opv_call rfl cal56 (ac d50 an) (page_Empty.ok fu _ a0 _ k51)) rfl rfl d49 c49 ?_
                    rintro _ wy ⟨rfl, q52⟩
                    exact ⟨rfl, q52⟩
                  · intro ρz wz hz hk hd
                    have d49 := hd 23 rfl 49 rfl
                    exact sk_gval (v := aggV [Kd.seg (kA 16 (kI .i64)) a0.Kids]) (by exact xr_loadS (ss := [Kd.seg (kA 16 (kI .i64)) a0.Kids]) rfl ag73 sz73 rfl ((hk 1 rfl).trans rfl) ((b2.gr hz).segs 0 1 rfl)) rfl rfl d49 c49 rfl
                  · intro ρz wz hz hk hd
                    have d49 := hd 23 rfl 49 rfl
                    exact sk_gval (v := aggV [Kd.seg (kA 16 (kI .i64)) (Arr.rep 16 (0 : Int))]) (by exact xr_build (vals := []) rfl trivial (bl73_ _)) rfl rfl d49 c49 rfl
                  · intro ρz wz hz hk hd
                    have d52 := hd 26 rfl 52 rfl
                    have d53 := hd 27 rfl 53 rfl
                    have d49 := hd 23 rfl 49 rfl
                    exact sk_gval (by exact xr_eqA (a := a0) (b := (⟨(Arr.rep 16 (0 : Int))⟩ : S_api_Fan)) rfl eqa73 rfl Try.eqGuardType72 d52 d53 rfl rfl) rfl rfl d49 c49 rfl
                  · intro ρz wz hz hk hd
                    have d51 := hd 25 rfl 51 rfl
                    have d54 := hd 28 rfl 54 rfl
                    have d49 := hd 23 rfl 49 rfl
                    exact sk_gval (by exact xr_eqB rfl Try.underlying4 d51 d54) rfl rfl d49 c49 rfl
                · intro ρ53 w54 q55 hk hd
                  have e49 := hd 23 rfl 49 rfl
                  have e55 := hd 29 rfl 55 rfl
                  have fB := fB.gr q55
                  refine ol_val (v := .bool (decide (t50 = (decide (a0 = (⟨(Arr.rep 16 (0 : Int))⟩ : S_api_Fan)))))) (by exact xr_pickT rfl e49 c49 e55) rfl rfl rfl ?_
                  refine ol_val (v := .bool (decide (t50 = (decide (a0 = (⟨(Arr.rep 16 (0 : Int))⟩ : S_api_Fan)))))) (by exact xr_assign rfl rfl) rfl rfl rfl ?_
                  refine ol_nil ?_
                  obtain rfl := Option.some.inj j38
                  refine thn_i ?_
                  exact ⟨rfl, q55⟩
              · skip
                refine cw_drawL 30 [fun vz wz => vz = (.bool t12.2 : Value), fun vz wz => vz = (.bool t19.2 : Value), fun vz wz => vz = (.bool (decide (t12.2 = t19.2)) : Value), fun vz wz => vz = (.bool (decide (t12.2 = t19.2)) : Value), fun vz wz => vz = (u14 : Value), fun vz wz => vz = (sv (List.map toB t12.1) : Value), fun vz wz => vz = (sv t19.1 : Value), fun vz wz => vz = (.bool (decide ((List.map toB t12.1) = t19.1)) : Value), fun vz wz => vz = (.bool (decide ((List.map toB t12.1) = t19.1)) : Value), fun vz wz => vz = (.bool (decide ((List.map toB t12.1) = t19.1)) : Value), fun vz wz => vz = (.bool t23.2 : Value), fun vz wz => vz = (.bool t19.2 : Value), fun vz wz => vz = (.bool (decide (t23.2 = t19.2)) : Value), fun vz wz => vz = (.bool (decide (t23.2 = t19.2)) : Value), fun vz wz => vz = (.bool (decide (t23.2 = t19.2)) : Value), fun vz wz => vz = (.bool t23.2 : Value), fun vz wz => vz = (.bool (!t23.2) : Value), fun vz wz => vz = (.bool (!t23.2) : Value), fun vz wz => vz = (aggV [Kd.seg (kA 16 (kI .i64)) t23.1.Kids] : Value), fun vz wz => vz = (aggV [Kd.seg (kA 16 (kI .i64)) a0.Kids] : Value), fun vz wz => vz = (.bool (decide (t23.1 = a0)) : Value), fun vz wz => vz = (.bool (decide (t23.1 = a0)) : Value), fun vz wz => vz = (.bool (decide (t23.1 = a0)) : Value), fun vz wz => vz = (.bool (decide (t23.1 = a0)) : Value), fun vz _ => vz = undef, fun vz _ => vz = undef, fun vz _ => vz = undef, fun vz _ => vz = undef, fun vz _ => vz = undef, fun vz _ => vz = undef] mo rfl ⟨fun _ _ _ h _ => h, fun _ _ _ h _ => h, fun _ _ _ h _ => h, fun _ _ _ h _ => h, fun _ _ _ h _ => h, fun _ _ _ h _ => h, fun _ _ _ h _ => h, fun _ _ _ h _ => h, fun _ _ _ h _ => h, fun _ _ _ h _ => h, fun _ _ _ h _ => h, fun _ _ _ h _ => h, fun _ _ _ h _ => h, fun _ _ _ h _ => h, fun _ _ _ h _ => h, fun _ _ _ h _ => h, fun _ _ _ h _ => h, fun _ _ _ h _ => h, fun _ _ _ h _ => h, fun _ _ _ h _ => h, fun _ _ _ h _ => h, fun _ _ _ h _ => h, fun _ _ _ h _ => h, fun _ _ _ h _ => h, fun _ _ _ h _ => h, fun _ _ _ h _ => h, fun _ _ _ h _ => h, fun _ _ _ h _ => h, fun _ _ _ h _ => h, fun _ _ _ h _ => h, trivial⟩ ?_ ?_
                · refine ⟨?_, ?_, ?_, ?_, ?_, ?_, ?_, ?_, ?_, ?_, ?_, ?_, ?_, ?_, ?_, ?_, ?_, ?_, ?_, ?_, ?_, ?_, ?_, ?_, ?_, ?_, ?_, ?_, ?_, ?_, trivial⟩
                  · intro ρz wz hz hk hd
                    exact sk_val (v := .bool t12.2) (by exact xr_move rfl ((hk 4 rfl).trans rfl)) rfl rfl
                  · intro ρz wz hz hk hd
                    exact sk_val (v := .bool t19.2) (by exact xr_move rfl ((hk 6 rfl).trans rfl)) rfl rfl
                  · intro ρz wz hz hk hd
                    have d26 := hd 0 rfl 26 rfl
                    have d27 := hd 1 rfl 27 rfl
                    exact sk_val (v := .bool (decide (t12.2 = t19.2))) (by exact xr_eqB rfl Try.underlying4 d26 d27) rfl rfl
                  · intro ρz wz hz hk hd
                    have d28 := hd 2 rfl 28 rfl
                    exact sk_val (v := .bool (decide (t12.2 = t19.2))) (by exact xr_move rfl d28) rfl rfl
                  · intro ρz wz hz hk hd
                    have d29 := hd 3 rfl 29 rfl
                    exact sk_gval (v := u14) (by exact xr_move rfl ((hk 3 rfl).trans rfl)) rfl rfl d29 c39 rfl
                  · intro ρz wz hz hk hd
                    have d30 := hd 4 rfl 30 rfl
                    have d29 := hd 3 rfl 29 rfl
                    exact sk_gval (v := sv (List.map toB t12.1)) (by exact xr_toStr rfl Try.underlying22 Try.underlying5 Try.underlying9 d30 (o15.gr hz).rd) rfl rfl d29 c39 rfl
                  · intro ρz wz hz hk hd
                    have d29 := hd 3 rfl 29 rfl
                    exact sk_gval (v := sv t19.1) (by exact xr_move rfl ((hk 5 rfl).trans rfl)) rfl rfl d29 c39 rfl
                  · intro ρz wz hz hk hd
                    have d31 := hd 5 rfl 31 rfl
                    have d32 := hd 6 rfl 32 rfl
                    have d29 := hd 3 rfl 29 rfl
                    exact sk_gval (v := .bool (decide ((List.map toB t12.1) = t19.1))) (by exact xr_eqStr rfl Try.underlying9 d31 d32) rfl rfl d29 c39 rfl
                  · intro ρz wz hz hk hd
                    have d29 := hd 3 rfl 29 rfl
                    have d33 := hd 7 rfl 33 rfl
                    exact sk_val (v := .bool (decide ((List.map toB t12.1) = t19.1))) (by exact xr_pickT rfl d29 c39 d33) rfl rfl
                  · intro ρz wz hz hk hd
                    have d34 := hd 8 rfl 34 rfl
                    exact sk_val (v := .bool (decide ((List.map toB t12.1) = t19.1))) (by exact xr_move rfl d34) rfl rfl
                  · intro ρz wz hz hk hd
                    have d35 := hd 9 rfl 35 rfl
                    exact sk_gval (v := .bool t23.2) (by exact xr_move rfl ((hk 8 rfl).trans rfl)) rfl rfl d35 c40 rfl
                  · intro ρz wz hz hk hd
                    have d35 := hd 9 rfl 35 rfl
                    exact sk_gval (v := .bool t19.2) (by exact xr_move rfl ((hk 6 rfl).trans rfl)) rfl rfl d35 c40 rfl
                  · intro ρz wz hz hk hd
                    have d36 := hd 10 rfl 36 rfl
                    have d37 := hd 11 rfl 37 rfl
                    have d35 := hd 9 rfl 35 rfl
                    exact sk_gval (v := .bool (decide (t23.2 = t19.2))) (by exact xr_eqB rfl Try.underlying4 d36 d37) rfl rfl d35 c40 rfl
                  · intro ρz wz hz hk hd
                    have d35 := hd 9 rfl 35 rfl
                    have d38 := hd 12 rfl 38 rfl
                    exact sk_val (v := .bool (decide (t23.2 = t19.2))) (by exact xr_pickT rfl d35 c40 d38) rfl rfl
                  · intro ρz wz hz hk hd
                    have d39 := hd 13 rfl 39 rfl
                    exact sk_val (v := .bool (decide (t23.2 = t19.2))) (by exact xr_move rfl d39) rfl rfl
                  · intro ρz wz hz hk hd
                    have d40 := hd 14 rfl 40 rfl
                    exact sk_gval (v := .bool t23.2) (by exact xr_move rfl ((hk 8 rfl).trans rfl)) rfl rfl d40 c41 rfl
                  · intro ρz wz hz hk hd
                    have d41 := hd 15 rfl 41 rfl
                    have d40 := hd 14 rfl 40 rfl
                    exact sk_gval (v := .bool (!t23.2)) (by exact xr_not rfl d41) rfl rfl d40 c41 rfl
                  · intro ρz wz hz hk hd
                    have d42 := hd 16 rfl 42 rfl
                    have d40 := hd 14 rfl 40 rfl
                    exact sk_gval (v := .bool (!t23.2)) (by exact xr_move rfl d42) rfl rfl d40 c41 rfl
                  · intro ρz wz hz hk hd
                    have d43 := hd 17 rfl 43 rfl
                    exact sk_gval (v := aggV [Kd.seg (kA 16 (kI .i64)) t23.1.Kids]) (by exact xr_loadS (ss := [Kd.seg (kA 16 (kI .i64)) t23.1.Kids]) rfl ag73 sz73 rfl ((hk 7 rfl).trans rfl) ((b28.gr hz).segs 0 1 rfl)) rfl rfl d43 c42 rfl
                  · intro ρz wz hz hk hd
                    have d43 := hd 17 rfl 43 rfl
                    exact sk_gval (v := aggV [Kd.seg (kA 16 (kI .i64)) a0.Kids]) (by exact xr_loadS (ss := [Kd.seg (kA 16 (kI .i64)) a0.Kids]) rfl ag73 sz73 rfl ((hk 1 rfl).trans rfl) ((b2.gr hz).segs 0 1 rfl)) rfl rfl d43 c42 rfl
                  · intro ρz wz hz hk hd
                    have d44 := hd 18 rfl 44 rfl
                    have d45 := hd 19 rfl 45 rfl
                    have d43 := hd 17 rfl 43 rfl
                    exact sk_gval (v := .bool (decide (t23.1 = a0))) (by exact xr_eqA (a := t23.1) (b := a0) rfl eqa73 rfl Try.eqGuardType72 d44 d45 rfl rfl) rfl rfl d43 c42 rfl
                  · intro ρz wz hz hk hd
                    have d43 := hd 17 rfl 43 rfl
                    have d46 := hd 20 rfl 46 rfl
                    have d40 := hd 14 rfl 40 rfl
                    exact sk_gval (v := .bool (decide (t23.1 = a0))) (by exact xr_pickF rfl d43 c42 d46) rfl rfl d40 c41 rfl
                  · intro ρz wz hz hk hd
                    have d40 := hd 14 rfl 40 rfl
                    have d47 := hd 21 rfl 47 rfl
                    exact sk_val (v := .bool (decide (t23.1 = a0))) (by exact xr_pickT rfl d40 c41 d47) rfl rfl
                  · intro ρz wz hz hk hd
                    have d48 := hd 22 rfl 48 rfl
                    exact sk_val (v := .bool (decide (t23.1 = a0))) (by exact xr_move rfl d48) rfl rfl
                  · intro ρz wz hz hk hd
                    have d49 := hd 23 rfl 49 rfl
                    exact sk_skip rfl rfl d49 c49 rfl
                  · intro ρz wz hz hk hd
                    have d49 := hd 23 rfl 49 rfl
                    exact sk_skip rfl rfl d49 c49 rfl
                  · intro ρz wz hz hk hd
                    have d49 := hd 23 rfl 49 rfl
                    exact sk_skip rfl rfl d49 c49 rfl
                  · intro ρz wz hz hk hd
                    have d49 := hd 23 rfl 49 rfl
                    exact sk_skip rfl rfl d49 c49 rfl
                  · intro ρz wz hz hk hd
                    have d49 := hd 23 rfl 49 rfl
                    exact sk_skip rfl rfl d49 c49 rfl
                  · intro ρz wz hz hk hd
                    have d49 := hd 23 rfl 49 rfl
                    exact sk_skip rfl rfl d49 c49 rfl
                · intro ρ56 w57 q58 hk hd
                  have e49 := hd 23 rfl 49 rfl
                  have fB := fB.gr q58
                  refine ol_val (v := .bool false) (by exact xr_pickF rfl e49 c49 rfl) rfl rfl rfl ?_
                  refine ol_val (v := .bool false) (by exact xr_assign rfl rfl) rfl rfl rfl ?_
                  refine ol_nil ?_
                  obtain rfl := Option.some.inj j38
                  refine thn_i ?_
                  exact ⟨rfl, q58⟩
          · skip
            refine cw_drawL 30 [fun vz wz => vz = (.bool t12.2 : Value), fun vz wz => vz = (.bool t19.2 : Value), fun vz wz => vz = (.bool (decide (t12.2 = t19.2)) : Value), fun vz wz => vz = (.bool (decide (t12.2 = t19.2)) : Value), fun vz wz => vz = (u14 : Value), fun vz wz => vz = (sv (List.map toB t12.1) : Value), fun vz wz => vz = (sv t19.1 : Value), fun vz wz => vz = (.bool (decide ((List.map toB t12.1) = t19.1)) : Value), fun vz wz => vz = (.bool (decide ((List.map toB t12.1) = t19.1)) : Value), fun vz wz => vz = (.bool (decide ((List.map toB t12.1) = t19.1)) : Value), fun vz wz => vz = (.bool t23.2 : Value), fun vz wz => vz = (.bool t19.2 : Value), fun vz wz => vz = (.bool (decide (t23.2 = t19.2)) : Value), fun vz wz => vz = (.bool (decide (t23.2 = t19.2)) : Value), fun vz wz => vz = (.bool (decide (t23.2 = t19.2)) : Value), fun vz _ => vz = undef, fun vz _ => vz = undef, fun vz _ => vz = undef, fun vz _ => vz = undef, fun vz _ => vz = undef, fun vz _ => vz = undef, fun vz _ => vz = undef, fun vz wz => vz = (.bool false : Value), fun vz wz => vz = (.bool false : Value), fun vz _ => vz = undef, fun vz _ => vz = undef, fun vz _ => vz = undef, fun vz _ => vz = undef, fun vz _ => vz = undef, fun vz _ => vz = undef] mo rfl ⟨fun _ _ _ h _ => h, fun _ _ _ h _ => h, fun _ _ _ h _ => h, fun _ _ _ h _ => h, fun _ _ _ h _ => h, fun _ _ _ h _ => h, fun _ _ _ h _ => h, fun _ _ _ h _ => h, fun _ _ _ h _ => h, fun _ _ _ h _ => h, fun _ _ _ h _ => h, fun _ _ _ h _ => h, fun _ _ _ h _ => h, fun _ _ _ h _ => h, fun _ _ _ h _ => h, fun _ _ _ h _ => h, fun _ _ _ h _ => h, fun _ _ _ h _ => h, fun _ _ _ h _ => h, fun _ _ _ h _ => h, fun _ _ _ h _ => h, fun _ _ _ h _ => h, fun _ _ _ h _ => h, fun _ _ _ h _ => h, fun _ _ _ h _ => h, fun _ _ _ h _ => h, fun _ _ _ h _ => h, fun _ _ _ h _ => h, fun _ _ _ h _ => h, fun _ _ _ h _ => h, trivial⟩ ?_ ?_
            · refine ⟨?_, ?_, ?_, ?_, ?_, ?_, ?_, ?_, ?_, ?_, ?_, ?_, ?_, ?_, ?_, ?_, ?_, ?_, ?_, ?_, ?_, ?_, ?_, ?_, ?_, ?_, ?_, ?_, ?_, ?_, trivial⟩
              · intro ρz wz hz hk hd
                exact sk_val (v := .bool t12.2) (by exact xr_move rfl ((hk 4 rfl).trans rfl)) rfl rfl
              · intro ρz wz hz hk hd
                exact sk_val (v := .bool t19.2) (by exact xr_move rfl ((hk 6 rfl).trans rfl)) rfl rfl
              · intro ρz wz hz hk hd
                have d26 := hd 0 rfl 26 rfl
                have d27 := hd 1 rfl 27 rfl
                exact sk_val (v := .bool (decide (t12.2 = t19.2))) (by exact xr_eqB rfl Try.underlying4 d26 d27) rfl rfl
              · intro ρz wz hz hk hd
                have d28 := hd 2 rfl 28 rfl
                exact sk_val (v := .bool (decide (t12.2 = t19.2))) (by exact xr_move rfl d28) rfl rfl
              · intro ρz wz hz hk hd
                have d29 := hd 3 rfl 29 rfl
                exact sk_gval (v := u14) (by exact xr_move rfl ((hk 3 rfl).trans rfl)) rfl rfl d29 c39 rfl
              · intro ρz wz hz hk hd
                have d30 := hd 4 rfl 30 rfl
                have d29 := hd 3 rfl 29 rfl
                exact sk_gval (v := sv (List.map toB t12.1)) (by exact xr_toStr rfl Try.underlying22 Try.underlying5 Try.underlying9 d30 (o15.gr hz).rd) rfl rfl d29 c39 rfl
              · intro ρz wz hz hk hd
                have d29 := hd 3 rfl 29 rfl
                exact sk_gval (v := sv t19.1) (by exact xr_move rfl ((hk 5 rfl).trans rfl)) rfl rfl d29 c39 rfl
              · intro ρz wz hz hk hd
                have d31 := hd 5 rfl 31 rfl
                have d32 := hd 6 rfl 32 rfl
                have d29 := hd 3 rfl 29 rfl
                exact sk_gval (v := .bool (decide ((List.map toB t12.1) = t19.1))) (by exact xr_eqStr rfl Try.underlying9 d31 d32) rfl rfl d29 c39 rfl
              · intro ρz wz hz hk hd
                have d29 := hd 3 rfl 29 rfl
                have d33 := hd 7 rfl 33 rfl
                exact sk_val (v := .bool (decide ((List.map toB t12.1) = t19.1))) (by exact xr_pickT rfl d29 c39 d33) rfl rfl
              · intro ρz wz hz hk hd
                have d34 := hd 8 rfl 34 rfl
                exact sk_val (v := .bool (decide ((List.map toB t12.1) = t19.1))) (by exact xr_move rfl d34) rfl rfl
              · intro ρz wz hz hk hd
                have d35 := hd 9 rfl 35 rfl
                exact sk_gval (v := .bool t23.2) (by exact xr_move rfl ((hk 8 rfl).trans rfl)) rfl rfl d35 c40 rfl
              · intro ρz wz hz hk hd
                have d35 := hd 9 rfl 35 rfl
                exact sk_gval (v := .bool t19.2) (by exact xr_move rfl ((hk 6 rfl).trans rfl)) rfl rfl d35 c40 rfl
              · intro ρz wz hz hk hd
                have d36 := hd 10 rfl 36 rfl
                have d37 := hd 11 rfl 37 rfl
                have d35 := hd 9 rfl 35 rfl
                exact sk_gval (v := .bool (decide (t23.2 = t19.2))) (by exact xr_eqB rfl Try.underlying4 d36 d37) rfl rfl d35 c40 rfl
              · intro ρz wz hz hk hd
                have d35 := hd 9 rfl 35 rfl
                have d38 := hd 12 rfl 38 rfl
                exact sk_val (v := .bool (decide (t23.2 = t19.2))) (by exact xr_pickT rfl d35 c40 d38) rfl rfl
              · intro ρz wz hz hk hd
                have d39 := hd 13 rfl 39 rfl
                exact sk_val (v := .bool (decide (t23.2 = t19.2))) (by exact xr_move rfl d39) rfl rfl
              · intro ρz wz hz hk hd
                have d40 := hd 14 rfl 40 rfl
                exact sk_skip rfl rfl d40 c41 rfl
              · intro ρz wz hz hk hd
                have d40 := hd 14 rfl 40 rfl
                exact sk_skip rfl rfl d40 c41 rfl
              · intro ρz wz hz hk hd
                have d40 := hd 14 rfl 40 rfl
                exact sk_skip rfl rfl d40 c41 rfl
              · intro ρz wz hz hk hd
                have d43 := hd 17 rfl 43 rfl
                exact sk_uskip rfl rfl d43 rfl
              · intro ρz wz hz hk hd
                have d43 := hd 17 rfl 43 rfl
                exact sk_uskip rfl rfl d43 rfl
              · intro ρz wz hz hk hd
                have d43 := hd 17 rfl 43 rfl
                exact sk_uskip rfl rfl d43 rfl
              · intro ρz wz hz hk hd
                have d40 := hd 14 rfl 40 rfl
                exact sk_skip rfl rfl d40 c41 rfl
              · intro ρz wz hz hk hd
                have d40 := hd 14 rfl 40 rfl
                exact sk_val (v := .bool false) (by exact xr_pickF rfl d40 c41 rfl) rfl rfl
              · intro ρz wz hz hk hd
                have d48 := hd 22 rfl 48 rfl
                exact sk_val (v := .bool false) (by exact xr_move rfl d48) rfl rfl
              · intro ρz wz hz hk hd
                have d49 := hd 23 rfl 49 rfl
                exact sk_skip rfl rfl d49 rfl rfl
              · intro ρz wz hz hk hd
                have d49 := hd 23 rfl 49 rfl
                exact sk_skip rfl rfl d49 rfl rfl
              · intro ρz wz hz hk hd
                have d49 := hd 23 rfl 49 rfl
                exact sk_skip rfl rfl d49 rfl rfl
              · intro ρz wz hz hk hd
                have d49 := hd 23 rfl 49 rfl
                exact sk_skip rfl rfl d49 rfl rfl
              · intro ρz wz hz hk hd
                have d49 := hd 23 rfl 49 rfl
                exact sk_skip rfl rfl d49 rfl rfl
              · intro ρz wz hz hk hd
                have d49 := hd 23 rfl 49 rfl
                exact sk_skip rfl rfl d49 rfl rfl
            · intro ρ59 w60 q61 hk hd
              have e49 := hd 23 rfl 49 rfl
              have fB := fB.gr q61
              refine ol_val (v := .bool false) (by exact xr_pickF rfl e49 rfl rfl) rfl rfl rfl ?_
              refine ol_val (v := .bool false) (by exact xr_assign rfl rfl) rfl rfl rfl ?_
              refine ol_nil ?_
              obtain rfl := Option.some.inj j38
              refine thn_i ?_
              exact ⟨rfl, q61⟩
        · skip
          refine cw_drawL 30 [fun vz wz => vz = (.bool t12.2 : Value), fun vz wz => vz = (.bool t19.2 : Value), fun vz wz => vz = (.bool (decide (t12.2 = t19.2)) : Value), fun vz wz => vz = (.bool (decide (t12.2 = t19.2)) : Value), fun vz wz => vz = (u14 : Value), fun vz wz => vz = (sv (List.map toB t12.1) : Value), fun vz wz => vz = (sv t19.1 : Value), fun vz wz => vz = (.bool (decide ((List.map toB t12.1) = t19.1)) : Value), fun vz wz => vz = (.bool (decide ((List.map toB t12.1) = t19.1)) : Value), fun vz wz => vz = (.bool (decide ((List.map toB t12.1) = t19.1)) : Value), fun vz _ => vz = undef, fun vz _ => vz = undef, fun vz _ => vz = undef, fun vz wz => vz = (.bool false : Value), fun vz wz => vz = (.bool false : Value), fun vz _ => vz = undef, fun vz _ => vz = undef, fun vz _ => vz = undef, fun vz _ => vz = undef, fun vz _ => vz = undef, fun vz _ => vz = undef, fun vz _ => vz = undef, fun vz wz => vz = (.bool false : Value), fun vz wz => vz = (.bool false : Value), fun vz _ => vz = undef, fun vz _ => vz = undef, fun vz _ => vz = undef, fun vz _ => vz = undef, fun vz _ => vz = undef, fun vz _ => vz = undef] mo rfl ⟨fun _ _ _ h _ => h, fun _ _ _ h _ => h, fun _ _ _ h _ => h, fun _ _ _ h _ => h, fun _ _ _ h _ => h, fun _ _ _ h _ => h, fun _ _ _ h _ => h, fun _ _ _ h _ => h, fun _ _ _ h _ => h, fun _ _ _ h _ => h, fun _ _ _ h _ => h, fun _ _ _ h _ => h, fun _ _ _ h _ => h, fun _ _ _ h _ => h, fun _ _ _ h _ => h, fun _ _ _ h _ => h, fun _ _ _ h _ => h, fun _ _ _ h _ => h, fun _ _ _ h _ => h, fun _ _ _ h _ => h, fun _ _ _ h _ => h, fun _ _ _ h _ => h, fun _ _ _ h _ => h, fun _ _ _ h _ => h, fun _ _ _ h _ => h, fun _ _ _ h _ => h, fun _ _ _ h _ => h, fun _ _ _ h _ => h, fun _ _ _ h _ => h, fun _ _ _ h _ => h, trivial⟩ ?_ ?_
          · refine ⟨?_, ?_, ?_, ?_, ?_, ?_, ?_, ?_, ?_, ?_, ?_, ?_, ?_, ?_, ?_, ?_, ?_, ?_, ?_, ?_, ?_, ?_, ?_, ?_, ?_, ?_, ?_, ?_, ?_, ?_, trivial⟩
            · intro ρz wz hz hk hd
              exact sk_val (v := .bool t12.2) (by exact xr_move rfl ((hk 4 rfl).trans rfl)) rfl rfl
            · intro ρz wz hz hk hd
              exact sk_val (v := .bool t19.2) (by exact xr_move rfl ((hk 6 rfl).trans rfl)) rfl rfl
            · intro ρz wz hz hk hd
              have d26 := hd 0 rfl 26 rfl
              have d27 := hd 1 rfl 27 rfl
              exact sk_val (v := .bool (decide (t12.2 = t19.2))) (by exact xr_eqB rfl Try.underlying4 d26 d27) rfl rfl
            · intro ρz wz hz hk hd
              have d28 := hd 2 rfl 28 rfl
              exact sk_val (v := .bool (decide (t12.2 = t19.2))) (by exact xr_move rfl d28) rfl rfl
            · intro ρz wz hz hk hd
              have d29 := hd 3 rfl 29 rfl
              exact sk_gval (v := u14) (by exact xr_move rfl ((hk 3 rfl).trans rfl)) rfl rfl d29 c39 rfl
            · intro ρz wz hz hk hd
              have d30 := hd 4 rfl 30 rfl
              have d29 := hd 3 rfl 29 rfl
              exact sk_gval (v := sv (List.map toB t12.1)) (by exact xr_toStr rfl Try.underlying22 Try.underlying5 Try.underlying9 d30 (o15.gr hz).rd) rfl rfl d29 c39 rfl
            · intro ρz wz hz hk hd
              have d29 := hd 3 rfl 29 rfl
              exact sk_gval (v := sv t19.1) (by exact xr_move rfl ((hk 5 rfl).trans rfl)) rfl rfl d29 c39 rfl
            · intro ρz wz hz hk hd
              have d31 := hd 5 rfl 31 rfl
              have d32 := hd 6 rfl 32 rfl
              have d29 := hd 3 rfl 29 rfl
              exact sk_gval (v := .bool (decide ((List.map toB t12.1) = t19.1))) (by exact xr_eqStr rfl Try.underlying9 d31 d32) rfl rfl d29 c39 rfl
            · intro ρz wz hz hk hd
              have d29 := hd 3 rfl 29 rfl
              have d33 := hd 7 rfl 33 rfl
              exact sk_val (v := .bool (decide ((List.map toB t12.1) = t19.1))) (by exact xr_pickT rfl d29 c39 d33) rfl rfl
            · intro ρz wz hz hk hd
              have d34 := hd 8 rfl 34 rfl
              exact sk_val (v := .bool (decide ((List.map toB t12.1) = t19.1))) (by exact xr_move rfl d34) rfl rfl
            · intro ρz wz hz hk hd
              have d35 := hd 9 rfl 35 rfl
              exact sk_skip rfl rfl d35 c40 rfl
            · intro ρz wz hz hk hd
              have d35 := hd 9 rfl 35 rfl
              exact sk_skip rfl rfl d35 c40 rfl
            · intro ρz wz hz hk hd
              have d35 := hd 9 rfl 35 rfl
              exact sk_skip rfl rfl d35 c40 rfl
            · intro ρz wz hz hk hd
              have d35 := hd 9 rfl 35 rfl
              exact sk_val (v := .bool false) (by exact xr_pickF rfl d35 c40 rfl) rfl rfl
            · intro ρz wz hz hk hd
              have d39 := hd 13 rfl 39 rfl
              exact sk_val (v := .bool false) (by exact xr_move rfl d39) rfl rfl
            · intro ρz wz hz hk hd
              have d40 := hd 14 rfl 40 rfl
              exact sk_skip rfl rfl d40 rfl rfl
            · intro ρz wz hz hk hd
              have d40 := hd 14 rfl 40 rfl
              exact sk_skip rfl rfl d40 rfl rfl
            · intro ρz wz hz hk hd
              have d40 := hd 14 rfl 40 rfl
              exact sk_skip rfl rfl d40 rfl rfl
            · intro ρz wz hz hk hd
              have d43 := hd 17 rfl 43 rfl
              exact sk_uskip rfl rfl d43 rfl
            · intro ρz wz hz hk hd
              have d43 := hd 17 rfl 43 rfl
              exact sk_uskip rfl rfl d43 rfl
            · intro ρz wz hz hk hd
              have d43 := hd 17 rfl 43 rfl
              exact sk_uskip rfl rfl d43 rfl
            · intro ρz wz hz hk hd
              have d40 := hd 14 rfl 40 rfl
              exact sk_skip rfl rfl d40 rfl rfl
            · intro ρz wz hz hk hd
              have d40 := hd 14 rfl 40 rfl
              exact sk_val (v := .bool false) (by exact xr_pickF rfl d40 rfl rfl) rfl rfl
            · intro ρz wz hz hk hd
              have d48 := hd 22 rfl 48 rfl
              exact sk_val (v := .bool false) (by exact xr_move rfl d48) rfl rfl
            · intro ρz wz hz hk hd
              have d49 := hd 23 rfl 49 rfl
              exact sk_skip rfl rfl d49 rfl rfl
            · intro ρz wz hz hk hd
              have d49 := hd 23 rfl 49 rfl
              exact sk_skip rfl rfl d49 rfl rfl
            · intro ρz wz hz hk hd
              have d49 := hd 23 rfl 49 rfl
              exact sk_skip rfl rfl d49 rfl rfl
            · intro ρz wz hz hk hd
              have d49 := hd 23 rfl 49 rfl
              exact sk_skip rfl rfl d49 rfl rfl
            · intro ρz wz hz hk hd
              have d49 := hd 23 rfl 49 rfl
              exact sk_skip rfl rfl d49 rfl rfl
            · intro ρz wz hz hk hd
              have d49 := hd 23 rfl 49 rfl
              exact sk_skip rfl rfl d49 rfl rfl
          · intro ρ62 w63 q64 hk hd
            have e49 := hd 23 rfl 49 rfl
            have fB := fB.gr q64
            refine ol_val (v := .bool false) (by exact xr_pickF rfl e49 rfl rfl) rfl rfl rfl ?_
            refine ol_val (v := .bool false) (by exact xr_assign rfl rfl) rfl rfl rfl ?_
            refine ol_nil ?_
            obtain rfl := Option.some.inj j38
            refine thn_i ?_
            exact ⟨rfl, q64⟩
      · skip
        refine cw_drawL 30 [fun vz wz => vz = (.bool t12.2 : Value), fun vz wz => vz = (.bool t19.2 : Value), fun vz wz => vz = (.bool (decide (t12.2 = t19.2)) : Value), fun vz wz => vz = (.bool (decide (t12.2 = t19.2)) : Value), fun vz _ => vz = undef, fun vz _ => vz = undef, fun vz _ => vz = undef, fun vz _ => vz = undef, fun vz wz => vz = (.bool false : Value), fun vz wz => vz = (.bool false : Value), fun vz _ => vz = undef, fun vz _ => vz = undef, fun vz _ => vz = undef, fun vz wz => vz = (.bool false : Value), fun vz wz => vz = (.bool false : Value), fun vz _ => vz = undef, fun vz _ => vz = undef, fun vz _ => vz = undef, fun vz _ => vz = undef, fun vz _ => vz = undef, fun vz _ => vz = undef, fun vz _ => vz = undef, fun vz wz => vz = (.bool false : Value), fun vz wz => vz = (.bool false : Value), fun vz _ => vz = undef, fun vz _ => vz = undef, fun vz _ => vz = undef, fun vz _ => vz = undef, fun vz _ => vz = undef, fun vz _ => vz = undef] mo rfl ⟨fun _ _ _ h _ => h, fun _ _ _ h _ => h, fun _ _ _ h _ => h, fun _ _ _ h _ => h, fun _ _ _ h _ => h, fun _ _ _ h _ => h, fun _ _ _ h _ => h, fun _ _ _ h _ => h, fun _ _ _ h _ => h, fun _ _ _ h _ => h, fun _ _ _ h _ => h, fun _ _ _ h _ => h, fun _ _ _ h _ => h, fun _ _ _ h _ => h, fun _ _ _ h _ => h, fun _ _ _ h _ => h, fun _ _ _ h _ => h, fun _ _ _ h _ => h, fun _ _ _ h _ => h, fun _ _ _ h _ => h, fun _ _ _ h _ => h, fun _ _ _ h _ => h, fun _ _ _ h _ => h, fun _ _ _ h _ => h, fun _ _ _ h _ => h, fun _ _ _ h _ => h, fun _ _ _ h _ => h, fun _ _ _ h _ => h, fun _ _ _ h _ => h, fun _ _ _ h _ => h, trivial⟩ ?_ ?_
        · refine ⟨?_, ?_, ?_, ?_, ?_, ?_, ?_, ?_, ?_, ?_, ?_, ?_, ?_, ?_, ?_, ?_, ?_, ?_, ?_, ?_, ?_, ?_, ?_, ?_, ?_, ?_, ?_, ?_, ?_, ?_, trivial⟩
          · intro ρz wz hz hk hd
            exact sk_val (v := .bool t12.2) (by exact xr_move rfl ((hk 4 rfl).trans rfl)) rfl rfl
          · intro ρz wz hz hk hd
            exact sk_val (v := .bool t19.2) (by exact xr_move rfl ((hk 6 rfl).trans rfl)) rfl rfl
          · intro ρz wz hz hk hd
            have d26 := hd 0 rfl 26 rfl
            have d27 := hd 1 rfl 27 rfl
            exact sk_val (v := .bool (decide (t12.2 = t19.2))) (by exact xr_eqB rfl Try.underlying4 d26 d27) rfl rfl
          · intro ρz wz hz hk hd
            have d28 := hd 2 rfl 28 rfl
            exact sk_val (v := .bool (decide (t12.2 = t19.2))) (by exact xr_move rfl d28) rfl rfl
          · intro ρz wz hz hk hd
            have d29 := hd 3 rfl 29 rfl
            exact sk_skip rfl rfl d29 c39 rfl
          · intro ρz wz hz hk hd
            have d29 := hd 3 rfl 29 rfl
            exact sk_skip rfl rfl d29 c39 rfl
          · intro ρz wz hz hk hd
            have d29 := hd 3 rfl 29 rfl
            exact sk_skip rfl rfl d29 c39 rfl
          · intro ρz wz hz hk hd
            have d29 := hd 3 rfl 29 rfl
            exact sk_skip rfl rfl d29 c39 rfl
          · intro ρz wz hz hk hd
            have d29 := hd 3 rfl 29 rfl
            exact sk_val (v := .bool false) (by exact xr_pickF rfl d29 c39 rfl) rfl rfl
          · intro ρz wz hz hk hd
            have d34 := hd 8 rfl 34 rfl
            exact sk_val (v := .bool false) (by exact xr_move rfl d34) rfl rfl
          · intro ρz wz hz hk hd
            have d35 := hd 9 rfl 35 rfl
            exact sk_skip rfl rfl d35 rfl rfl
          · intro ρz wz hz hk hd
            have d35 := hd 9 rfl 35 rfl
            exact sk_skip rfl rfl d35 rfl rfl
          · intro ρz wz hz hk hd
            have d35 := hd 9 rfl 35 rfl
            exact sk_skip rfl rfl d35 rfl rfl
          · intro ρz wz hz hk hd
            have d35 := hd 9 rfl 35 rfl
            exact sk_val (v := .bool false) (by exact xr_pickF rfl d35 rfl rfl) rfl rfl
          · intro ρz wz hz hk hd
            have d39 := hd 13 rfl 39 rfl
            exact sk_val (v := .bool false) (by exact xr_move rfl d39) rfl rfl
          · intro ρz wz hz hk hd
            have d40 := hd 14 rfl 40 rfl
            exact sk_skip rfl rfl d40 rfl rfl
          · intro ρz wz hz hk hd
            have d40 := hd 14 rfl 40 rfl
            exact sk_skip rfl rfl d40 rfl rfl
          · intro ρz wz hz hk hd
            have d40 := hd 14 rfl 40 rfl
            exact sk_skip rfl rfl d40 rfl rfl
          · intro ρz wz hz hk hd
            have d43 := hd 17 rfl 43 rfl
            exact sk_uskip rfl rfl d43 rfl
          · intro ρz wz hz hk hd
            have d43 := hd 17 rfl 43 rfl
            exact sk_uskip rfl rfl d43 rfl
          · intro ρz wz hz hk hd
            have d43 := hd 17 rfl 43 rfl
            exact sk_uskip rfl rfl d43 rfl
          · intro ρz wz hz hk hd
            have d40 := hd 14 rfl 40 rfl
            exact sk_skip rfl rfl d40 rfl rfl
          · intro ρz wz hz hk hd
            have d40 := hd 14 rfl 40 rfl
            exact sk_val (v := .bool false) (by exact xr_pickF rfl d40 rfl rfl) rfl rfl
          · intro ρz wz hz hk hd
            have d48 := hd 22 rfl 48 rfl
            exact sk_val (v := .bool false) (by exact xr_move rfl d48) rfl rfl
          · intro ρz wz hz hk hd
            have d49 := hd 23 rfl 49 rfl
            exact sk_skip rfl rfl d49 rfl rfl
          · intro ρz wz hz hk hd
            have d49 := hd 23 rfl 49 rfl
            exact sk_skip rfl rfl d49 rfl rfl
          · intro ρz wz hz hk hd
            have d49 := hd 23 rfl 49 rfl
            exact sk_skip rfl rfl d49 rfl rfl
          · intro ρz wz hz hk hd
            have d49 := hd 23 rfl 49 rfl
            exact sk_skip rfl rfl d49 rfl rfl
          · intro ρz wz hz hk hd
            have d49 := hd 23 rfl 49 rfl
            exact sk_skip rfl rfl d49 rfl rfl
          · intro ρz wz hz hk hd
            have d49 := hd 23 rfl 49 rfl
            exact sk_skip rfl rfl d49 rfl rfl
        · intro ρ65 w66 q67 hk hd
          have e49 := hd 23 rfl 49 rfl
          have fB := fB.gr q67
          refine ol_val (v := .bool false) (by exact xr_pickF rfl e49 rfl rfl) rfl rfl rfl ?_
          refine ol_val (v := .bool false) (by exact xr_assign rfl rfl) rfl rfl rfl ?_
          refine ol_nil ?_
          obtain rfl := Option.some.inj j38
          refine thn_i ?_
          exact ⟨rfl, q67⟩
    · skip
      rintro ρ68 w69 ⟨e2, q70⟩
      have fB := fB.gr q70
      refine cw_ret ?_
      repeat (first | with_reducible refine thn_r ?_ | with_reducible refine blk_r ?_)
      obtain rfl := Option.some.inj h
      refine fin_ret1 Try.results13 e2 ?_
      exact ⟨_, rfl, rfl, fB⟩
end Go.Proofs.Ytjhajfkfhdnciaa

/- rickyard/rickyardref09.GetFan: its model, and that the Go function computes it: written by gen.py. -/
set_option linter.unusedVariables false
namespace Go.Proofs.Ytjhajfkfhdnciaa
open Go Go.Xw
def rickyardref09_GetFan.s0 (fu : Nat) (t7 : Int × Int × (List UInt8) × Bool) : (Int × S_api_Fan) → Option (Sum S_api_Fan (Int × S_api_Fan)) := fun s23 => (if (decide (s23.1 < 16)) = true then (if (0 : Int) ≤ (IntKind.i64.wrap (2 * s23.1)) ∧ (IntKind.i64.wrap (2 * s23.1)) ≤ (IntKind.i64.wrap ((IntKind.i64.wrap (2 * s23.1)) + 2)) ∧ (IntKind.i64.wrap ((IntKind.i64.wrap (2 * s23.1)) + 2)) ≤ (List.length t7.2.2.1 : Int) then ((rickyardref01_Int.f fu (cut t7.2.2.1 (IntKind.i64.wrap (2 * s23.1)) (IntKind.i64.wrap ((IntKind.i64.wrap (2 * s23.1)) + 2))) : Option Int).bind fun t32 => (if 0 ≤ s23.1 ∧ s23.1 < 16 then some (Sum.inr ((IntKind.i64.wrap (s23.1 + 1)), (⟨(Arr.set s23.2.Kids s23.1 t32)⟩ : S_api_Fan))) else none)) else none) else some (Sum.inl (s23.2)))
def rickyardref09_GetFan.f (fu : Nat) (a0 : List Int) : Option (S_api_Fan × Bool) := ((rickyardref07_Open.f fu a0 : Option (Int × Int × (List UInt8) × Bool)).bind fun t7 => (if (if (!t7.2.2.2) = true then true else (!decide (t7.1 = 3))) = true then some ((⟨(Arr.rep 16 (0 : Int))⟩ : S_api_Fan), false) else ((loopM (rickyardref09_GetFan.s0 fu t7) fu (0, (⟨(Arr.rep 16 (0 : Int))⟩ : S_api_Fan))).bind fun e24 => ((rickyardref09_Fan.f fu e24 : Option ((List UInt8) × Bool)).bind fun t41 => (if (if (!t41.2) = true then true else (!decide (t41.1 = (List.map toB a0)))) = true then some ((⟨(Arr.rep 16 (0 : Int))⟩ : S_api_Fan), false) else some (e24, true))))))
set_option maxRecDepth 100000 in
set_option maxHeartbeats 400000 in
theorem rickyardref09_GetFan.ok (fu : Nat) (w : World) (a0 : List Int) (V0_0 : Value) (R0_0 : Rd (kI .u8) w V0_0 a0) (r : S_api_Fan × Bool) (h : rickyardref09_GetFan.f fu a0 = some r) :
    Calls Try.prog 58 (([V0_0] : List Value).toArray) w (fun e w' => ∃ v, e = .returned v ∧ v = .tuple #[aggV [Kd.seg (kA 16 (kI .i64)) r.1.Kids], .bool r.2] ∧ Gr w w') := by
  unfold rickyardref09_GetFan.f at h
  have fB : Gr w w := Fr.refl _ _
  refine calls_cw Try.func58 rfl Try.ntmps58 rfl ?_
  refine cw_seq ?_
  refine cw_region ?_
  refine ol_op (by exact opv_alloc (ss := [Kd.seg (kA 16 (kI .i64)) (Arr.rep 16 (0 : Int))]) rfl ze73 rfl) rfl rfl rfl ?_
  rintro _ w6 ⟨G1, rfl, b2, q3, z4⟩
  have z4 := Nat.le_trans fB.size z4
  have fB := fB.gr q3
  refine ol_val (v := .bool false) (by exact xr_assign rfl rfl) rfl rfl rfl ?_
  refine ol_nil ?_
  refine cw_seq ?_
  refine cw_region ?_
  refine ol_val (v := V0_0) (by exact xr_move rfl rfl) rfl rfl rfl ?_
  obtain ⟨t7, k8, h⟩ := bs h
  refine ol_op (by exact opv_call rfl cal32 (ac rfl an) (rickyardref07_Open.ok fu _ a0 V0_0 (R0_0.gr fB) _ k8)) rfl rfl rfl ?_
  rintro _ w10 ⟨rfl, q9⟩
  have b2 := b2.gr q9
  have fB := fB.gr q9
  refine ol_val (v := .tuple #[.int .i64 t7.1, .int .i64 t7.2.1, sv t7.2.2.1, .bool t7.2.2.2]) (by exact xr_move rfl rfl) rfl rfl rfl ?_
  refine ol_val (v := .int .i64 t7.1) (by exact xr_extract rfl rfl rfl) rfl rfl rfl ?_
  refine ol_val (v := .int .i64 t7.2.1) (by exact xr_extract rfl rfl rfl) rfl rfl rfl ?_
  refine ol_val (v := sv t7.2.2.1) (by exact xr_extract rfl rfl rfl) rfl rfl rfl ?_
  refine ol_val (v := .bool t7.2.2.2) (by exact xr_extract rfl rfl rfl) rfl rfl rfl ?_
  refine ol_val (v := .int .i64 t7.1) (by exact xr_assign rfl rfl) rfl rfl rfl ?_
  refine ol_val (v := .int .i64 t7.2.1) (by exact xr_assign rfl rfl) rfl rfl rfl ?_
  refine ol_val (v := sv t7.2.2.1) (by exact xr_assign rfl rfl) rfl rfl rfl ?_
  refine ol_val (v := .bool t7.2.2.2) (by exact xr_assign rfl rfl) rfl rfl rfl ?_
  refine ol_nil ?_
  refine cw_seq ?_
  refine cw_seq ?_
  refine cw_mid (fun ρ' w' => ρ' 0 = V0_0 ∧ ρ' 2 = .pointer (some ⟨G1, 0, none⟩) ∧ ρ' 6 = sv t7.2.2.1 ∧ ρ' 24 = .bool (if (!t7.2.2.2) = true then true else (!decide (t7.1 = 3))) ∧ w10 = w') ?_ ?_
  · skip
    refine cw_region ?_
    refine ol_val (v := .bool t7.2.2.2) (by exact xr_move rfl rfl) rfl rfl rfl ?_
    refine ol_val (v := .bool (!t7.2.2.2)) (by exact xr_not rfl rfl) rfl rfl rfl ?_
    refine ol_val (v := .bool (!t7.2.2.2)) (by exact xr_move rfl rfl) rfl rfl rfl ?_
    rcases bt (!t7.2.2.2) with c11 | c11
    · skip
      refine ol_gskip rfl rfl rfl rfl rfl c11 ?_
      refine ol_gskip rfl rfl rfl rfl rfl c11 ?_
      refine ol_val (v := .bool true) (by exact xr_pickT rfl rfl c11 rfl) rfl rfl rfl ?_
      refine ol_nil ?_
      refine thn_i ?_
      exact ⟨rfl, rfl, rfl, (rfl).trans (congrArg (fun z => (.bool z : Value)) (show true = (if (!t7.2.2.2) = true then true else (!decide (t7.1 = 3))) from by rw [ite_t c11])), rfl⟩
    · skip
      refine ol_gval (v := .int .i64 t7.1) (by exact xr_move rfl rfl) rfl rfl rfl rfl rfl c11 ?_
      refine ol_gval (v := .bool (!decide (t7.1 = 3))) (by exact xr_neI rfl Try.underlying3 rfl rfl rfl) rfl rfl rfl rfl rfl c11 ?_
      refine ol_val (v := .bool (!decide (t7.1 = 3))) (by exact xr_pickF rfl rfl c11 rfl) rfl rfl rfl ?_
      refine ol_nil ?_
      refine thn_i ?_
      exact ⟨rfl, rfl, rfl, (rfl).trans (congrArg (fun z => (.bool z : Value)) (show (!decide (t7.1 = 3)) = (if (!t7.2.2.2) = true then true else (!decide (t7.1 = 3))) from by rw [ite_f c11])), rfl⟩
  · skip
    rintro ρ12 _ ⟨e0, e2, e6, e24, rfl⟩
    rcases is h with ⟨c13, h⟩ | ⟨c13, h⟩
    · refine cw_condT e24 c13 ?_
      refine cw_seq ?_
      refine cw_region ?_
      refine ol_val (v := aggV [Kd.seg (kA 16 (kI .i64)) (Arr.rep 16 (0 : Int))]) (by exact xr_build (vals := []) rfl trivial (bl73_ _)) rfl rfl rfl ?_
      refine ol_op0 (by exact opv_store (ss' := [Kd.seg (kA 16 (kI .i64)) (Arr.rep 16 (0 : Int))]) (xs := cellsOf [Kd.seg (kA 16 (kI .i64)) (Arr.rep 16 (0 : Int))]) rfl sz73 e2 rfl rfl (len_cellsOf _) (one_cellsOf _) b2 (Spl.segs _ 0 1 [Kd.seg (kA 16 (kI .i64)) (Arr.rep 16 (0 : Int))] rfl rfl)) rfl rfl ?_
      rintro _ w15 ⟨b2, q14⟩
      have fB := fB.wr q14 z4
      refine ol_val (v := .bool false) (by exact xr_assign rfl rfl) rfl rfl rfl ?_
      refine ol_nil ?_
      refine cw_ret ?_
      repeat (first | with_reducible refine thn_r ?_ | with_reducible refine blk_r ?_)
      obtain rfl := Option.some.inj h
      refine fin_cell_tmp Try.results58 e2 ag73 sz73 b2 (by rfl) rfl ?_
      exact ⟨_, rfl, rfl, fB⟩
    · refine cw_condF e24 c13 ?_
      refine cw_skip ?_
      refine cw_seq ?_
      refine cw_region ?_
      refine ol_op (by exact opv_alloc (ss := [Kd.seg (kA 16 (kI .i64)) (Arr.rep 16 (0 : Int))]) rfl ze73 rfl) rfl rfl rfl ?_
      rintro _ w21 ⟨G16, rfl, b17, q18, z19⟩
      have n22 := Blk.ne b2 z19
      have z19 := Nat.le_trans fB.size z19
      have b2 := b2.gr q18
      have fB := fB.gr q18
      refine ol_nil ?_
      refine cw_seq ?_
      refine cw_seq ?_
      refine cw_region ?_
      refine ol_val (v := .int .i64 0) (by exact xr_assign rfl rfl) rfl rfl rfl ?_
      refine ol_nil ?_
      obtain ⟨e24, l25, h26⟩ := bs h
      refine cw_mid (fun ρ' w' => ρ' 0 = V0_0 ∧ ρ' 2 = .pointer (some ⟨G1, 0, none⟩) ∧ ρ' 8 = .pointer (some ⟨G16, 0, none⟩) ∧ Blk w' G1 73 [Kd.seg (kA 16 (kI .i64)) (Arr.rep 16 (0 : Int))] ∧ Blk w' G16 73 [Kd.seg (kA 16 (kI .i64)) e24.Kids] ∧ Gr w w') ?_ ?_
      · refine cw_block ?_
        refine cw_round (fun (s23 : Int × S_api_Fan) ρ' w' => ρ' 0 = V0_0 ∧ ρ' 2 = .pointer (some ⟨G1, 0, none⟩) ∧ ρ' 6 = sv t7.2.2.1 ∧ ρ' 8 = .pointer (some ⟨G16, 0, none⟩) ∧ ρ' 9 = .int .i64 s23.1 ∧ Blk w' G1 73 [Kd.seg (kA 16 (kI .i64)) (Arr.rep 16 (0 : Int))] ∧ Blk w' G16 73 [Kd.seg (kA 16 (kI .i64)) s23.2.Kids] ∧ Gr w w') l25 ?_ ?_
        · skip
          exact ⟨e0, e2, e6, rfl, rfl, b2, b17, fB⟩
        · rintro s23 x29 ρ27 w28 ⟨e0, e2, e6, e8, e9, b2, b17, fB⟩ h
          unfold rickyardref09_GetFan.s0 at h
          refine cw_seq ?_
          refine cw_seq ?_
          refine cw_region ?_
          refine ol_val (v := .int .i64 s23.1) (by exact xr_move rfl e9) rfl rfl rfl ?_
          refine ol_val (v := .bool (decide (s23.1 < 16))) (by exact xr_lss rfl rfl rfl) rfl rfl rfl ?_
          refine ol_nil ?_
          rcases is h with ⟨c30, h⟩ | ⟨c30, h⟩
          · refine cw_condT rfl c30 ?_
            refine cw_skip ?_
            refine cw_seq ?_
            refine cw_block ?_
            refine cw_region ?_
            refine ol_val (v := .int .i64 s23.1) (by exact xr_move rfl e9) rfl rfl rfl ?_
            refine ol_val (v := sv t7.2.2.1) (by exact xr_move rfl e6) rfl rfl rfl ?_
            refine ol_val (v := .int .i64 s23.1) (by exact xr_move rfl e9) rfl rfl rfl ?_
            refine ol_val (v := .int .i64 (IntKind.i64.wrap (2 * s23.1))) (by exact xr_mul rfl rfl rfl) rfl rfl rfl ?_
            refine ol_val (v := .int .i64 s23.1) (by exact xr_move rfl e9) rfl rfl rfl ?_
            refine ol_val (v := .int .i64 (IntKind.i64.wrap (2 * s23.1))) (by exact xr_mul rfl rfl rfl) rfl rfl rfl ?_
            refine ol_val (v := .int .i64 (IntKind.i64.wrap ((IntKind.i64.wrap (2 * s23.1)) + 2))) (by exact xr_add rfl rfl rfl) rfl rfl rfl ?_
            obtain ⟨g31, h⟩ := gs h
            refine ol_val (v := sv (cut t7.2.2.1 (IntKind.i64.wrap (2 * s23.1)) (IntKind.i64.wrap ((IntKind.i64.wrap (2 * s23.1)) + 2)))) (by exact xr_str_lh rfl Try.underlying9 rfl rfl rfl g31.1 g31.2.1 g31.2.2) rfl rfl rfl ?_
            obtain ⟨t32, k33, h⟩ := bs h
            refine ol_op (by exact opv_call rfl cal103 (ac rfl an) (rickyardref01_Int.ok fu _ (cut t7.2.2.1 (IntKind.i64.wrap (2 * s23.1)) (IntKind.i64.wrap ((IntKind.i64.wrap (2 * s23.1)) + 2))) _ k33)) rfl rfl rfl ?_
            rintro _ w35 ⟨rfl, q34⟩
            have b2 := b2.gr q34
            have b17 := b17.gr q34
            have fB := fB.gr q34
            refine ol_val (v := .pointer (some ⟨G16, 0, none⟩)) (by exact xr_fieldAddr (p := 0) (q := 0) rfl fl73_0 e8) rfl rfl rfl ?_
            obtain ⟨g36, h⟩ := gs h
            refine ol_val (v := .pointer (some ⟨G16, 0 + Int.toNat s23.1 * 1, none⟩)) (by exact xr_indexA (p := 0) (s := 1) rfl Try.underlying71 sz3 rfl rfl g36.1 g36.2) rfl rfl rfl ?_
            refine ol_op0 (by exact opv_store (ss' := [Kd.seg (kA 16 (kI .i64)) (Arr.set s23.2.Kids s23.1 t32)]) (xs := cellsOf [Seg.cell (.int .i64 t32)]) rfl sz3 rfl rfl rfl (len_cellsOf _) (one_cellsOf _) b17 (Spl.seg_in _ 0 (Kd.seg (kA 16 (kI .i64)) (Arr.set s23.2.Kids s23.1 t32)) rfl rfl (Spl.arr s23.2.Kids s23.1 t32 g36.1 g36.2 (Spl.whole ((Kd.len _ _).trans (Kd.len _ _).symm))))) rfl rfl ?_
            rintro _ w38 ⟨b17, q37⟩
            have b2 := b2.wr q37 n22
            have fB := fB.wr q37 z19
            refine ol_nil ?_
            refine blk_i ?_
            refine cw_region ?_
            refine ol_val (v := .int .i64 s23.1) (by exact xr_move rfl e9) rfl rfl rfl ?_
            refine ol_val (v := .int .i64 (IntKind.i64.wrap (s23.1 + 1))) (by exact xr_add rfl rfl rfl) rfl rfl rfl ?_
            refine ol_val (v := .int .i64 (IntKind.i64.wrap (s23.1 + 1))) (by exact xr_assign rfl rfl) rfl rfl rfl ?_
            refine ol_nil ?_
            obtain rfl := Option.some.inj h
            refine lp_in ?_
            exact ⟨e0, e2, e6, e8, rfl, b2, b17, fB⟩
          · refine cw_condF rfl c30 ?_
            refine cw_exit ?_
            repeat (first | with_reducible refine thn_e ?_ | with_reducible refine blk_e rfl ?_)
            obtain rfl := Option.some.inj h
            refine lp_exit ?_
            rintro rfl
            refine thn_x ?_
            exact ⟨e0, e2, e8, b2, b17, fB⟩
      · rintro ρ39 w40 ⟨e0, e2, e8, b2, b17, fB⟩
        have h := h26
        refine cw_seq ?_
        refine cw_region ?_
        refine ol_val (v := aggV [Kd.seg (kA 16 (kI .i64)) e24.Kids]) (by exact xr_loadS (ss := [Kd.seg (kA 16 (kI .i64)) e24.Kids]) rfl ag73 sz73 rfl e8 (b17.segs 0 1 rfl)) rfl rfl rfl ?_
        obtain ⟨t41, k42, h⟩ := bs h
        refine ol_op (by exact opv_call rfl cal54 (ac rfl an) (rickyardref09_Fan.ok fu _ e24 _ k42)) rfl rfl rfl ?_
        rintro _ w44 ⟨rfl, q43⟩
        have b2 := b2.gr q43
        have b17 := b17.gr q43
        have fB := fB.gr q43
        refine ol_val (v := .tuple #[sv t41.1, .bool t41.2]) (by exact xr_move rfl rfl) rfl rfl rfl ?_
        refine ol_val (v := sv t41.1) (by exact xr_extract rfl rfl rfl) rfl rfl rfl ?_
        refine ol_val (v := .bool t41.2) (by exact xr_extract rfl rfl rfl) rfl rfl rfl ?_
        refine ol_val (v := sv t41.1) (by exact xr_assign rfl rfl) rfl rfl rfl ?_
        refine ol_val (v := .bool t41.2) (by exact xr_assign rfl rfl) rfl rfl rfl ?_
        refine ol_nil ?_
        refine cw_seq ?_
        refine cw_seq ?_
        refine cw_mid (fun ρ' w' => ρ' 2 = .pointer (some ⟨G1, 0, none⟩) ∧ ρ' 8 = .pointer (some ⟨G16, 0, none⟩) ∧ ρ' 53 = .bool (if (!t41.2) = true then true else (!decide (t41.1 = (List.map toB a0)))) ∧ w44 = w') ?_ ?_
        · skip
          refine cw_region ?_
          refine ol_val (v := .bool t41.2) (by exact xr_move rfl rfl) rfl rfl rfl ?_
          refine ol_val (v := .bool (!t41.2)) (by exact xr_not rfl rfl) rfl rfl rfl ?_
          refine ol_val (v := .bool (!t41.2)) (by exact xr_move rfl rfl) rfl rfl rfl ?_
          rcases bt (!t41.2) with c45 | c45
          · skip
            refine ol_gskip rfl rfl rfl rfl rfl c45 ?_
            refine ol_gskip rfl rfl rfl rfl rfl c45 ?_
            refine ol_gskip rfl rfl rfl rfl rfl c45 ?_
            refine ol_gskip rfl rfl rfl rfl rfl c45 ?_
            refine ol_val (v := .bool true) (by exact xr_pickT rfl rfl c45 rfl) rfl rfl rfl ?_
            refine ol_nil ?_
            refine thn_i ?_
            exact ⟨e2, e8, (rfl).trans (congrArg (fun z => (.bool z : Value)) (show true = (if (!t41.2) = true then true else (!decide (t41.1 = (List.map toB a0)))) from by rw [ite_t c45])), rfl⟩
          · skip
            refine ol_gval (v := sv t41.1) (by exact xr_move rfl rfl) rfl rfl rfl rfl rfl c45 ?_
            refine ol_gval (v := V0_0) (by exact xr_move rfl e0) rfl rfl rfl rfl rfl c45 ?_
            refine ol_gval (v := sv (List.map toB a0)) (by exact xr_toStr rfl Try.underlying22 Try.underlying5 Try.underlying9 rfl (R0_0.gr fB)) rfl rfl rfl rfl rfl c45 ?_
            refine ol_gval (v := .bool (!decide (t41.1 = (List.map toB a0)))) (by exact xr_neStr rfl Try.underlying9 rfl rfl) rfl rfl rfl rfl rfl c45 ?_
            refine ol_val (v := .bool (!decide (t41.1 = (List.map toB a0)))) (by exact xr_pickF rfl rfl c45 rfl) rfl rfl rfl ?_
            refine ol_nil ?_
            refine thn_i ?_
            exact ⟨e2, e8, (rfl).trans (congrArg (fun z => (.bool z : Value)) (show (!decide (t41.1 = (List.map toB a0))) = (if (!t41.2) = true then true else (!decide (t41.1 = (List.map toB a0)))) from by rw [ite_f c45])), rfl⟩
        · skip
          rintro ρ46 _ ⟨e2, e8, e53, rfl⟩
          rcases is h with ⟨c47, h⟩ | ⟨c47, h⟩
          · refine cw_condT e53 c47 ?_
            refine cw_seq ?_
            refine cw_region ?_
            refine ol_val (v := aggV [Kd.seg (kA 16 (kI .i64)) (Arr.rep 16 (0 : Int))]) (by exact xr_build (vals := []) rfl trivial (bl73_ _)) rfl rfl rfl ?_
            refine ol_op0 (by exact opv_store (ss' := [Kd.seg (kA 16 (kI .i64)) (Arr.rep 16 (0 : Int))]) (xs := cellsOf [Kd.seg (kA 16 (kI .i64)) (Arr.rep 16 (0 : Int))]) rfl sz73 e2 rfl rfl (len_cellsOf _) (one_cellsOf _) b2 (Spl.segs _ 0 1 [Kd.seg (kA 16 (kI .i64)) (Arr.rep 16 (0 : Int))] rfl rfl)) rfl rfl ?_
            rintro _ w49 ⟨b2, q48⟩
            have fB := fB.wr q48 z4
            refine ol_val (v := .bool false) (by exact xr_assign rfl rfl) rfl rfl rfl ?_
            refine ol_nil ?_
            refine cw_ret ?_
            repeat (first | with_reducible refine thn_r ?_ | with_reducible refine blk_r ?_)
            obtain rfl := Option.some.inj h
            refine fin_cell_tmp Try.results58 e2 ag73 sz73 b2 (by rfl) rfl ?_
            exact ⟨_, rfl, rfl, fB⟩
          · refine cw_condF e53 c47 ?_
            refine cw_skip ?_
            refine cw_seq ?_
            refine cw_region ?_
            refine ol_val (v := aggV [Kd.seg (kA 16 (kI .i64)) e24.Kids]) (by exact xr_loadS (ss := [Kd.seg (kA 16 (kI .i64)) e24.Kids]) rfl ag73 sz73 rfl e8 (b17.segs 0 1 rfl)) rfl rfl rfl ?_
            refine ol_op0 (by exact opv_store (ss' := [Kd.seg (kA 16 (kI .i64)) e24.Kids]) (xs := cellsOf [Kd.seg (kA 16 (kI .i64)) e24.Kids]) rfl sz73 e2 rfl rfl (len_cellsOf _) (one_cellsOf _) b2 (Spl.segs _ 0 1 [Kd.seg (kA 16 (kI .i64)) e24.Kids] rfl rfl)) rfl rfl ?_
            rintro _ w51 ⟨b2, q50⟩
            have fB := fB.wr q50 z4
            refine ol_val (v := .bool true) (by exact xr_assign rfl rfl) rfl rfl rfl ?_
            refine ol_nil ?_
            refine cw_ret ?_
            repeat (first | with_reducible refine thn_r ?_ | with_reducible refine blk_r ?_)
            obtain rfl := Option.some.inj h
            refine fin_cell_tmp Try.results58 e2 ag73 sz73 b2 (by rfl) rfl ?_
            exact ⟨_, rfl, rfl, fB⟩
end Go.Proofs.Ytjhajfkfhdnciaa
