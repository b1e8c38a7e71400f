/- LabelReads: texts merged, part 4 of 7. The last part proves that the law LabelReads holds for every input. -/
import Derived.Test.YtjhajfkfhdnciaaPkLabelReads3
/- rickyard/rickyardref02.Sum: its model, and that the Go function computes it: written by gen.py. -/
set_option linter.unusedVariables false
namespace Go.Proofs.Ytjhajfkfhdnciaa
open Go Go.Xw
def rickyardref02_Sum.s0 (fu : Nat) (a0 : List Int) : (Int × Int) → Option (Sum Int (Int × Int)) := fun s1 => (if (decide (s1.2 < (List.length a0 : Int))) = true then (if 0 ≤ s1.2 ∧ s1.2 < (List.length a0 : Int) then ((rickyardref02_Steps.f fu (bXor .u32 s1.1 (IntKind.u32.wrap (ix a0 s1.2))) 8 : Option Int).bind fun t10 => some (Sum.inr (t10, (IntKind.i64.wrap (s1.2 + 1))))) else none) else some (Sum.inl (s1.1)))
def rickyardref02_Sum.f (fu : Nat) (a0 : List Int) : Option Int := ((loopM (rickyardref02_Sum.s0 fu a0) fu (4294967295, 0)).bind fun e2 => some ((IntKind.u32.wrap (4294967295 - e2))))
set_option maxRecDepth 100000 in
set_option maxHeartbeats 400000 in
theorem rickyardref02_Sum.ok (fu : Nat) (w : World) (a0 : List Int) (V0_0 : Value) (R0_0 : Rd (kI .u8) w V0_0 a0) (r : Int) (h : rickyardref02_Sum.f fu a0 = some r) :
    Calls Try.prog 100 (([V0_0] : List Value).toArray) w (fun e w' => ∃ v, e = .returned v ∧ v = .int .u32 r ∧ Gr w w') := by
  unfold rickyardref02_Sum.f at h
  have fB : Gr w w := Fr.refl _ _
  refine calls_cw Try.func100 rfl Try.ntmps100 rfl ?_
  refine cw_seq ?_
  refine cw_region ?_
  refine ol_val (v := .int .u32 0) (by exact xr_assign rfl rfl) rfl rfl rfl ?_
  refine ol_nil ?_
  refine cw_seq ?_
  refine cw_region ?_
  refine ol_val (v := .int .u32 4294967295) (by exact xr_assign rfl rfl) rfl rfl rfl ?_
  refine ol_nil ?_
  refine cw_seq ?_
  refine cw_seq ?_
  refine cw_region ?_
  refine ol_val (v := .int .i64 0) (by exact xr_assign rfl rfl) rfl rfl rfl ?_
  refine ol_nil ?_
  obtain ⟨e2, l3, h4⟩ := bs h
  refine cw_mid (fun ρ' w' => ρ' 3 = .int .u32 e2 ∧ Gr w w') ?_ ?_
  · refine cw_block ?_
    refine cw_round (fun (s1 : Int × Int) ρ' w' => ρ' 0 = V0_0 ∧ ρ' 3 = .int .u32 s1.1 ∧ ρ' 4 = .int .i64 s1.2 ∧ Gr w w') l3 ?_ ?_
    · skip
      exact ⟨rfl, rfl, rfl, fB⟩
    · rintro s1 x7 ρ5 w6 ⟨e0, e3, e4, fB⟩ h
      unfold rickyardref02_Sum.s0 at h
      refine cw_seq ?_
      refine cw_seq ?_
      refine cw_region ?_
      refine ol_val (v := .int .i64 s1.2) (by exact xr_move rfl e4) rfl rfl rfl ?_
      refine ol_val (v := V0_0) (by exact xr_move rfl e0) rfl rfl rfl ?_
      refine ol_val (v := .int .i64 (List.length a0 : Int)) (by exact xr_lenR rfl Try.underlying22 rfl (R0_0.gr fB)) rfl rfl rfl ?_
      refine ol_val (v := .bool (decide (s1.2 < (List.length a0 : Int)))) (by exact xr_lss rfl rfl rfl) rfl rfl rfl ?_
      refine ol_nil ?_
      rcases is h with ⟨c8, h⟩ | ⟨c8, h⟩
      · refine cw_condT rfl c8 ?_
        refine cw_skip ?_
        refine cw_seq ?_
        refine cw_block ?_
        refine cw_region ?_
        refine ol_val (v := .int .u32 s1.1) (by exact xr_move rfl e3) rfl rfl rfl ?_
        refine ol_val (v := V0_0) (by exact xr_move rfl e0) rfl rfl rfl ?_
        refine ol_val (v := .int .i64 s1.2) (by exact xr_move rfl e4) rfl rfl rfl ?_
        obtain ⟨g9, h⟩ := gs h
        refine ol_val (v := .pointer (some ⟨(sb V0_0), so V0_0 + Int.toNat s1.2 * 1, none⟩)) (by exact xr_indexR (K := (kI .u8)) (v := V0_0) rfl Try.underlying22 sz5 rfl (R0_0.gr fB) rfl g9.1 g9.2) rfl rfl rfl ?_
        refine ol_val (v := .int .u8 (ix a0 s1.2)) (by exact xr_load1 (v := .int .u8 (ix a0 s1.2)) rfl ag5 rfl ((R0_0.gr fB).elem g9.1 g9.2)) rfl rfl rfl ?_
        refine ol_val (v := .int .u32 (IntKind.u32.wrap (ix a0 s1.2))) (by exact xr_conv rfl Try.underlying5 Try.underlying36 rfl) rfl rfl rfl ?_
        refine ol_val (v := .int .u32 (bXor .u32 s1.1 (IntKind.u32.wrap (ix a0 s1.2)))) (by exact xr_xor rfl rfl rfl) rfl rfl rfl ?_
        obtain ⟨t10, k11, h⟩ := bs h
        refine ol_op (by exact opv_call rfl cal133 (ac rfl (ac rfl an)) (rickyardref02_Steps.ok fu _ (bXor .u32 s1.1 (IntKind.u32.wrap (ix a0 s1.2))) 8 _ k11)) rfl rfl rfl ?_
        rintro _ w13 ⟨rfl, q12⟩
        have fB := fB.gr q12
        refine ol_val (v := .int .u32 t10) (by exact xr_assign rfl rfl) rfl rfl rfl ?_
        refine ol_nil ?_
        refine blk_i ?_
        refine cw_region ?_
        refine ol_val (v := .int .i64 s1.2) (by exact xr_move rfl e4) rfl rfl rfl ?_
        refine ol_val (v := .int .i64 (IntKind.i64.wrap (s1.2 + 1))) (by exact xr_add rfl rfl rfl) rfl rfl rfl ?_
        refine ol_val (v := .int .i64 (IntKind.i64.wrap (s1.2 + 1))) (by exact xr_assign rfl rfl) rfl rfl rfl ?_
        refine ol_nil ?_
        obtain rfl := Option.some.inj h
        refine lp_in ?_
        exact ⟨e0, rfl, rfl, fB⟩
      · refine cw_condF rfl c8 ?_
        refine cw_exit ?_
        repeat (first | with_reducible refine thn_e ?_ | with_reducible refine blk_e rfl ?_)
        obtain rfl := Option.some.inj h
        refine lp_exit ?_
        rintro rfl
        refine thn_x ?_
        exact ⟨e3, fB⟩
  · rintro ρ14 w15 ⟨e3, fB⟩
    have h := h4
    refine cw_seq ?_
    refine cw_region ?_
    refine ol_val (v := .int .u32 e2) (by exact xr_move rfl e3) rfl rfl rfl ?_
    refine ol_val (v := .int .u32 (IntKind.u32.wrap (4294967295 - e2))) (by exact xr_sub rfl rfl rfl) rfl rfl rfl ?_
    refine ol_val (v := .int .u32 (IntKind.u32.wrap (4294967295 - e2))) (by exact xr_assign rfl rfl) rfl rfl rfl ?_
    refine ol_nil ?_
    refine cw_ret ?_
    repeat (first | with_reducible refine thn_r ?_ | with_reducible refine blk_r ?_)
    obtain rfl := Option.some.inj h
    refine fin_ret1 Try.results100 rfl ?_
    exact ⟨_, rfl, rfl, fB⟩
end Go.Proofs.Ytjhajfkfhdnciaa

/- rickyard/rickyardref07.Seal: its model, and that the Go function computes it: written by gen.py. -/
set_option linter.unusedVariables false
namespace Go.Proofs.Ytjhajfkfhdnciaa
open Go Go.Xw
def rickyardref07_Seal.f (fu : Nat) (a0 : Int) (a1 : Int) (a2 : List UInt8) : Option (List UInt8) := ((rickyardref07_Fill.f fu a2 56 : Option (List UInt8)).bind fun t6 => (if List.length (List.map toB [(IntKind.u8.wrap a0), (IntKind.u8.wrap a1), 0, 0]) + List.length t6 ≤ LIM then ((rickyardref02_Sum.f fu (List.map ofB ((List.map toB [(IntKind.u8.wrap a0), (IntKind.u8.wrap a1), 0, 0]) ++ t6)) : Option Int).bind fun t17 => ((rickyardref01_Lay.f fu (IntKind.u64.wrap t17) 4 : Option (List UInt8)).bind fun t21 => (if List.length t21 + List.length ((List.map toB [(IntKind.u8.wrap a0), (IntKind.u8.wrap a1), 0, 0]) ++ t6) ≤ LIM then some ((t21 ++ ((List.map toB [(IntKind.u8.wrap a0), (IntKind.u8.wrap a1), 0, 0]) ++ t6))) else none))) else none))
set_option maxRecDepth 100000 in
set_option maxHeartbeats 400000 in
theorem rickyardref07_Seal.ok (fu : Nat) (w : World) (a0 : Int) (a1 : Int) (a2 : List UInt8) (r : (List UInt8)) (h : rickyardref07_Seal.f fu a0 a1 a2 = some r) :
    Calls Try.prog 30 (([.int .i64 a0, .int .i64 a1, sv a2] : List Value).toArray) w (fun e w' => ∃ v, e = .returned v ∧ v = sv r ∧ Gr w w') := by
  unfold rickyardref07_Seal.f at h
  have fB : Gr w w := Fr.refl _ _
  refine calls_cw Try.func30 rfl Try.ntmps30 rfl ?_
  refine cw_seq ?_
  refine cw_region ?_
  refine ol_val (v := sv []) (by exact xr_assign rfl rfl) rfl rfl rfl ?_
  refine ol_nil ?_
  refine cw_seq ?_
  obtain ⟨t6, k7, h⟩ := bs h
  refine cw_drawL 8 [fun vz wz => vz = (.int .i64 a0 : Value), fun vz wz => vz = (.int .u8 (IntKind.u8.wrap a0) : Value), fun vz wz => vz = (.int .i64 a1 : Value), fun vz wz => vz = (.int .u8 (IntKind.u8.wrap a1) : Value), fun vz wz => ∃ v1 : Value, ∃ o3 : Own (kI .u8) 5 wz w.heap.size v1 [(IntKind.u8.wrap a0), (IntKind.u8.wrap a1), 0, 0], vz = (v1 : Value), fun vz wz => vz = (sv (List.map toB [(IntKind.u8.wrap a0), (IntKind.u8.wrap a1), 0, 0]) : Value), fun vz wz => vz = (sv a2 : Value), fun vz wz => vz = (sv t6 : Value)] mo rfl ⟨fun _ _ _ h _ => h, fun _ _ _ h _ => h, fun _ _ _ h _ => h, fun _ _ _ h _ => h, fun _ _ _ ⟨v1, o3, h⟩ q => ⟨v1, o3.gr q, h⟩, fun _ _ _ h _ => h, fun _ _ _ h _ => h, fun _ _ _ h _ => h, trivial⟩ ?_ ?_
  · refine ⟨?_, ?_, ?_, ?_, ?_, ?_, ?_, ?_, trivial⟩
    · intro ρz wz hz hk hd
      exact sk_val (v := .int .i64 a0) (by exact xr_move rfl ((hk 0 rfl).trans rfl)) rfl rfl
    · intro ρz wz hz hk hd
      have d8 := hd 0 rfl 8 rfl
      exact sk_val (v := .int .u8 (IntKind.u8.wrap a0)) (by exact xr_conv rfl Try.underlying3 Try.underlying5 d8) rfl rfl
    · intro ρz wz hz hk hd
      exact sk_val (v := .int .i64 a1) (by exact xr_move rfl ((hk 1 rfl).trans rfl)) rfl rfl
    · intro ρz wz hz hk hd
      have d10 := hd 2 rfl 10 rfl
      exact sk_val (v := .int .u8 (IntKind.u8.wrap a1)) (by exact xr_conv rfl Try.underlying3 Try.underlying5 d10) rfl rfl
    · intro ρz wz hz hk hd
      have d9 := hd 1 rfl 9 rfl
      have d11 := hd 3 rfl 11 rfl
      refine sk_op (by exact opv_buildSlice (K := (kI .u8)) (xs := [(IntKind.u8.wrap a0), (IntKind.u8.wrap a1), 0, 0]) (vals := [.int .u8 (IntKind.u8.wrap a0), .int .u8 (IntKind.u8.wrap a1), .int .u8 0, .int .u8 0]) rfl Try.underlying22 el5 rfl rfl ⟨rfl, d9, ⟨rfl, d11, ⟨rfl, rfl, ⟨rfl, rfl, trivial⟩⟩⟩⟩ rfl rfl rfl (Nat.le_trans fB.size hz.size)) rfl ?_
      rintro v1 wy ⟨o3, q2, z4⟩
      exact ⟨⟨v1, o3, rfl⟩, q2⟩
    · intro ρz wz hz hk hd
      obtain ⟨v1, o3, d12⟩ := hd 4 rfl 12 rfl
      exact sk_val (by exact xr_toStr rfl Try.underlying22 Try.underlying5 Try.underlying9 d12 o3.rd) rfl rfl
    · intro ρz wz hz hk hd
      exact sk_val (v := sv a2) (by exact xr_move rfl ((hk 2 rfl).trans rfl)) rfl rfl
    · intro ρz wz hz hk hd
      have d14 := hd 6 rfl 14 rfl
      refine sk_op (by exact opv_call rfl cal31 (ac d14 (ac rfl an)) (rickyardref07_Fill.ok fu _ a2 56 _ k7)) rfl ?_
      rintro _ wy ⟨rfl, q8⟩
      exact ⟨rfl, q8⟩
  · intro ρ9 w10 q11 hk hd
    have e13 := hd 5 rfl 13 rfl
    have e15 := hd 7 rfl 15 rfl
    have fB := fB.gr q11
    obtain ⟨g12, h⟩ := gs h
    refine ol_val (v := sv ((List.map toB [(IntKind.u8.wrap a0), (IntKind.u8.wrap a1), 0, 0]) ++ t6)) (by exact xr_addStr rfl e13 e15 g12) rfl rfl rfl ?_
    refine ol_val (v := sv ((List.map toB [(IntKind.u8.wrap a0), (IntKind.u8.wrap a1), 0, 0]) ++ t6)) (by exact xr_assign rfl rfl) rfl rfl rfl ?_
    refine ol_nil ?_
    refine cw_seq ?_
    refine cw_region ?_
    refine ol_val (v := sv ((List.map toB [(IntKind.u8.wrap a0), (IntKind.u8.wrap a1), 0, 0]) ++ t6)) (by exact xr_move rfl rfl) rfl rfl rfl ?_
    refine ol_op (by exact opv_toBytes rfl Try.underlying9 Try.underlying22 Try.underlying5 rfl) rfl rfl rfl ?_
    rintro v13 w16 ⟨r15, q14⟩
    have fB := fB.gr q14
    obtain ⟨t17, k18, h⟩ := bs h
    refine ol_op (by exact opv_call rfl cal100 (ac rfl an) (rickyardref02_Sum.ok fu _ (List.map ofB ((List.map toB [(IntKind.u8.wrap a0), (IntKind.u8.wrap a1), 0, 0]) ++ t6)) v13 (r15) _ k18)) rfl rfl rfl ?_
    rintro _ w20 ⟨rfl, q19⟩
    have fB := fB.gr q19
    refine ol_val (v := .int .u64 (IntKind.u64.wrap t17)) (by exact xr_conv rfl Try.underlying36 Try.underlying129 rfl) rfl rfl rfl ?_
    obtain ⟨t21, k22, h⟩ := bs h
    refine ol_op (by exact opv_call rfl cal99 (ac rfl (ac rfl an)) (rickyardref01_Lay.ok fu _ (IntKind.u64.wrap t17) 4 _ k22)) rfl rfl rfl ?_
    rintro _ w24 ⟨rfl, q23⟩
    have fB := fB.gr q23
    refine ol_val (v := sv ((List.map toB [(IntKind.u8.wrap a0), (IntKind.u8.wrap a1), 0, 0]) ++ t6)) (by exact xr_move rfl rfl) rfl rfl rfl ?_
    obtain ⟨g25, h⟩ := gs h
    refine ol_val (v := sv (t21 ++ ((List.map toB [(IntKind.u8.wrap a0), (IntKind.u8.wrap a1), 0, 0]) ++ t6))) (by exact xr_addStr rfl rfl rfl g25) rfl rfl rfl ?_
    refine ol_val (v := sv (t21 ++ ((List.map toB [(IntKind.u8.wrap a0), (IntKind.u8.wrap a1), 0, 0]) ++ t6))) (by exact xr_assign rfl rfl) rfl rfl rfl ?_
    refine ol_nil ?_
    refine cw_ret ?_
    repeat (first | with_reducible refine thn_r ?_ | with_reducible refine blk_r ?_)
    obtain rfl := Option.some.inj h
    refine fin_ret1 Try.results30 rfl ?_
    exact ⟨_, rfl, rfl, fB⟩
end Go.Proofs.Ytjhajfkfhdnciaa

/- rickyard/rickyardref07.Open: its model, and that the Go function computes it: written by gen.py. -/
set_option linter.unusedVariables false
namespace Go.Proofs.Ytjhajfkfhdnciaa
open Go Go.Xw
def rickyardref07_Open.f (fu : Nat) (a0 : List Int) : Option (Int × Int × (List UInt8) × Bool) := (((if (!decide ((List.length a0 : Int) = 64)) = true then some (true) else (if (4 : Int) < (List.length a0 : Int) then (if (decide ((ix a0 4) = 0)) = true then some (true) else (if (4 : Int) < (List.length a0 : Int) then (if (5 : Int) < (List.length a0 : Int) then (if (8 : Int) ≤ (List.length a0 : Int) then ((rickyardref07_Seal.f fu (IntKind.i64.wrap (ix a0 4)) (IntKind.i64.wrap (ix a0 5)) (List.map toB (cut a0 8 (List.length a0 : Int))) : Option (List UInt8)).bind fun t17 => some ((!decide (t17 = (List.map toB a0))))) else none) else none) else none)) else none)) : Option Bool).bind fun x1 => (if x1 = true then some (0, 0, [], false) else (if (4 : Int) < (List.length a0 : Int) then (if (5 : Int) < (List.length a0 : Int) then (if (8 : Int) ≤ (List.length a0 : Int) then some ((IntKind.i64.wrap (ix a0 4)), (IntKind.i64.wrap (ix a0 5)), (List.map toB (cut a0 8 (List.length a0 : Int))), true) else none) else none) else none)))
set_option maxRecDepth 100000 in
set_option maxHeartbeats 400000 in
theorem rickyardref07_Open.ok (fu : Nat) (w : World) (a0 : List Int) (V0_0 : Value) (R0_0 : Rd (kI .u8) w V0_0 a0) (r : Int × Int × (List UInt8) × Bool) (h : rickyardref07_Open.f fu a0 = some r) :
    Calls Try.prog 32 (([V0_0] : List Value).toArray) w (fun e w' => ∃ v, e = .returned v ∧ v = .tuple #[.int .i64 r.1, .int .i64 r.2.1, sv r.2.2.1, .bool r.2.2.2] ∧ Gr w w') := by
  unfold rickyardref07_Open.f at h
  have fB : Gr w w := Fr.refl _ _
  refine calls_cw Try.func32 rfl Try.ntmps32 rfl ?_
  refine cw_seq ?_
  refine cw_region ?_
  refine ol_val (v := .int .i64 0) (by exact xr_assign rfl rfl) rfl rfl rfl ?_
  refine ol_val (v := .int .i64 0) (by exact xr_assign rfl rfl) rfl rfl rfl ?_
  refine ol_val (v := sv []) (by exact xr_assign rfl rfl) rfl rfl rfl ?_
  refine ol_val (v := .bool false) (by exact xr_assign rfl rfl) rfl rfl rfl ?_
  refine ol_nil ?_
  refine cw_seq ?_
  refine cw_seq ?_
  obtain ⟨x1, j2, h⟩ := bs h
  refine cw_mid (fun ρ' w' => ρ' 0 = V0_0 ∧ ρ' 31 = .bool x1 ∧ Gr w w') ?_ ?_
  · skip
    rcases is j2 with ⟨c3, j2⟩ | ⟨c3, j2⟩
    · skip
      refine cw_drawL 25 [fun vz wz => vz = (V0_0 : Value), fun vz wz => vz = (.int .i64 (List.length a0 : Int) : Value), fun vz wz => vz = (.bool (!decide ((List.length a0 : Int) = 64)) : Value), fun vz wz => vz = (.bool (!decide ((List.length a0 : Int) = 64)) : Value), fun vz _ => vz = undef, fun vz _ => vz = undef, fun vz _ => vz = undef, fun vz _ => vz = undef, fun vz wz => vz = (.bool true : Value), fun vz wz => vz = (.bool true : Value), fun vz _ => vz = undef, fun vz _ => vz = undef, fun vz _ => vz = undef, fun vz _ => vz = undef, fun vz _ => vz = undef, fun vz _ => vz = undef, fun vz _ => vz = undef, fun vz _ => vz = undef, fun vz _ => vz = undef, fun vz _ => vz = undef, fun vz _ => vz = undef, fun vz _ => vz = undef, fun vz _ => vz = undef, fun vz _ => vz = undef, fun vz _ => vz = undef] mo rfl ⟨fun _ _ _ h _ => h, fun _ _ _ h _ => h, fun _ _ _ h _ => h, fun _ _ _ h _ => h, fun _ _ _ h _ => h, fun _ _ _ h _ => h, fun _ _ _ h _ => h, fun _ _ _ h _ => h, fun _ _ _ h _ => h, fun _ _ _ h _ => h, fun _ _ _ h _ => h, fun _ _ _ h _ => h, fun _ _ _ h _ => h, fun _ _ _ h _ => h, fun _ _ _ h _ => h, fun _ _ _ h _ => h, fun _ _ _ h _ => h, fun _ _ _ h _ => h, fun _ _ _ h _ => h, fun _ _ _ h _ => h, fun _ _ _ h _ => h, fun _ _ _ h _ => h, fun _ _ _ h _ => h, fun _ _ _ h _ => h, fun _ _ _ h _ => h, trivial⟩ ?_ ?_
      · refine ⟨?_, ?_, ?_, ?_, ?_, ?_, ?_, ?_, ?_, ?_, ?_, ?_, ?_, ?_, ?_, ?_, ?_, ?_, ?_, ?_, ?_, ?_, ?_, ?_, ?_, trivial⟩
        · intro ρz wz hz hk hd
          exact sk_val (v := V0_0) (by exact xr_move rfl ((hk 0 rfl).trans rfl)) rfl rfl
        · intro ρz wz hz hk hd
          have d6 := hd 0 rfl 6 rfl
          exact sk_val (v := .int .i64 (List.length a0 : Int)) (by exact xr_lenR rfl Try.underlying22 d6 (R0_0.gr (fB.gr hz))) rfl rfl
        · intro ρz wz hz hk hd
          have d7 := hd 1 rfl 7 rfl
          exact sk_val (v := .bool (!decide ((List.length a0 : Int) = 64))) (by exact xr_neI rfl Try.underlying3 rfl d7 rfl) rfl rfl
        · intro ρz wz hz hk hd
          have d8 := hd 2 rfl 8 rfl
          exact sk_val (v := .bool (!decide ((List.length a0 : Int) = 64))) (by exact xr_move rfl d8) rfl rfl
        · intro ρz wz hz hk hd
          have d9 := hd 3 rfl 9 rfl
          exact sk_skip rfl rfl d9 c3 rfl
        · intro ρz wz hz hk hd
          have d9 := hd 3 rfl 9 rfl
          exact sk_skip rfl rfl d9 c3 rfl
        · intro ρz wz hz hk hd
          have d9 := hd 3 rfl 9 rfl
          exact sk_skip rfl rfl d9 c3 rfl
        · intro ρz wz hz hk hd
          have d9 := hd 3 rfl 9 rfl
          exact sk_skip rfl rfl d9 c3 rfl
        · intro ρz wz hz hk hd
          have d9 := hd 3 rfl 9 rfl
          exact sk_val (v := .bool true) (by exact xr_pickT rfl d9 c3 rfl) rfl rfl
        · intro ρz wz hz hk hd
          have d14 := hd 8 rfl 14 rfl
          exact sk_val (v := .bool true) (by exact xr_move rfl d14) rfl rfl
        · intro ρz wz hz hk hd
          have d15 := hd 9 rfl 15 rfl
          exact sk_skip rfl rfl d15 rfl rfl
        · intro ρz wz hz hk hd
          have d15 := hd 9 rfl 15 rfl
          exact sk_skip rfl rfl d15 rfl rfl
        · intro ρz wz hz hk hd
          have d15 := hd 9 rfl 15 rfl
          exact sk_skip rfl rfl d15 rfl rfl
        · intro ρz wz hz hk hd
          have d15 := hd 9 rfl 15 rfl
          exact sk_skip rfl rfl d15 rfl rfl
        · intro ρz wz hz hk hd
          have d15 := hd 9 rfl 15 rfl
          exact sk_skip rfl rfl d15 rfl rfl
        · intro ρz wz hz hk hd
          have d15 := hd 9 rfl 15 rfl
          exact sk_skip rfl rfl d15 rfl rfl
        · intro ρz wz hz hk hd
          have d15 := hd 9 rfl 15 rfl
          exact sk_skip rfl rfl d15 rfl rfl
        · intro ρz wz hz hk hd
          have d15 := hd 9 rfl 15 rfl
          exact sk_skip rfl rfl d15 rfl rfl
        · intro ρz wz hz hk hd
          have d15 := hd 9 rfl 15 rfl
          exact sk_skip rfl rfl d15 rfl rfl
        · intro ρz wz hz hk hd
          have d15 := hd 9 rfl 15 rfl
          exact sk_skip rfl rfl d15 rfl rfl
        · intro ρz wz hz hk hd
          have d15 := hd 9 rfl 15 rfl
          exact sk_skip rfl rfl d15 rfl rfl
        · intro ρz wz hz hk hd
          have d15 := hd 9 rfl 15 rfl
          exact sk_skip rfl rfl d15 rfl rfl
        · intro ρz wz hz hk hd
          have d15 := hd 9 rfl 15 rfl
          exact sk_skip rfl rfl d15 rfl rfl
        · intro ρz wz hz hk hd
          have d15 := hd 9 rfl 15 rfl
          exact sk_skip rfl rfl d15 rfl rfl
        · intro ρz wz hz hk hd
          have d15 := hd 9 rfl 15 rfl
          exact sk_skip rfl rfl d15 rfl rfl
      · intro ρ4 w5 q6 hk hd
        have e0 := (hk 0 rfl).trans rfl
        have e15 := hd 9 rfl 15 rfl
        have fB := fB.gr q6
        refine ol_val (v := .bool true) (by exact xr_pickT rfl e15 rfl rfl) rfl rfl rfl ?_
        refine ol_nil ?_
        obtain rfl := Option.some.inj j2
        refine thn_i ?_
        exact ⟨e0, rfl, q6⟩
    · skip
      obtain ⟨g7, j2⟩ := gs j2
      rcases is j2 with ⟨c8, j2⟩ | ⟨c8, j2⟩
      · skip
        refine cw_drawL 25 [fun vz wz => vz = (V0_0 : Value), fun vz wz => vz = (.int .i64 (List.length a0 : Int) : Value), fun vz wz => vz = (.bool (!decide ((List.length a0 : Int) = 64)) : Value), fun vz wz => vz = (.bool (!decide ((List.length a0 : Int) = 64)) : Value), fun vz wz => vz = (V0_0 : Value), fun vz wz => vz = (.pointer (some ⟨(sb V0_0), so V0_0 + Int.toNat 4 * 1, none⟩) : Value), fun vz wz => vz = (.int .u8 (ix a0 4) : Value), fun vz wz => vz = (.bool (decide ((ix a0 4) = 0)) : Value), fun vz wz => vz = (.bool (decide ((ix a0 4) = 0)) : Value), fun vz wz => vz = (.bool (decide ((ix a0 4) = 0)) : Value), fun vz _ => vz = undef, fun vz _ => vz = undef, fun vz _ => vz = undef, fun vz _ => vz = undef, fun vz _ => vz = undef, fun vz _ => vz = undef, fun vz _ => vz = undef, fun vz _ => vz = undef, fun vz _ => vz = undef, fun vz _ => vz = undef, fun vz _ => vz = undef, fun vz _ => vz = undef, fun vz _ => vz = undef, fun vz _ => vz = undef, fun vz _ => vz = undef] mo rfl ⟨fun _ _ _ h _ => h, fun _ _ _ h _ => h, fun _ _ _ h _ => h, fun _ _ _ h _ => h, fun _ _ _ h _ => h, fun _ _ _ h _ => h, fun _ _ _ h _ => h, fun _ _ _ h _ => h, fun _ _ _ h _ => h, fun _ _ _ h _ => h, fun _ _ _ h _ => h, fun _ _ _ h _ => h, fun _ _ _ h _ => h, fun _ _ _ h _ => h, fun _ _ _ h _ => h, fun _ _ _ h _ => h, fun _ _ _ h _ => h, fun _ _ _ h _ => h, fun _ _ _ h _ => h, fun _ _ _ h _ => h, fun _ _ _ h _ => h, fun _ _ _ h _ => h, fun _ _ _ h _ => h, fun _ _ _ h _ => h, fun _ _ _ h _ => h, trivial⟩ ?_ ?_
        · refine ⟨?_, ?_, ?_, ?_, ?_, ?_, ?_, ?_, ?_, ?_, ?_, ?_, ?_, ?_, ?_, ?_, ?_, ?_, ?_, ?_, ?_, ?_, ?_, ?_, ?_, trivial⟩
          · intro ρz wz hz hk hd
            exact sk_val (v := V0_0) (by exact xr_move rfl ((hk 0 rfl).trans rfl)) rfl rfl
          · intro ρz wz hz hk hd
            have d6 := hd 0 rfl 6 rfl
            exact sk_val (v := .int .i64 (List.length a0 : Int)) (by exact xr_lenR rfl Try.underlying22 d6 (R0_0.gr (fB.gr hz))) rfl rfl
          · intro ρz wz hz hk hd
            have d7 := hd 1 rfl 7 rfl
            exact sk_val (v := .bool (!decide ((List.length a0 : Int) = 64))) (by exact xr_neI rfl Try.underlying3 rfl d7 rfl) rfl rfl
          · intro ρz wz hz hk hd
            have d8 := hd 2 rfl 8 rfl
            exact sk_val (v := .bool (!decide ((List.length a0 : Int) = 64))) (by exact xr_move rfl d8) rfl rfl
          · intro ρz wz hz hk hd
            have d9 := hd 3 rfl 9 rfl
            exact sk_gval (v := V0_0) (by exact xr_move rfl ((hk 0 rfl).trans rfl)) rfl rfl d9 c3 rfl
          · intro ρz wz hz hk hd
            have d10 := hd 4 rfl 10 rfl
            have d9 := hd 3 rfl 9 rfl
            exact sk_gval (by exact xr_indexR (K := (kI .u8)) (v := V0_0) rfl Try.underlying22 sz5 d10 (R0_0.gr (fB.gr hz)) rfl (by decide) g7) rfl rfl d9 c3 rfl
          · intro ρz wz hz hk hd
            have d11 := hd 5 rfl 11 rfl
            have d9 := hd 3 rfl 9 rfl
            exact sk_gval (v := .int .u8 (ix a0 4)) (by exact xr_load1 (v := .int .u8 (ix a0 4)) rfl ag5 d11 ((R0_0.gr (fB.gr hz)).elem (by decide) g7)) rfl rfl d9 c3 rfl
          · intro ρz wz hz hk hd
            have d12 := hd 6 rfl 12 rfl
            have d9 := hd 3 rfl 9 rfl
            exact sk_gval (v := .bool (decide ((ix a0 4) = 0))) (by exact xr_eqI rfl Try.underlying5 rfl d12 rfl) rfl rfl d9 c3 rfl
          · intro ρz wz hz hk hd
            have d9 := hd 3 rfl 9 rfl
            have d13 := hd 7 rfl 13 rfl
            exact sk_val (v := .bool (decide ((ix a0 4) = 0))) (by exact xr_pickF rfl d9 c3 d13) rfl rfl
          · intro ρz wz hz hk hd
            have d14 := hd 8 rfl 14 rfl
            exact sk_val (v := .bool (decide ((ix a0 4) = 0))) (by exact xr_move rfl d14) rfl rfl
          · intro ρz wz hz hk hd
            have d15 := hd 9 rfl 15 rfl
            exact sk_skip rfl rfl d15 c8 rfl
          · intro ρz wz hz hk hd
            have d15 := hd 9 rfl 15 rfl
            exact sk_skip rfl rfl d15 c8 rfl
          · intro ρz wz hz hk hd
            have d15 := hd 9 rfl 15 rfl
            exact sk_skip rfl rfl d15 c8 rfl
          · intro ρz wz hz hk hd
            have d15 := hd 9 rfl 15 rfl
            exact sk_skip rfl rfl d15 c8 rfl
          · intro ρz wz hz hk hd
            have d15 := hd 9 rfl 15 rfl
            exact sk_skip rfl rfl d15 c8 rfl
          · intro ρz wz hz hk hd
            have d15 := hd 9 rfl 15 rfl
            exact sk_skip rfl rfl d15 c8 rfl
          · intro ρz wz hz hk hd
            have d15 := hd 9 rfl 15 rfl
            exact sk_skip rfl rfl d15 c8 rfl
          · intro ρz wz hz hk hd
            have d15 := hd 9 rfl 15 rfl
            exact sk_skip rfl rfl d15 c8 rfl
          · intro ρz wz hz hk hd
            have d15 := hd 9 rfl 15 rfl
            exact sk_skip rfl rfl d15 c8 rfl
          · intro ρz wz hz hk hd
            have d15 := hd 9 rfl 15 rfl
            exact sk_skip rfl rfl d15 c8 rfl
          · intro ρz wz hz hk hd
            have d15 := hd 9 rfl 15 rfl
            exact sk_skip rfl rfl d15 c8 rfl
          · intro ρz wz hz hk hd
            have d15 := hd 9 rfl 15 rfl
            exact sk_skip rfl rfl d15 c8 rfl
          · intro ρz wz hz hk hd
            have d15 := hd 9 rfl 15 rfl
            exact sk_skip rfl rfl d15 c8 rfl
          · intro ρz wz hz hk hd
            have d15 := hd 9 rfl 15 rfl
            exact sk_skip rfl rfl d15 c8 rfl
          · intro ρz wz hz hk hd
            have d15 := hd 9 rfl 15 rfl
            exact sk_skip rfl rfl d15 c8 rfl
        · intro ρ9 w10 q11 hk hd
          have e0 := (hk 0 rfl).trans rfl
          have e15 := hd 9 rfl 15 rfl
          have fB := fB.gr q11
          refine ol_val (v := .bool true) (by exact xr_pickT rfl e15 c8 rfl) rfl rfl rfl ?_
          refine ol_nil ?_
          obtain rfl := Option.some.inj j2
          refine thn_i ?_
          exact ⟨e0, rfl, q11⟩
      · skip
        obtain ⟨g12, j2⟩ := gs j2
        obtain ⟨g13, j2⟩ := gs j2
        obtain ⟨g15, j2⟩ := gs j2
        obtain ⟨t17, k18, j2⟩ := bs j2
        refine cw_drawL 25 [fun vz wz => vz = (V0_0 : Value), fun vz wz => vz = (.int .i64 (List.length a0 : Int) : Value), fun vz wz => vz = (.bool (!decide ((List.length a0 : Int) = 64)) : Value), fun vz wz => vz = (.bool (!decide ((List.length a0 : Int) = 64)) : Value), fun vz wz => vz = (V0_0 : Value), fun vz wz => vz = (.pointer (some ⟨(sb V0_0), so V0_0 + Int.toNat 4 * 1, none⟩) : Value), fun vz wz => vz = (.int .u8 (ix a0 4) : Value), fun vz wz => vz = (.bool (decide ((ix a0 4) = 0)) : Value), fun vz wz => vz = (.bool (decide ((ix a0 4) = 0)) : Value), fun vz wz => vz = (.bool (decide ((ix a0 4) = 0)) : Value), fun vz wz => vz = (V0_0 : Value), fun vz wz => vz = (.pointer (some ⟨(sb V0_0), so V0_0 + Int.toNat 4 * 1, none⟩) : Value), fun vz wz => vz = (.int .u8 (ix a0 4) : Value), fun vz wz => vz = (.int .i64 (IntKind.i64.wrap (ix a0 4)) : Value), fun vz wz => vz = (V0_0 : Value), fun vz wz => vz = (.pointer (some ⟨(sb V0_0), so V0_0 + Int.toNat 5 * 1, none⟩) : Value), fun vz wz => vz = (.int .u8 (ix a0 5) : Value), fun vz wz => vz = (.int .i64 (IntKind.i64.wrap (ix a0 5)) : Value), fun vz wz => vz = (V0_0 : Value), fun vz wz => ∃ u16 : Value, ∃ r14 : Rd (kI .u8) wz u16 (cut a0 8 (List.length a0 : Int)), vz = (u16 : Value), fun vz wz => vz = (sv (List.map toB (cut a0 8 (List.length a0 : Int))) : Value), fun vz wz => vz = (sv t17 : Value), fun vz wz => vz = (V0_0 : Value), fun vz wz => vz = (sv (List.map toB a0) : Value), fun vz wz => vz = (.bool (!decide (t17 = (List.map toB a0))) : Value)] mo rfl ⟨fun _ _ _ h _ => h, fun _ _ _ h _ => h, fun _ _ _ h _ => h, fun _ _ _ h _ => h, fun _ _ _ h _ => h, fun _ _ _ h _ => h, fun _ _ _ h _ => h, fun _ _ _ h _ => h, fun _ _ _ h _ => h, fun _ _ _ h _ => h, fun _ _ _ h _ => h, fun _ _ _ h _ => h, fun _ _ _ h _ => h, fun _ _ _ h _ => h, fun _ _ _ h _ => h, fun _ _ _ h _ => h, fun _ _ _ h _ => h, fun _ _ _ h _ => h, fun _ _ _ h _ => h, fun _ _ _ ⟨u16, r14, h⟩ q => ⟨u16, r14.gr q, h⟩, fun _ _ _ h _ => h, fun _ _ _ h _ => h, fun _ _ _ h _ => h, fun _ _ _ h _ => h, fun _ _ _ h _ => h, trivial⟩ ?_ ?_
        · refine ⟨?_, ?_, ?_, ?_, ?_, ?_, ?_, ?_, ?_, ?_, ?_, ?_, ?_, ?_, ?_, ?_, ?_, ?_, ?_, ?_, ?_, ?_, ?_, ?_, ?_, trivial⟩
          · intro ρz wz hz hk hd
            exact sk_val (v := V0_0) (by exact xr_move rfl ((hk 0 rfl).trans rfl)) rfl rfl
          · intro ρz wz hz hk hd
            have d6 := hd 0 rfl 6 rfl
            exact sk_val (v := .int .i64 (List.length a0 : Int)) (by exact xr_lenR rfl Try.underlying22 d6 (R0_0.gr (fB.gr hz))) rfl rfl
          · intro ρz wz hz hk hd
            have d7 := hd 1 rfl 7 rfl
            exact sk_val (v := .bool (!decide ((List.length a0 : Int) = 64))) (by exact xr_neI rfl Try.underlying3 rfl d7 rfl) rfl rfl
          · intro ρz wz hz hk hd
            have d8 := hd 2 rfl 8 rfl
            exact sk_val (v := .bool (!decide ((List.length a0 : Int) = 64))) (by exact xr_move rfl d8) rfl rfl
          · intro ρz wz hz hk hd
            have d9 := hd 3 rfl 9 rfl
            exact sk_gval (v := V0_0) (by exact xr_move rfl ((hk 0 rfl).trans rfl)) rfl rfl d9 c3 rfl
          · intro ρz wz hz hk hd
            have d10 := hd 4 rfl 10 rfl
            have d9 := hd 3 rfl 9 rfl
            exact sk_gval (by exact xr_indexR (K := (kI .u8)) (v := V0_0) rfl Try.underlying22 sz5 d10 (R0_0.gr (fB.gr hz)) rfl (by decide) g7) rfl rfl d9 c3 rfl
          · intro ρz wz hz hk hd
            have d11 := hd 5 rfl 11 rfl
            have d9 := hd 3 rfl 9 rfl
            exact sk_gval (v := .int .u8 (ix a0 4)) (by exact xr_load1 (v := .int .u8 (ix a0 4)) rfl ag5 d11 ((R0_0.gr (fB.gr hz)).elem (by decide) g7)) rfl rfl d9 c3 rfl
          · intro ρz wz hz hk hd
            have d12 := hd 6 rfl 12 rfl
            have d9 := hd 3 rfl 9 rfl
            exact sk_gval (v := .bool (decide ((ix a0 4) = 0))) (by exact xr_eqI rfl Try.underlying5 rfl d12 rfl) rfl rfl d9 c3 rfl
          · intro ρz wz hz hk hd
            have d9 := hd 3 rfl 9 rfl
            have d13 := hd 7 rfl 13 rfl
            exact sk_val (v := .bool (decide ((ix a0 4) = 0))) (by exact xr_pickF rfl d9 c3 d13) rfl rfl
          · intro ρz wz hz hk hd
            have d14 := hd 8 rfl 14 rfl
            exact sk_val (v := .bool (decide ((ix a0 4) = 0))) (by exact xr_move rfl d14) rfl rfl
          · intro ρz wz hz hk hd
            have d15 := hd 9 rfl 15 rfl
            exact sk_gval (v := V0_0) (by exact xr_move rfl ((hk 0 rfl).trans rfl)) rfl rfl d15 c8 rfl
          · intro ρz wz hz hk hd
            have d16 := hd 10 rfl 16 rfl
            have d15 := hd 9 rfl 15 rfl
            exact sk_gval (by exact xr_indexR (K := (kI .u8)) (v := V0_0) rfl Try.underlying22 sz5 d16 (R0_0.gr (fB.gr hz)) rfl (by decide) g12) rfl rfl d15 c8 rfl
          · intro ρz wz hz hk hd
            have d17 := hd 11 rfl 17 rfl
            have d15 := hd 9 rfl 15 rfl
            exact sk_gval (v := .int .u8 (ix a0 4)) (by exact xr_load1 (v := .int .u8 (ix a0 4)) rfl ag5 d17 ((R0_0.gr (fB.gr hz)).elem (by decide) g12)) rfl rfl d15 c8 rfl
          · intro ρz wz hz hk hd
            have d18 := hd 12 rfl 18 rfl
            have d15 := hd 9 rfl 15 rfl
            exact sk_gval (v := .int .i64 (IntKind.i64.wrap (ix a0 4))) (by exact xr_conv rfl Try.underlying5 Try.underlying3 d18) rfl rfl d15 c8 rfl
          · intro ρz wz hz hk hd
            have d15 := hd 9 rfl 15 rfl
            exact sk_gval (v := V0_0) (by exact xr_move rfl ((hk 0 rfl).trans rfl)) rfl rfl d15 c8 rfl
          · intro ρz wz hz hk hd
            have d20 := hd 14 rfl 20 rfl
            have d15 := hd 9 rfl 15 rfl
            exact sk_gval (by exact xr_indexR (K := (kI .u8)) (v := V0_0) rfl Try.underlying22 sz5 d20 (R0_0.gr (fB.gr hz)) rfl (by decide) g13) rfl rfl d15 c8 rfl
          · intro ρz wz hz hk hd
            have d21 := hd 15 rfl 21 rfl
            have d15 := hd 9 rfl 15 rfl
            exact sk_gval (v := .int .u8 (ix a0 5)) (by exact xr_load1 (v := .int .u8 (ix a0 5)) rfl ag5 d21 ((R0_0.gr (fB.gr hz)).elem (by decide) g13)) rfl rfl d15 c8 rfl
          · intro ρz wz hz hk hd
            have d22 := hd 16 rfl 22 rfl
            have d15 := hd 9 rfl 15 rfl
            exact sk_gval (v := .int .i64 (IntKind.i64.wrap (ix a0 5))) (by exact xr_conv rfl Try.underlying5 Try.underlying3 d22) rfl rfl d15 c8 rfl
          · intro ρz wz hz hk hd
            have d15 := hd 9 rfl 15 rfl
            exact sk_gval (v := V0_0) (by exact xr_move rfl ((hk 0 rfl).trans rfl)) rfl rfl d15 c8 rfl
          · intro ρz wz hz hk hd
            have d24 := hd 18 rfl 24 rfl
            have d15 := hd 9 rfl 15 rfl
            exact sk_gval (by exact xr_slice_l (K := (kI .u8)) (v := V0_0) rfl Try.underlying22 sz5 d24 (R0_0.gr (fB.gr hz)) rfl (by decide) g15) rfl rfl d15 c8 ⟨_, (R0_0.gr (fB.gr hz)).cut (lo := 8) (hi := (List.length a0 : Int)) (by decide) g15 (Int.le_refl _), rfl⟩
          · intro ρz wz hz hk hd
            obtain ⟨u16, r14, d25⟩ := hd 19 rfl 25 rfl
            have d15 := hd 9 rfl 15 rfl
            exact sk_gval (v := sv (List.map toB (cut a0 8 (List.length a0 : Int)))) (by exact xr_toStr rfl Try.underlying22 Try.underlying5 Try.underlying9 d25 r14) rfl rfl d15 c8 rfl
          · intro ρz wz hz hk hd
            have d19 := hd 13 rfl 19 rfl
            have d23 := hd 17 rfl 23 rfl
            have d26 := hd 20 rfl 26 rfl
            have d15 := hd 9 rfl 15 rfl
            refine sk_gop (by exact opv_call rfl cal30 (ac d19 (ac d23 (ac d26 an))) (rickyardref07_Seal.ok fu _ (IntKind.i64.wrap (ix a0 4)) (IntKind.i64.wrap (ix a0 5)) (List.map toB (cut a0 8 (List.length a0 : Int))) _ k18)) rfl rfl d15 c8 ?_
            rintro _ wy ⟨rfl, q19⟩
            exact ⟨rfl, q19⟩
          · intro ρz wz hz hk hd
            have d15 := hd 9 rfl 15 rfl
            exact sk_gval (v := V0_0) (by exact xr_move rfl ((hk 0 rfl).trans rfl)) rfl rfl d15 c8 rfl
          · intro ρz wz hz hk hd
            have d28 := hd 22 rfl 28 rfl
            have d15 := hd 9 rfl 15 rfl
            exact sk_gval (v := sv (List.map toB a0)) (by exact xr_toStr rfl Try.underlying22 Try.underlying5 Try.underlying9 d28 (R0_0.gr (fB.gr hz))) rfl rfl d15 c8 rfl
          · intro ρz wz hz hk hd
            have d27 := hd 21 rfl 27 rfl
            have d29 := hd 23 rfl 29 rfl
            have d15 := hd 9 rfl 15 rfl
            exact sk_gval (v := .bool (!decide (t17 = (List.map toB a0)))) (by exact xr_neStr rfl Try.underlying9 d27 d29) rfl rfl d15 c8 rfl
        · intro ρ20 w21 q22 hk hd
          have e0 := (hk 0 rfl).trans rfl
          have e15 := hd 9 rfl 15 rfl
          have e30 := hd 24 rfl 30 rfl
          have fB := fB.gr q22
          refine ol_val (v := .bool (!decide (t17 = (List.map toB a0)))) (by exact xr_pickF rfl e15 c8 e30) rfl rfl rfl ?_
          refine ol_nil ?_
          obtain rfl := Option.some.inj j2
          refine thn_i ?_
          exact ⟨e0, rfl, q22⟩
  · skip
    rintro ρ23 w24 ⟨e0, e31, q25⟩
    have fB := fB.gr q25
    rcases is h with ⟨c26, h⟩ | ⟨c26, h⟩
    · refine cw_condT e31 c26 ?_
      refine cw_seq ?_
      refine cw_region ?_
      refine ol_val (v := .int .i64 0) (by exact xr_assign rfl rfl) rfl rfl rfl ?_
      refine ol_val (v := .int .i64 0) (by exact xr_assign rfl rfl) rfl rfl rfl ?_
      refine ol_val (v := sv []) (by exact xr_assign rfl rfl) rfl rfl rfl ?_
      refine ol_val (v := .bool false) (by exact xr_assign rfl rfl) rfl rfl rfl ?_
      refine ol_nil ?_
      refine cw_ret ?_
      repeat (first | with_reducible refine thn_r ?_ | with_reducible refine blk_r ?_)
      obtain rfl := Option.some.inj h
      refine fin_ret4 Try.results32 rfl rfl rfl rfl ?_
      exact ⟨_, rfl, rfl, fB⟩
    · refine cw_condF e31 c26 ?_
      refine cw_skip ?_
      refine cw_seq ?_
      obtain ⟨g27, h⟩ := gs h
      obtain ⟨g28, h⟩ := gs h
      obtain ⟨g30, h⟩ := gs h
      refine cw_drawL 13 [fun vz wz => vz = (V0_0 : Value), fun vz wz => vz = (.pointer (some ⟨(sb V0_0), so V0_0 + Int.toNat 4 * 1, none⟩) : Value), fun vz wz => vz = (.int .u8 (ix a0 4) : Value), fun vz wz => vz = (.int .i64 (IntKind.i64.wrap (ix a0 4)) : Value), fun vz wz => vz = (V0_0 : Value), fun vz wz => vz = (.pointer (some ⟨(sb V0_0), so V0_0 + Int.toNat 5 * 1, none⟩) : Value), fun vz wz => vz = (.int .u8 (ix a0 5) : Value), fun vz wz => vz = (.int .i64 (IntKind.i64.wrap (ix a0 5)) : Value), fun vz wz => vz = (V0_0 : Value), fun vz wz => ∃ u31 : Value, ∃ r29 : Rd (kI .u8) wz u31 (cut a0 8 (List.length a0 : Int)), vz = (u31 : Value), fun vz wz => vz = (sv (List.map toB (cut a0 8 (List.length a0 : Int))) : Value), fun vz wz => vz = (.int .i64 (IntKind.i64.wrap (ix a0 4)) : Value), fun vz wz => vz = (.int .i64 (IntKind.i64.wrap (ix a0 5)) : Value)] mo rfl ⟨fun _ _ _ h _ => h, fun _ _ _ h _ => h, fun _ _ _ h _ => h, fun _ _ _ h _ => h, fun _ _ _ h _ => h, fun _ _ _ h _ => h, fun _ _ _ h _ => h, fun _ _ _ h _ => h, fun _ _ _ h _ => h, fun _ _ _ ⟨u31, r29, h⟩ q => ⟨u31, r29.gr q, h⟩, fun _ _ _ h _ => h, fun _ _ _ h _ => h, fun _ _ _ h _ => h, trivial⟩ ?_ ?_
      · refine ⟨?_, ?_, ?_, ?_, ?_, ?_, ?_, ?_, ?_, ?_, ?_, ?_, ?_, trivial⟩
        · intro ρz wz hz hk hd
          exact sk_val (v := V0_0) (by exact xr_move rfl ((hk 0 rfl).trans e0)) rfl rfl
        · intro ρz wz hz hk hd
          have d32 := hd 0 rfl 32 rfl
          exact sk_val (by exact xr_indexR (K := (kI .u8)) (v := V0_0) rfl Try.underlying22 sz5 d32 (R0_0.gr (fB.gr hz)) rfl (by decide) g27) rfl rfl
        · intro ρz wz hz hk hd
          have d33 := hd 1 rfl 33 rfl
          exact sk_val (v := .int .u8 (ix a0 4)) (by exact xr_load1 (v := .int .u8 (ix a0 4)) rfl ag5 d33 ((R0_0.gr (fB.gr hz)).elem (by decide) g27)) rfl rfl
        · intro ρz wz hz hk hd
          have d34 := hd 2 rfl 34 rfl
          exact sk_val (v := .int .i64 (IntKind.i64.wrap (ix a0 4))) (by exact xr_conv rfl Try.underlying5 Try.underlying3 d34) rfl rfl
        · intro ρz wz hz hk hd
          exact sk_val (v := V0_0) (by exact xr_move rfl ((hk 0 rfl).trans e0)) rfl rfl
        · intro ρz wz hz hk hd
          have d36 := hd 4 rfl 36 rfl
          exact sk_val (by exact xr_indexR (K := (kI .u8)) (v := V0_0) rfl Try.underlying22 sz5 d36 (R0_0.gr (fB.gr hz)) rfl (by decide) g28) rfl rfl
        · intro ρz wz hz hk hd
          have d37 := hd 5 rfl 37 rfl
          exact sk_val (v := .int .u8 (ix a0 5)) (by exact xr_load1 (v := .int .u8 (ix a0 5)) rfl ag5 d37 ((R0_0.gr (fB.gr hz)).elem (by decide) g28)) rfl rfl
        · intro ρz wz hz hk hd
          have d38 := hd 6 rfl 38 rfl
          exact sk_val (v := .int .i64 (IntKind.i64.wrap (ix a0 5))) (by exact xr_conv rfl Try.underlying5 Try.underlying3 d38) rfl rfl
        · intro ρz wz hz hk hd
          exact sk_val (v := V0_0) (by exact xr_move rfl ((hk 0 rfl).trans e0)) rfl rfl
        · intro ρz wz hz hk hd
          have d40 := hd 8 rfl 40 rfl
          exact sk_val (by exact xr_slice_l (K := (kI .u8)) (v := V0_0) rfl Try.underlying22 sz5 d40 (R0_0.gr (fB.gr hz)) rfl (by decide) g30) rfl ⟨_, (R0_0.gr (fB.gr hz)).cut (lo := 8) (hi := (List.length a0 : Int)) (by decide) g30 (Int.le_refl _), rfl⟩
        · intro ρz wz hz hk hd
          obtain ⟨u31, r29, d41⟩ := hd 9 rfl 41 rfl
          exact sk_val (v := sv (List.map toB (cut a0 8 (List.length a0 : Int)))) (by exact xr_toStr rfl Try.underlying22 Try.underlying5 Try.underlying9 d41 r29) rfl rfl
        · intro ρz wz hz hk hd
          have d35 := hd 3 rfl 35 rfl
          exact sk_val (v := .int .i64 (IntKind.i64.wrap (ix a0 4))) (by exact xr_assign rfl d35) rfl rfl
        · intro ρz wz hz hk hd
          have d39 := hd 7 rfl 39 rfl
          exact sk_val (v := .int .i64 (IntKind.i64.wrap (ix a0 5))) (by exact xr_assign rfl d39) rfl rfl
      · intro ρ32 w33 q34 hk hd
        have e2 := hd 11 rfl 2 rfl
        have e3 := hd 12 rfl 3 rfl
        have e42 := hd 10 rfl 42 rfl
        have fB := fB.gr q34
        refine ol_val (v := sv (List.map toB (cut a0 8 (List.length a0 : Int)))) (by exact xr_assign rfl e42) rfl rfl rfl ?_
        refine ol_val (v := .bool true) (by exact xr_assign rfl rfl) rfl rfl rfl ?_
        refine ol_nil ?_
        refine cw_ret ?_
        repeat (first | with_reducible refine thn_r ?_ | with_reducible refine blk_r ?_)
        obtain rfl := Option.some.inj h
        refine fin_ret4 Try.results32 e2 e3 rfl rfl ?_
        exact ⟨_, rfl, rfl, fB⟩
end Go.Proofs.Ytjhajfkfhdnciaa

/- rickyard/rickyardref08.Block: its model, and that the Go function computes it: written by gen.py. -/
set_option linter.unusedVariables false
namespace Go.Proofs.Ytjhajfkfhdnciaa
open Go Go.Xw
def rickyardref08_Block.f (fu : Nat) (a0 : Int) : Option Bool := some ((if (decide (a0 ≥ 2)) = true then (decide (a0 ≤ 3071)) else false))
set_option maxRecDepth 100000 in
set_option maxHeartbeats 400000 in
theorem rickyardref08_Block.ok (fu : Nat) (w : World) (a0 : Int) (r : Bool) (h : rickyardref08_Block.f fu a0 = some r) :
    Calls Try.prog 107 (([.int .i64 a0] : List Value).toArray) w (fun e w' => ∃ v, e = .returned v ∧ v = .bool r ∧ Gr w w') := by
  unfold rickyardref08_Block.f at h
  have fB : Gr w w := Fr.refl _ _
  refine calls_cw Try.func107 rfl Try.ntmps107 rfl ?_
  refine cw_seq ?_
  refine cw_region ?_
  refine ol_val (v := .bool false) (by exact xr_assign rfl rfl) rfl rfl rfl ?_
  refine ol_nil ?_
  refine cw_seq ?_
  refine cw_mid (fun ρ' w' => ρ' 2 = .bool (if (decide (a0 ≥ 2)) = true then (decide (a0 ≤ 3071)) else false) ∧ w = w') ?_ ?_
  · skip
    refine cw_region ?_
    refine ol_val (v := .int .i64 a0) (by exact xr_move rfl rfl) rfl rfl rfl ?_
    refine ol_val (v := .bool (decide (a0 ≥ 2))) (by exact xr_geq rfl rfl rfl) rfl rfl rfl ?_
    refine ol_val (v := .bool (decide (a0 ≥ 2))) (by exact xr_move rfl rfl) rfl rfl rfl ?_
    rcases bt (decide (a0 ≥ 2)) with c1 | c1
    · skip
      refine ol_gval (v := .int .i64 a0) (by exact xr_move rfl rfl) rfl rfl rfl rfl rfl c1 ?_
      refine ol_gval (v := .bool (decide (a0 ≤ 3071))) (by exact xr_leq rfl rfl rfl) rfl rfl rfl rfl rfl c1 ?_
      refine ol_val (v := .bool (decide (a0 ≤ 3071))) (by exact xr_pickT rfl rfl c1 rfl) rfl rfl rfl ?_
      refine ol_val (v := .bool (decide (a0 ≤ 3071))) (by exact xr_assign rfl rfl) rfl rfl rfl ?_
      refine ol_nil ?_
      refine thn_i ?_
      exact ⟨(rfl).trans (congrArg (fun z => (.bool z : Value)) (show (decide (a0 ≤ 3071)) = (if (decide (a0 ≥ 2)) = true then (decide (a0 ≤ 3071)) else false) from by rw [ite_t c1])), rfl⟩
    · skip
      refine ol_gskip rfl rfl rfl rfl rfl c1 ?_
      refine ol_gskip rfl rfl rfl rfl rfl c1 ?_
      refine ol_val (v := .bool false) (by exact xr_pickF rfl rfl c1 rfl) rfl rfl rfl ?_
      refine ol_val (v := .bool false) (by exact xr_assign rfl rfl) rfl rfl rfl ?_
      refine ol_nil ?_
      refine thn_i ?_
      exact ⟨(rfl).trans (congrArg (fun z => (.bool z : Value)) (show false = (if (decide (a0 ≥ 2)) = true then (decide (a0 ≤ 3071)) else false) from by rw [ite_f c1])), rfl⟩
  · skip
    rintro ρ2 _ ⟨e2, rfl⟩
    refine cw_ret ?_
    repeat (first | with_reducible refine thn_r ?_ | with_reducible refine blk_r ?_)
    obtain rfl := Option.some.inj h
    refine fin_ret1 Try.results107 e2 ?_
    exact ⟨_, rfl, rfl, fB⟩
end Go.Proofs.Ytjhajfkfhdnciaa

/- rickyard/rickyardref04.follows: its model, and that the Go function computes it: written by gen.py. -/
set_option linter.unusedVariables false
namespace Go.Proofs.Ytjhajfkfhdnciaa
open Go Go.Xw
def rickyardref04_follows.f (fu : Nat) (a0 : List UInt8) (a1 : Int) (a2 : Int) (a3 : Int) : Option Bool := (((if (decide (a1 < (List.length a0 : Int))) = true then (if 0 ≤ a1 ∧ a1 < (List.length a0 : Int) then (if (decide ((ofB (List.getD a0 (Int.toNat a1) 0)) ≥ a2)) = true then (if 0 ≤ a1 ∧ a1 < (List.length a0 : Int) then some ((decide ((ofB (List.getD a0 (Int.toNat a1) 0)) ≤ a3))) else none) else some (false)) else none) else some (false)) : Option Bool).bind fun x1 => some (x1))
set_option maxRecDepth 100000 in
set_option maxHeartbeats 400000 in
theorem rickyardref04_follows.ok (fu : Nat) (w : World) (a0 : List UInt8) (a1 : Int) (a2 : Int) (a3 : Int) (r : Bool) (h : rickyardref04_follows.f fu a0 a1 a2 a3 = some r) :
    Calls Try.prog 149 (([sv a0, .int .i64 a1, .int .u8 a2, .int .u8 a3] : List Value).toArray) w (fun e w' => ∃ v, e = .returned v ∧ v = .bool r ∧ Gr w w') := by
  unfold rickyardref04_follows.f at h
  have fB : Gr w w := Fr.refl _ _
  refine calls_cw Try.func149 rfl Try.ntmps149 rfl ?_
  refine cw_seq ?_
  refine cw_region ?_
  refine ol_val (v := .bool false) (by exact xr_assign rfl rfl) rfl rfl rfl ?_
  refine ol_nil ?_
  refine cw_seq ?_
  obtain ⟨x1, j2, h⟩ := bs h
  refine cw_mid (fun ρ' w' => ρ' 8 = .bool x1 ∧ w = w') ?_ ?_
  · skip
    refine cw_region ?_
    refine ol_val (v := .int .i64 a1) (by exact xr_move rfl rfl) rfl rfl rfl ?_
    refine ol_val (v := sv a0) (by exact xr_move rfl rfl) rfl rfl rfl ?_
    refine ol_val (v := .int .i64 (List.length a0 : Int)) (by exact xr_lenStr rfl Try.underlying9 rfl) rfl rfl rfl ?_
    refine ol_val (v := .bool (decide (a1 < (List.length a0 : Int)))) (by exact xr_lss rfl rfl rfl) rfl rfl rfl ?_
    refine ol_val (v := .bool (decide (a1 < (List.length a0 : Int)))) (by exact xr_move rfl rfl) rfl rfl rfl ?_
    rcases is j2 with ⟨c3, j2⟩ | ⟨c3, j2⟩
    · skip
      refine ol_gval (v := sv a0) (by exact xr_move rfl rfl) rfl rfl rfl rfl rfl c3 ?_
      refine ol_gval (v := .int .i64 a1) (by exact xr_move rfl rfl) rfl rfl rfl rfl rfl c3 ?_
      obtain ⟨g4, j2⟩ := gs j2
      refine ol_gval (v := .int .u8 (ofB (List.getD a0 (Int.toNat a1) 0))) (by exact xr_indexStr rfl Try.underlying9 rfl rfl g4.1 g4.2) rfl rfl rfl rfl rfl c3 ?_
      refine ol_gval (v := .int .u8 a2) (by exact xr_move rfl rfl) rfl rfl rfl rfl rfl c3 ?_
      refine ol_gval (v := .bool (decide ((ofB (List.getD a0 (Int.toNat a1) 0)) ≥ a2))) (by exact xr_geq rfl rfl rfl) rfl rfl rfl rfl rfl c3 ?_
      refine ol_val (v := .bool (decide ((ofB (List.getD a0 (Int.toNat a1) 0)) ≥ a2))) (by exact xr_pickT rfl rfl c3 rfl) rfl rfl rfl ?_
      refine ol_val (v := .bool (decide ((ofB (List.getD a0 (Int.toNat a1) 0)) ≥ a2))) (by exact xr_move rfl rfl) rfl rfl rfl ?_
      rcases is j2 with ⟨c5, j2⟩ | ⟨c5, j2⟩
      · skip
        refine ol_gval (v := sv a0) (by exact xr_move rfl rfl) rfl rfl rfl rfl rfl c5 ?_
        refine ol_gval (v := .int .i64 a1) (by exact xr_move rfl rfl) rfl rfl rfl rfl rfl c5 ?_
        obtain ⟨g6, j2⟩ := gs j2
        refine ol_gval (v := .int .u8 (ofB (List.getD a0 (Int.toNat a1) 0))) (by exact xr_indexStr rfl Try.underlying9 rfl rfl g6.1 g6.2) rfl rfl rfl rfl rfl c5 ?_
        refine ol_gval (v := .int .u8 a3) (by exact xr_move rfl rfl) rfl rfl rfl rfl rfl c5 ?_
        refine ol_gval (v := .bool (decide ((ofB (List.getD a0 (Int.toNat a1) 0)) ≤ a3))) (by exact xr_leq rfl rfl rfl) rfl rfl rfl rfl rfl c5 ?_
        refine ol_val (v := .bool (decide ((ofB (List.getD a0 (Int.toNat a1) 0)) ≤ a3))) (by exact xr_pickT rfl rfl c5 rfl) rfl rfl rfl ?_
        refine ol_val (v := .bool (decide ((ofB (List.getD a0 (Int.toNat a1) 0)) ≤ a3))) (by exact xr_assign rfl rfl) rfl rfl rfl ?_
        refine ol_nil ?_
        obtain rfl := Option.some.inj j2
        refine thn_i ?_
        exact ⟨rfl, rfl⟩
      · skip
        refine ol_gskip rfl rfl rfl rfl rfl c5 ?_
        refine ol_gskip rfl rfl rfl rfl rfl c5 ?_
        refine ol_gskip rfl rfl rfl rfl rfl c5 ?_
        refine ol_gskip rfl rfl rfl rfl rfl c5 ?_
        refine ol_gskip rfl rfl rfl rfl rfl c5 ?_
        refine ol_val (v := .bool false) (by exact xr_pickF rfl rfl c5 rfl) rfl rfl rfl ?_
        refine ol_val (v := .bool false) (by exact xr_assign rfl rfl) rfl rfl rfl ?_
        refine ol_nil ?_
        obtain rfl := Option.some.inj j2
        refine thn_i ?_
        exact ⟨rfl, rfl⟩
    · skip
      refine ol_gskip rfl rfl rfl rfl rfl c3 ?_
      refine ol_gskip rfl rfl rfl rfl rfl c3 ?_
      refine ol_gskip rfl rfl rfl rfl rfl c3 ?_
      refine ol_gskip rfl rfl rfl rfl rfl c3 ?_
      refine ol_gskip rfl rfl rfl rfl rfl c3 ?_
      refine ol_val (v := .bool false) (by exact xr_pickF rfl rfl c3 rfl) rfl rfl rfl ?_
      refine ol_val (v := .bool false) (by exact xr_move rfl rfl) rfl rfl rfl ?_
      refine ol_gskip rfl rfl rfl rfl rfl rfl ?_
      refine ol_gskip rfl rfl rfl rfl rfl rfl ?_
      refine ol_gskip rfl rfl rfl rfl rfl rfl ?_
      refine ol_gskip rfl rfl rfl rfl rfl rfl ?_
      refine ol_gskip rfl rfl rfl rfl rfl rfl ?_
      refine ol_val (v := .bool false) (by exact xr_pickF rfl rfl rfl rfl) rfl rfl rfl ?_
      refine ol_val (v := .bool false) (by exact xr_assign rfl rfl) rfl rfl rfl ?_
      refine ol_nil ?_
      obtain rfl := Option.some.inj j2
      refine thn_i ?_
      exact ⟨rfl, rfl⟩
  · skip
    rintro ρ7 _ ⟨e8, rfl⟩
    refine cw_ret ?_
    repeat (first | with_reducible refine thn_r ?_ | with_reducible refine blk_r ?_)
    obtain rfl := Option.some.inj h
    refine fin_ret1 Try.results149 e8 ?_
    exact ⟨_, rfl, rfl, fB⟩
end Go.Proofs.Ytjhajfkfhdnciaa

/- rickyard/rickyardref04.First: its model, and that the Go function computes it: written by gen.py. -/
set_option linter.unusedVariables false
namespace Go.Proofs.Ytjhajfkfhdnciaa
open Go Go.Xw
def rickyardref04_First.f (fu : Nat) (a0 : List UInt8) : Option (Int × Int) := (if (0 : Int) < (List.length a0 : Int) then (if (decide ((ofB (List.getD a0 (Int.toNat 0) 0)) < 128)) = true then some ((IntKind.i64.wrap (ofB (List.getD a0 (Int.toNat 0) 0))), 1) else (((if (decide ((ofB (List.getD a0 (Int.toNat 0) 0)) ≥ 194)) = true then (if (decide ((ofB (List.getD a0 (Int.toNat 0) 0)) ≤ 223)) = true then ((rickyardref04_follows.f fu a0 1 128 191 : Option Bool).bind fun t7 => some (t7)) else some (false)) else some (false)) : Option Bool).bind fun x3 => (if x3 = true then (if (1 : Int) < (List.length a0 : Int) then some ((IntKind.i64.wrap ((IntKind.i64.wrap ((IntKind.i64.wrap (IntKind.u8.wrap ((ofB (List.getD a0 (Int.toNat 0) 0)) - 192))) * 64)) + (IntKind.i64.wrap (IntKind.u8.wrap ((ofB (List.getD a0 (Int.toNat 1) 0)) - 128))))), 2) else none) else (((if (if (decide ((ofB (List.getD a0 (Int.toNat 0) 0)) ≥ 224)) = true then (decide ((ofB (List.getD a0 (Int.toNat 0) 0)) ≤ 239)) else false) = true then (((if (decide ((ofB (List.getD a0 (Int.toNat 0) 0)) = 224)) = true then some (160) else some (128)) : Option Int).bind fun x23 => (((if (decide ((ofB (List.getD a0 (Int.toNat 0) 0)) = 237)) = true then some (159) else some (191)) : Option Int).bind fun x29 => ((((rickyardref04_follows.f fu a0 1 x23 x29 : Option Bool).bind fun t37 => (if t37 = true then ((rickyardref04_follows.f fu a0 2 128 191 : Option Bool).bind fun t42 => some (t42)) else some (false))) : Option Bool).bind fun x35 => (if x35 = true then (if (1 : Int) < (List.length a0 : Int) then (if (2 : Int) < (List.length a0 : Int) then some (Sum.inl ((IntKind.i64.wrap ((IntKind.i64.wrap ((IntKind.i64.wrap ((IntKind.i64.wrap (IntKind.u8.wrap ((ofB (List.getD a0 (Int.toNat 0) 0)) - 224))) * 4096)) + (IntKind.i64.wrap ((IntKind.i64.wrap (IntKind.u8.wrap ((ofB (List.getD a0 (Int.toNat 1) 0)) - 128))) * 64)))) + (IntKind.i64.wrap (IntKind.u8.wrap ((ofB (List.getD a0 (Int.toNat 2) 0)) - 128))))), 3)) else none) else none) else some (Sum.inr ()))))) else (((if (if (decide ((ofB (List.getD a0 (Int.toNat 0) 0)) ≥ 240)) = true then (decide ((ofB (List.getD a0 (Int.toNat 0) 0)) ≤ 244)) else false) = true then (((if (decide ((ofB (List.getD a0 (Int.toNat 0) 0)) = 240)) = true then some (144) else some (128)) : Option Int).bind fun x62 => (((if (decide ((ofB (List.getD a0 (Int.toNat 0) 0)) = 244)) = true then some (143) else some (191)) : Option Int).bind fun x68 => ((((rickyardref04_follows.f fu a0 1 x62 x68 : Option Bool).bind fun t76 => (if t76 = true then ((rickyardref04_follows.f fu a0 2 128 191 : Option Bool).bind fun t81 => (if t81 = true then ((rickyardref04_follows.f fu a0 3 128 191 : Option Bool).bind fun t86 => some (t86)) else some (false))) else some (false))) : Option Bool).bind fun x74 => (if x74 = true then (if (1 : Int) < (List.length a0 : Int) then (if (2 : Int) < (List.length a0 : Int) then (if (3 : Int) < (List.length a0 : Int) then some (Sum.inl (Sum.inl ((IntKind.i64.wrap ((IntKind.i64.wrap ((IntKind.i64.wrap ((IntKind.i64.wrap ((IntKind.i64.wrap (IntKind.u8.wrap ((ofB (List.getD a0 (Int.toNat 0) 0)) - 240))) * 262144)) + (IntKind.i64.wrap ((IntKind.i64.wrap (IntKind.u8.wrap ((ofB (List.getD a0 (Int.toNat 1) 0)) - 128))) * 4096)))) + (IntKind.i64.wrap ((IntKind.i64.wrap (IntKind.u8.wrap ((ofB (List.getD a0 (Int.toNat 2) 0)) - 128))) * 64)))) + (IntKind.i64.wrap (IntKind.u8.wrap ((ofB (List.getD a0 (Int.toNat 3) 0)) - 128))))), 4))) else none) else none) else none) else some (Sum.inr ()))))) else some (Sum.inr ())) : Option (Sum (Sum (Int × Int) Unit) Unit)).bind fun x57 => match x57 with | Sum.inl p => some p | Sum.inr x60 => some (Sum.inr ()))) : Option (Sum (Int × Int) Unit)).bind fun x18 => match x18 with | Sum.inl p => some p | Sum.inr x21 => some (65533, 1))))) else none)
set_option maxRecDepth 100000 in
set_option maxHeartbeats 400000 in
theorem rickyardref04_First.ok (fu : Nat) (w : World) (a0 : List UInt8) (r : Int × Int) (h : rickyardref04_First.f fu a0 = some r) :
    Calls Try.prog 147 (([sv a0] : List Value).toArray) w (fun e w' => ∃ v, e = .returned v ∧ v = .tuple #[.int .i64 r.1, .int .i64 r.2] ∧ Gr w w') := by
  unfold rickyardref04_First.f at h
  have fB : Gr w w := Fr.refl _ _
  refine calls_cw Try.func147 rfl Try.ntmps147 rfl ?_
  refine cw_seq ?_
  refine cw_region ?_
  refine ol_val (v := .int .i64 0) (by exact xr_assign rfl rfl) rfl rfl rfl ?_
  refine ol_val (v := .int .i64 0) (by exact xr_assign rfl rfl) rfl rfl rfl ?_
  refine ol_nil ?_
  refine cw_seq ?_
  refine cw_region ?_
  refine ol_val (v := sv a0) (by exact xr_move rfl rfl) rfl rfl rfl ?_
  obtain ⟨g1, h⟩ := gs h
  refine ol_val (v := .int .u8 (ofB (List.getD a0 (Int.toNat 0) 0))) (by exact xr_indexStr rfl Try.underlying9 rfl rfl (by decide) g1) rfl rfl rfl ?_
  refine ol_val (v := .int .u8 (ofB (List.getD a0 (Int.toNat 0) 0))) (by exact xr_assign rfl rfl) rfl rfl rfl ?_
  refine ol_nil ?_
  refine cw_seq ?_
  refine cw_region ?_
  refine ol_val (v := .int .u8 128) (by exact xr_assign rfl rfl) rfl rfl rfl ?_
  refine ol_val (v := .int .u8 191) (by exact xr_assign rfl rfl) rfl rfl rfl ?_
  refine ol_nil ?_
  refine cw_seq ?_
  refine cw_block ?_
  refine cw_seq ?_
  refine cw_region ?_
  refine ol_val (v := .int .u8 (ofB (List.getD a0 (Int.toNat 0) 0))) (by exact xr_move rfl rfl) rfl rfl rfl ?_
  refine ol_val (v := .bool (decide ((ofB (List.getD a0 (Int.toNat 0) 0)) < 128))) (by exact xr_lss rfl rfl rfl) rfl rfl rfl ?_
  refine ol_val (v := .bool (decide ((ofB (List.getD a0 (Int.toNat 0) 0)) < 128))) (by exact xr_assign rfl rfl) rfl rfl rfl ?_
  refine ol_nil ?_
  rcases is h with ⟨c2, h⟩ | ⟨c2, h⟩
  · refine cw_condT rfl c2 ?_
    refine cw_seq ?_
    refine cw_region ?_
    refine ol_val (v := .int .u8 (ofB (List.getD a0 (Int.toNat 0) 0))) (by exact xr_move rfl rfl) rfl rfl rfl ?_
    refine ol_val (v := .int .i64 (IntKind.i64.wrap (ofB (List.getD a0 (Int.toNat 0) 0)))) (by exact xr_conv rfl Try.underlying5 Try.underlying3 rfl) rfl rfl rfl ?_
    refine ol_val (v := .int .i64 (IntKind.i64.wrap (ofB (List.getD a0 (Int.toNat 0) 0)))) (by exact xr_assign rfl rfl) rfl rfl rfl ?_
    refine ol_val (v := .int .i64 1) (by exact xr_assign rfl rfl) rfl rfl rfl ?_
    refine ol_nil ?_
    refine cw_ret ?_
    repeat (first | with_reducible refine thn_r ?_ | with_reducible refine blk_r ?_)
    obtain rfl := Option.some.inj h
    refine fin_ret2 Try.results147 rfl rfl ?_
    exact ⟨_, rfl, rfl, fB⟩
  · refine cw_condF rfl c2 ?_
    refine cw_seq ?_
    obtain ⟨x3, j4, h⟩ := bs h
    refine cw_mid (fun ρ' w' => ρ' 0 = sv a0 ∧ ρ' 4 = .int .u8 (ofB (List.getD a0 (Int.toNat 0) 0)) ∧ ρ' 5 = .int .u8 128 ∧ ρ' 6 = .int .u8 191 ∧ ρ' 14 = .bool x3 ∧ Gr w w') ?_ ?_
    · skip
      refine cw_region ?_
      refine ol_val (v := .int .u8 (ofB (List.getD a0 (Int.toNat 0) 0))) (by exact xr_move rfl rfl) rfl rfl rfl ?_
      refine ol_val (v := .bool (decide ((ofB (List.getD a0 (Int.toNat 0) 0)) ≥ 194))) (by exact xr_geq rfl rfl rfl) rfl rfl rfl ?_
      refine ol_val (v := .bool (decide ((ofB (List.getD a0 (Int.toNat 0) 0)) ≥ 194))) (by exact xr_move rfl rfl) rfl rfl rfl ?_
      rcases is j4 with ⟨c5, j4⟩ | ⟨c5, j4⟩
      · skip
        refine ol_gval (v := .int .u8 (ofB (List.getD a0 (Int.toNat 0) 0))) (by exact xr_move rfl rfl) rfl rfl rfl rfl rfl c5 ?_
        refine ol_gval (v := .bool (decide ((ofB (List.getD a0 (Int.toNat 0) 0)) ≤ 223))) (by exact xr_leq rfl rfl rfl) rfl rfl rfl rfl rfl c5 ?_
        refine ol_val (v := .bool (decide ((ofB (List.getD a0 (Int.toNat 0) 0)) ≤ 223))) (by exact xr_pickT rfl rfl c5 rfl) rfl rfl rfl ?_
        refine ol_val (v := .bool (decide ((ofB (List.getD a0 (Int.toNat 0) 0)) ≤ 223))) (by exact xr_move rfl rfl) rfl rfl rfl ?_
        rcases is j4 with ⟨c6, j4⟩ | ⟨c6, j4⟩
        · skip
          refine ol_gval (v := sv a0) (by exact xr_move rfl rfl) rfl rfl rfl rfl rfl c6 ?_
          refine ol_gval (v := .int .u8 128) (by exact xr_move rfl rfl) rfl rfl rfl rfl rfl c6 ?_
          refine ol_gval (v := .int .u8 191) (by exact xr_move rfl rfl) rfl rfl rfl rfl rfl c6 ?_
          obtain ⟨t7, k8, j4⟩ := bs j4
          refine ol_gop (by exact opv_call rfl cal149 (ac rfl (ac rfl (ac rfl (ac rfl an)))) (rickyardref04_follows.ok fu _ a0 1 128 191 _ k8)) rfl rfl rfl rfl rfl c6 ?_
          rintro _ w10 ⟨rfl, q9⟩
          have fB := fB.gr q9
          refine ol_val (v := .bool t7) (by exact xr_pickT rfl rfl c6 rfl) rfl rfl rfl ?_
          refine ol_val (v := .bool t7) (by exact xr_assign rfl rfl) rfl rfl rfl ?_
          refine ol_nil ?_
          obtain rfl := Option.some.inj j4
          refine thn_i ?_
          exact ⟨rfl, rfl, rfl, rfl, rfl, q9⟩
        · skip
          refine ol_gskip rfl rfl rfl rfl rfl c6 ?_
          refine ol_gskip rfl rfl rfl rfl rfl c6 ?_
          refine ol_gskip rfl rfl rfl rfl rfl c6 ?_
          refine ol_gskip rfl rfl rfl rfl rfl c6 ?_
          refine ol_val (v := .bool false) (by exact xr_pickF rfl rfl c6 rfl) rfl rfl rfl ?_
          refine ol_val (v := .bool false) (by exact xr_assign rfl rfl) rfl rfl rfl ?_
          refine ol_nil ?_
          obtain rfl := Option.some.inj j4
          refine thn_i ?_
          exact ⟨rfl, rfl, rfl, rfl, rfl, Fr.refl _ _⟩
      · skip
        refine ol_gskip rfl rfl rfl rfl rfl c5 ?_
        refine ol_gskip rfl rfl rfl rfl rfl c5 ?_
        refine ol_val (v := .bool false) (by exact xr_pickF rfl rfl c5 rfl) rfl rfl rfl ?_
        refine ol_val (v := .bool false) (by exact xr_move rfl rfl) rfl rfl rfl ?_
        refine ol_gskip rfl rfl rfl rfl rfl rfl ?_
        refine ol_gskip rfl rfl rfl rfl rfl rfl ?_
        refine ol_gskip rfl rfl rfl rfl rfl rfl ?_
        refine ol_gskip rfl rfl rfl rfl rfl rfl ?_
        refine ol_val (v := .bool false) (by exact xr_pickF rfl rfl rfl rfl) rfl rfl rfl ?_
        refine ol_val (v := .bool false) (by exact xr_assign rfl rfl) rfl rfl rfl ?_
        refine ol_nil ?_
        obtain rfl := Option.some.inj j4
        refine thn_i ?_
        exact ⟨rfl, rfl, rfl, rfl, rfl, Fr.refl _ _⟩
    · skip
      rintro ρ11 w12 ⟨e0, e4, e5, e6, e14, q13⟩
      have fB := fB.gr q13
      rcases is h with ⟨c14, h⟩ | ⟨c14, h⟩
      · refine cw_condT e14 c14 ?_
        refine cw_seq ?_
        refine cw_region ?_
        refine ol_val (v := .int .u8 (ofB (List.getD a0 (Int.toNat 0) 0))) (by exact xr_move rfl e4) rfl rfl rfl ?_
        refine ol_val (v := .int .u8 (IntKind.u8.wrap ((ofB (List.getD a0 (Int.toNat 0) 0)) - 192))) (by exact xr_sub rfl rfl rfl) rfl rfl rfl ?_
        refine ol_val (v := .int .i64 (IntKind.i64.wrap (IntKind.u8.wrap ((ofB (List.getD a0 (Int.toNat 0) 0)) - 192)))) (by exact xr_conv rfl Try.underlying5 Try.underlying3 rfl) rfl rfl rfl ?_
        refine ol_val (v := .int .i64 (IntKind.i64.wrap ((IntKind.i64.wrap (IntKind.u8.wrap ((ofB (List.getD a0 (Int.toNat 0) 0)) - 192))) * 64))) (by exact xr_mul rfl rfl rfl) rfl rfl rfl ?_
        refine ol_val (v := sv a0) (by exact xr_move rfl e0) rfl rfl rfl ?_
        obtain ⟨g15, h⟩ := gs h
        refine ol_val (v := .int .u8 (ofB (List.getD a0 (Int.toNat 1) 0))) (by exact xr_indexStr rfl Try.underlying9 rfl rfl (by decide) g15) rfl rfl rfl ?_
        refine ol_val (v := .int .u8 (IntKind.u8.wrap ((ofB (List.getD a0 (Int.toNat 1) 0)) - 128))) (by exact xr_sub rfl rfl rfl) rfl rfl rfl ?_
        refine ol_val (v := .int .i64 (IntKind.i64.wrap (IntKind.u8.wrap ((ofB (List.getD a0 (Int.toNat 1) 0)) - 128)))) (by exact xr_conv rfl Try.underlying5 Try.underlying3 rfl) rfl rfl rfl ?_
        refine ol_val (v := .int .i64 (IntKind.i64.wrap ((IntKind.i64.wrap ((IntKind.i64.wrap (IntKind.u8.wrap ((ofB (List.getD a0 (Int.toNat 0) 0)) - 192))) * 64)) + (IntKind.i64.wrap (IntKind.u8.wrap ((ofB (List.getD a0 (Int.toNat 1) 0)) - 128)))))) (by exact xr_add rfl rfl rfl) rfl rfl rfl ?_
        refine ol_val (v := .int .i64 (IntKind.i64.wrap ((IntKind.i64.wrap ((IntKind.i64.wrap (IntKind.u8.wrap ((ofB (List.getD a0 (Int.toNat 0) 0)) - 192))) * 64)) + (IntKind.i64.wrap (IntKind.u8.wrap ((ofB (List.getD a0 (Int.toNat 1) 0)) - 128)))))) (by exact xr_assign rfl rfl) rfl rfl rfl ?_
        refine ol_val (v := .int .i64 2) (by exact xr_assign rfl rfl) rfl rfl rfl ?_
        refine ol_nil ?_
        refine cw_ret ?_
        repeat (first | with_reducible refine thn_r ?_ | with_reducible refine blk_r ?_)
        obtain rfl := Option.some.inj h
        refine fin_ret2 Try.results147 rfl rfl ?_
        exact ⟨_, rfl, rfl, fB⟩
      · refine cw_condF e14 c14 ?_
        refine cw_seq ?_
        refine cw_mid (fun ρ' w' => ρ' 0 = sv a0 ∧ ρ' 4 = .int .u8 (ofB (List.getD a0 (Int.toNat 0) 0)) ∧ ρ' 5 = .int .u8 128 ∧ ρ' 6 = .int .u8 191 ∧ ρ' 36 = .bool (if (decide ((ofB (List.getD a0 (Int.toNat 0) 0)) ≥ 224)) = true then (decide ((ofB (List.getD a0 (Int.toNat 0) 0)) ≤ 239)) else false) ∧ w12 = w') ?_ ?_
        · skip
          refine cw_region ?_
          refine ol_val (v := .int .u8 (ofB (List.getD a0 (Int.toNat 0) 0))) (by exact xr_move rfl e4) rfl rfl rfl ?_
          refine ol_val (v := .bool (decide ((ofB (List.getD a0 (Int.toNat 0) 0)) ≥ 224))) (by exact xr_geq rfl rfl rfl) rfl rfl rfl ?_
          refine ol_val (v := .bool (decide ((ofB (List.getD a0 (Int.toNat 0) 0)) ≥ 224))) (by exact xr_move rfl rfl) rfl rfl rfl ?_
          rcases bt (decide ((ofB (List.getD a0 (Int.toNat 0) 0)) ≥ 224)) with c16 | c16
          · skip
            refine ol_gval (v := .int .u8 (ofB (List.getD a0 (Int.toNat 0) 0))) (by exact xr_move rfl e4) rfl rfl rfl rfl rfl c16 ?_
            refine ol_gval (v := .bool (decide ((ofB (List.getD a0 (Int.toNat 0) 0)) ≤ 239))) (by exact xr_leq rfl rfl rfl) rfl rfl rfl rfl rfl c16 ?_
            refine ol_val (v := .bool (decide ((ofB (List.getD a0 (Int.toNat 0) 0)) ≤ 239))) (by exact xr_pickT rfl rfl c16 rfl) rfl rfl rfl ?_
            refine ol_val (v := .bool (decide ((ofB (List.getD a0 (Int.toNat 0) 0)) ≤ 239))) (by exact xr_assign rfl rfl) rfl rfl rfl ?_
            refine ol_nil ?_
            refine thn_i ?_
            exact ⟨e0, e4, e5, e6, (rfl).trans (congrArg (fun z => (.bool z : Value)) (show (decide ((ofB (List.getD a0 (Int.toNat 0) 0)) ≤ 239)) = (if (decide ((ofB (List.getD a0 (Int.toNat 0) 0)) ≥ 224)) = true then (decide ((ofB (List.getD a0 (Int.toNat 0) 0)) ≤ 239)) else false) from by rw [ite_t c16])), rfl⟩
          · skip
            refine ol_gskip rfl rfl rfl rfl rfl c16 ?_
            refine ol_gskip rfl rfl rfl rfl rfl c16 ?_
            refine ol_val (v := .bool false) (by exact xr_pickF rfl rfl c16 rfl) rfl rfl rfl ?_
            refine ol_val (v := .bool false) (by exact xr_assign rfl rfl) rfl rfl rfl ?_
            refine ol_nil ?_
            refine thn_i ?_
            exact ⟨e0, e4, e5, e6, (rfl).trans (congrArg (fun z => (.bool z : Value)) (show false = (if (decide ((ofB (List.getD a0 (Int.toNat 0) 0)) ≥ 224)) = true then (decide ((ofB (List.getD a0 (Int.toNat 0) 0)) ≤ 239)) else false) from by rw [ite_f c16])), rfl⟩
        · skip
          rintro ρ17 _ ⟨e0, e4, e5, e6, e36, rfl⟩
          obtain ⟨x18, j19, h20⟩ := bs h
          refine cw_mid (fun ρ' w' => ∃ x21, x18 = Sum.inr x21 ∧ Gr w w') ?_ ?_
          · have h := j19
            rcases is h with ⟨c22, h⟩ | ⟨c22, h⟩
            · refine cw_condT e36 c22 ?_
              refine cw_seq ?_
              refine cw_seq ?_
              refine cw_region ?_
              refine ol_val (v := .int .u8 (ofB (List.getD a0 (Int.toNat 0) 0))) (by exact xr_move rfl e4) rfl rfl rfl ?_
              refine ol_val (v := .bool (decide ((ofB (List.getD a0 (Int.toNat 0) 0)) = 224))) (by exact xr_eqI rfl Try.underlying5 rfl rfl rfl) rfl rfl rfl ?_
              refine ol_nil ?_
              obtain ⟨x23, j24, h25⟩ := bs h
              refine cw_mid (fun ρ' w' => ρ' 0 = sv a0 ∧ ρ' 4 = .int .u8 (ofB (List.getD a0 (Int.toNat 0) 0)) ∧ ρ' 5 = .int .u8 x23 ∧ ρ' 6 = .int .u8 191 ∧ Gr w w') ?_ ?_
              · have h := j24
                rcases is h with ⟨c26, h⟩ | ⟨c26, h⟩
                · refine cw_condT rfl c26 ?_
                  refine cw_region ?_
                  refine ol_val (v := .int .u8 160) (by exact xr_assign rfl rfl) rfl rfl rfl ?_
                  refine ol_nil ?_
                  obtain rfl := Option.some.inj h
                  refine thn_i ?_
                  exact ⟨e0, e4, rfl, e6, fB⟩
                · refine cw_condF rfl c26 ?_
                  refine cw_skip ?_
                  obtain rfl := Option.some.inj h
                  refine thn_i ?_
                  exact ⟨e0, e4, e5, e6, fB⟩
              · rintro ρ27 w28 ⟨e0, e4, e5, e6, fB⟩
                have h := h25
                refine cw_seq ?_
                refine cw_seq ?_
                refine cw_region ?_
                refine ol_val (v := .int .u8 (ofB (List.getD a0 (Int.toNat 0) 0))) (by exact xr_move rfl e4) rfl rfl rfl ?_
                refine ol_val (v := .bool (decide ((ofB (List.getD a0 (Int.toNat 0) 0)) = 237))) (by exact xr_eqI rfl Try.underlying5 rfl rfl rfl) rfl rfl rfl ?_
                refine ol_nil ?_
                obtain ⟨x29, j30, h31⟩ := bs h
                refine cw_mid (fun ρ' w' => ρ' 0 = sv a0 ∧ ρ' 4 = .int .u8 (ofB (List.getD a0 (Int.toNat 0) 0)) ∧ ρ' 5 = .int .u8 x23 ∧ ρ' 6 = .int .u8 x29 ∧ Gr w w') ?_ ?_
                · have h := j30
                  rcases is h with ⟨c32, h⟩ | ⟨c32, h⟩
                  · refine cw_condT rfl c32 ?_
                    refine cw_region ?_
                    refine ol_val (v := .int .u8 159) (by exact xr_assign rfl rfl) rfl rfl rfl ?_
                    refine ol_nil ?_
                    obtain rfl := Option.some.inj h
                    refine thn_i ?_
                    exact ⟨e0, e4, e5, rfl, fB⟩
                  · refine cw_condF rfl c32 ?_
                    refine cw_skip ?_
                    obtain rfl := Option.some.inj h
                    refine thn_i ?_
                    exact ⟨e0, e4, e5, e6, fB⟩
                · rintro ρ33 w34 ⟨e0, e4, e5, e6, fB⟩
                  have h := h31
                  refine cw_seq ?_
                  obtain ⟨x35, j36, h⟩ := bs h
                  refine cw_mid (fun ρ' w' => ρ' 0 = sv a0 ∧ ρ' 4 = .int .u8 (ofB (List.getD a0 (Int.toNat 0) 0)) ∧ ρ' 54 = .bool x35 ∧ Gr w34 w') ?_ ?_
                  · skip
                    refine cw_region ?_
                    refine ol_val (v := sv a0) (by exact xr_move rfl e0) rfl rfl rfl ?_
                    refine ol_val (v := .int .u8 x23) (by exact xr_move rfl e5) rfl rfl rfl ?_
                    refine ol_val (v := .int .u8 x29) (by exact xr_move rfl e6) rfl rfl rfl ?_
                    obtain ⟨t37, k38, j36⟩ := bs j36
                    refine ol_op (by exact opv_call rfl cal149 (ac rfl (ac rfl (ac rfl (ac rfl an)))) (rickyardref04_follows.ok fu _ a0 1 x23 x29 _ k38)) rfl rfl rfl ?_
                    rintro _ w40 ⟨rfl, q39⟩
                    have fB := fB.gr q39
                    refine ol_val (v := .bool t37) (by exact xr_move rfl rfl) rfl rfl rfl ?_
                    rcases is j36 with ⟨c41, j36⟩ | ⟨c41, j36⟩
                    · skip
                      refine ol_gval (v := sv a0) (by exact xr_move rfl e0) rfl rfl rfl rfl rfl c41 ?_
                      obtain ⟨t42, k43, j36⟩ := bs j36
                      refine ol_gop (by exact opv_call rfl cal149 (ac rfl (ac rfl (ac rfl (ac rfl an)))) (rickyardref04_follows.ok fu _ a0 2 128 191 _ k43)) rfl rfl rfl rfl rfl c41 ?_
                      rintro _ w45 ⟨rfl, q44⟩
                      have fB := fB.gr q44
                      refine ol_val (v := .bool t42) (by exact xr_pickT rfl rfl c41 rfl) rfl rfl rfl ?_
                      refine ol_nil ?_
                      obtain rfl := Option.some.inj j36
                      refine thn_i ?_
                      exact ⟨e0, e4, rfl, (q39.gr q44)⟩
                    · skip
                      refine ol_gskip rfl rfl rfl rfl rfl c41 ?_
                      refine ol_gskip rfl rfl rfl rfl rfl c41 ?_
                      refine ol_val (v := .bool false) (by exact xr_pickF rfl rfl c41 rfl) rfl rfl rfl ?_
                      refine ol_nil ?_
                      obtain rfl := Option.some.inj j36
                      refine thn_i ?_
                      exact ⟨e0, e4, rfl, q39⟩
                  · skip
                    rintro ρ46 w47 ⟨e0, e4, e54, q48⟩
                    have fB := fB.gr q48
                    rcases is h with ⟨c49, h⟩ | ⟨c49, h⟩
                    · refine cw_condT e54 c49 ?_
                      refine cw_seq ?_
                      obtain ⟨g50, h⟩ := gs h
                      obtain ⟨g51, h⟩ := gs h
                      refine cw_drawL 14 [fun vz wz => vz = (.int .u8 (ofB (List.getD a0 (Int.toNat 0) 0)) : Value), fun vz wz => vz = (.int .u8 (IntKind.u8.wrap ((ofB (List.getD a0 (Int.toNat 0) 0)) - 224)) : Value), fun vz wz => vz = (.int .i64 (IntKind.i64.wrap (IntKind.u8.wrap ((ofB (List.getD a0 (Int.toNat 0) 0)) - 224))) : Value), fun vz wz => vz = (.int .i64 (IntKind.i64.wrap ((IntKind.i64.wrap (IntKind.u8.wrap ((ofB (List.getD a0 (Int.toNat 0) 0)) - 224))) * 4096)) : Value), fun vz wz => vz = (sv a0 : Value), fun vz wz => vz = (.int .u8 (ofB (List.getD a0 (Int.toNat 1) 0)) : Value), fun vz wz => vz = (.int .u8 (IntKind.u8.wrap ((ofB (List.getD a0 (Int.toNat 1) 0)) - 128)) : Value), fun vz wz => vz = (.int .i64 (IntKind.i64.wrap (IntKind.u8.wrap ((ofB (List.getD a0 (Int.toNat 1) 0)) - 128))) : Value), fun vz wz => vz = (.int .i64 (IntKind.i64.wrap ((IntKind.i64.wrap (IntKind.u8.wrap ((ofB (List.getD a0 (Int.toNat 1) 0)) - 128))) * 64)) : Value), fun vz wz => vz = (.int .i64 (IntKind.i64.wrap ((IntKind.i64.wrap ((IntKind.i64.wrap (IntKind.u8.wrap ((ofB (List.getD a0 (Int.toNat 0) 0)) - 224))) * 4096)) + (IntKind.i64.wrap ((IntKind.i64.wrap (IntKind.u8.wrap ((ofB (List.getD a0 (Int.toNat 1) 0)) - 128))) * 64)))) : Value), fun vz wz => vz = (sv a0 : Value), fun vz wz => vz = (.int .u8 (ofB (List.getD a0 (Int.toNat 2) 0)) : Value), fun vz wz => vz = (.int .u8 (IntKind.u8.wrap ((ofB (List.getD a0 (Int.toNat 2) 0)) - 128)) : Value), fun vz wz => vz = (.int .i64 (IntKind.i64.wrap (IntKind.u8.wrap ((ofB (List.getD a0 (Int.toNat 2) 0)) - 128))) : Value)] mo rfl ⟨fun _ _ _ h _ => h, fun _ _ _ h _ => h, fun _ _ _ h _ => h, fun _ _ _ h _ => h, fun _ _ _ h _ => h, fun _ _ _ h _ => h, fun _ _ _ h _ => h, fun _ _ _ h _ => h, fun _ _ _ h _ => h, fun _ _ _ h _ => h, fun _ _ _ h _ => h, fun _ _ _ h _ => h, fun _ _ _ h _ => h, fun _ _ _ h _ => h, trivial⟩ ?_ ?_
                      · refine ⟨?_, ?_, ?_, ?_, ?_, ?_, ?_, ?_, ?_, ?_, ?_, ?_, ?_, ?_, trivial⟩
                        · intro ρz wz hz hk hd
                          exact sk_val (v := .int .u8 (ofB (List.getD a0 (Int.toNat 0) 0))) (by exact xr_move rfl ((hk 4 rfl).trans e4)) rfl rfl
                        · intro ρz wz hz hk hd
                          have d55 := hd 0 rfl 55 rfl
                          exact sk_val (by exact xr_sub rfl d55 rfl) rfl rfl
                        · intro ρz wz hz hk hd
                          have d56 := hd 1 rfl 56 rfl
                          exact sk_val (by exact xr_conv rfl Try.underlying5 Try.underlying3 d56) rfl rfl
                        · intro ρz wz hz hk hd
                          have d57 := hd 2 rfl 57 rfl
                          exact sk_val (by exact xr_mul rfl d57 rfl) rfl rfl
                        · intro ρz wz hz hk hd
                          exact sk_val (v := sv a0) (by exact xr_move rfl ((hk 0 rfl).trans e0)) rfl rfl
                        · intro ρz wz hz hk hd
                          have d59 := hd 4 rfl 59 rfl
                          exact sk_val (v := .int .u8 (ofB (List.getD a0 (Int.toNat 1) 0))) (by exact xr_indexStr rfl Try.underlying9 d59 rfl (by decide) g50) rfl rfl
                        · intro ρz wz hz hk hd
                          have d60 := hd 5 rfl 60 rfl
                          exact sk_val (by exact xr_sub rfl d60 rfl) rfl rfl
                        · intro ρz wz hz hk hd
                          have d61 := hd 6 rfl 61 rfl
                          exact sk_val (by exact xr_conv rfl Try.underlying5 Try.underlying3 d61) rfl rfl
                        · intro ρz wz hz hk hd
                          have d62 := hd 7 rfl 62 rfl
                          exact sk_val (by exact xr_mul rfl d62 rfl) rfl rfl
                        · intro ρz wz hz hk hd
                          have d58 := hd 3 rfl 58 rfl
                          have d63 := hd 8 rfl 63 rfl
                          exact sk_val (by exact xr_add rfl d58 d63) rfl rfl
                        · intro ρz wz hz hk hd
                          exact sk_val (v := sv a0) (by exact xr_move rfl ((hk 0 rfl).trans e0)) rfl rfl
                        · intro ρz wz hz hk hd
                          have d65 := hd 10 rfl 65 rfl
                          exact sk_val (v := .int .u8 (ofB (List.getD a0 (Int.toNat 2) 0))) (by exact xr_indexStr rfl Try.underlying9 d65 rfl (by decide) g51) rfl rfl
                        · intro ρz wz hz hk hd
                          have d66 := hd 11 rfl 66 rfl
                          exact sk_val (by exact xr_sub rfl d66 rfl) rfl rfl
                        · intro ρz wz hz hk hd
                          have d67 := hd 12 rfl 67 rfl
                          exact sk_val (by exact xr_conv rfl Try.underlying5 Try.underlying3 d67) rfl rfl
                      · intro ρ52 w53 q54 hk hd
                        have e64 := hd 9 rfl 64 rfl
                        have e68 := hd 13 rfl 68 rfl
                        have fB := fB.gr q54
                        refine ol_val (v := .int .i64 (IntKind.i64.wrap ((IntKind.i64.wrap ((IntKind.i64.wrap ((IntKind.i64.wrap (IntKind.u8.wrap ((ofB (List.getD a0 (Int.toNat 0) 0)) - 224))) * 4096)) + (IntKind.i64.wrap ((IntKind.i64.wrap (IntKind.u8.wrap ((ofB (List.getD a0 (Int.toNat 1) 0)) - 128))) * 64)))) + (IntKind.i64.wrap (IntKind.u8.wrap ((ofB (List.getD a0 (Int.toNat 2) 0)) - 128)))))) (by exact xr_add rfl e64 e68) rfl rfl rfl ?_
                        refine ol_val (v := .int .i64 (IntKind.i64.wrap ((IntKind.i64.wrap ((IntKind.i64.wrap ((IntKind.i64.wrap (IntKind.u8.wrap ((ofB (List.getD a0 (Int.toNat 0) 0)) - 224))) * 4096)) + (IntKind.i64.wrap ((IntKind.i64.wrap (IntKind.u8.wrap ((ofB (List.getD a0 (Int.toNat 1) 0)) - 128))) * 64)))) + (IntKind.i64.wrap (IntKind.u8.wrap ((ofB (List.getD a0 (Int.toNat 2) 0)) - 128)))))) (by exact xr_assign rfl rfl) rfl rfl rfl ?_
                        refine ol_val (v := .int .i64 3) (by exact xr_assign rfl rfl) rfl rfl rfl ?_
                        refine ol_nil ?_
                        refine cw_ret ?_
                        repeat (first | with_reducible refine thn_r ?_ | with_reducible refine blk_r ?_)
                        obtain rfl := Option.some.inj h
                        have h := h20
                        obtain rfl := Option.some.inj h
                        refine fin_ret2 Try.results147 rfl rfl ?_
                        exact ⟨_, rfl, rfl, fB⟩
                    · refine cw_condF e54 c49 ?_
                      refine cw_skip ?_
                      obtain rfl := Option.some.inj h
                      refine thn_i ?_
                      exact ⟨_, rfl, fB⟩
            · refine cw_condF e36 c22 ?_
              refine cw_seq ?_
              refine cw_mid (fun ρ' w' => ρ' 0 = sv a0 ∧ ρ' 4 = .int .u8 (ofB (List.getD a0 (Int.toNat 0) 0)) ∧ ρ' 5 = .int .u8 128 ∧ ρ' 6 = .int .u8 191 ∧ ρ' 70 = .bool (if (decide ((ofB (List.getD a0 (Int.toNat 0) 0)) ≥ 240)) = true then (decide ((ofB (List.getD a0 (Int.toNat 0) 0)) ≤ 244)) else false) ∧ w12 = w') ?_ ?_
              · skip
                refine cw_region ?_
                refine ol_val (v := .int .u8 (ofB (List.getD a0 (Int.toNat 0) 0))) (by exact xr_move rfl e4) rfl rfl rfl ?_
                refine ol_val (v := .bool (decide ((ofB (List.getD a0 (Int.toNat 0) 0)) ≥ 240))) (by exact xr_geq rfl rfl rfl) rfl rfl rfl ?_
                refine ol_val (v := .bool (decide ((ofB (List.getD a0 (Int.toNat 0) 0)) ≥ 240))) (by exact xr_move rfl rfl) rfl rfl rfl ?_
                rcases bt (decide ((ofB (List.getD a0 (Int.toNat 0) 0)) ≥ 240)) with c55 | c55
                · skip
                  refine ol_gval (v := .int .u8 (ofB (List.getD a0 (Int.toNat 0) 0))) (by exact xr_move rfl e4) rfl rfl rfl rfl rfl c55 ?_
                  refine ol_gval (v := .bool (decide ((ofB (List.getD a0 (Int.toNat 0) 0)) ≤ 244))) (by exact xr_leq rfl rfl rfl) rfl rfl rfl rfl rfl c55 ?_
                  refine ol_val (v := .bool (decide ((ofB (List.getD a0 (Int.toNat 0) 0)) ≤ 244))) (by exact xr_pickT rfl rfl c55 rfl) rfl rfl rfl ?_
                  refine ol_val (v := .bool (decide ((ofB (List.getD a0 (Int.toNat 0) 0)) ≤ 244))) (by exact xr_assign rfl rfl) rfl rfl rfl ?_
                  refine ol_nil ?_
                  refine thn_i ?_
                  exact ⟨e0, e4, e5, e6, (rfl).trans (congrArg (fun z => (.bool z : Value)) (show (decide ((ofB (List.getD a0 (Int.toNat 0) 0)) ≤ 244)) = (if (decide ((ofB (List.getD a0 (Int.toNat 0) 0)) ≥ 240)) = true then (decide ((ofB (List.getD a0 (Int.toNat 0) 0)) ≤ 244)) else false) from by rw [ite_t c55])), rfl⟩
                · skip
                  refine ol_gskip rfl rfl rfl rfl rfl c55 ?_
                  refine ol_gskip rfl rfl rfl rfl rfl c55 ?_
                  refine ol_val (v := .bool false) (by exact xr_pickF rfl rfl c55 rfl) rfl rfl rfl ?_
                  refine ol_val (v := .bool false) (by exact xr_assign rfl rfl) rfl rfl rfl ?_
                  refine ol_nil ?_
                  refine thn_i ?_
                  exact ⟨e0, e4, e5, e6, (rfl).trans (congrArg (fun z => (.bool z : Value)) (show false = (if (decide ((ofB (List.getD a0 (Int.toNat 0) 0)) ≥ 240)) = true then (decide ((ofB (List.getD a0 (Int.toNat 0) 0)) ≤ 244)) else false) from by rw [ite_f c55])), rfl⟩
              · skip
                rintro ρ56 _ ⟨e0, e4, e5, e6, e70, rfl⟩
                obtain ⟨x57, j58, h59⟩ := bs h
                refine cw_mid (fun ρ' w' => ∃ x60, x57 = Sum.inr x60 ∧ Gr w w') ?_ ?_
                · have h := j58
                  rcases is h with ⟨c61, h⟩ | ⟨c61, h⟩
                  · refine cw_condT e70 c61 ?_
                    refine cw_seq ?_
                    refine cw_seq ?_
                    refine cw_region ?_
                    refine ol_val (v := .int .u8 (ofB (List.getD a0 (Int.toNat 0) 0))) (by exact xr_move rfl e4) rfl rfl rfl ?_
                    refine ol_val (v := .bool (decide ((ofB (List.getD a0 (Int.toNat 0) 0)) = 240))) (by exact xr_eqI rfl Try.underlying5 rfl rfl rfl) rfl rfl rfl ?_
                    refine ol_nil ?_
                    obtain ⟨x62, j63, h64⟩ := bs h
                    refine cw_mid (fun ρ' w' => ρ' 0 = sv a0 ∧ ρ' 4 = .int .u8 (ofB (List.getD a0 (Int.toNat 0) 0)) ∧ ρ' 5 = .int .u8 x62 ∧ ρ' 6 = .int .u8 191 ∧ Gr w w') ?_ ?_
                    · have h := j63
                      rcases is h with ⟨c65, h⟩ | ⟨c65, h⟩
                      · refine cw_condT rfl c65 ?_
                        refine cw_region ?_
                        refine ol_val (v := .int .u8 144) (by exact xr_assign rfl rfl) rfl rfl rfl ?_
                        refine ol_nil ?_
                        obtain rfl := Option.some.inj h
                        refine thn_i ?_
                        exact ⟨e0, e4, rfl, e6, fB⟩
                      · refine cw_condF rfl c65 ?_
                        refine cw_skip ?_
                        obtain rfl := Option.some.inj h
                        refine thn_i ?_
                        exact ⟨e0, e4, e5, e6, fB⟩
                    · rintro ρ66 w67 ⟨e0, e4, e5, e6, fB⟩
                      have h := h64
                      refine cw_seq ?_
                      refine cw_seq ?_
                      refine cw_region ?_
                      refine ol_val (v := .int .u8 (ofB (List.getD a0 (Int.toNat 0) 0))) (by exact xr_move rfl e4) rfl rfl rfl ?_
                      refine ol_val (v := .bool (decide ((ofB (List.getD a0 (Int.toNat 0) 0)) = 244))) (by exact xr_eqI rfl Try.underlying5 rfl rfl rfl) rfl rfl rfl ?_
                      refine ol_nil ?_
                      obtain ⟨x68, j69, h70⟩ := bs h
                      refine cw_mid (fun ρ' w' => ρ' 0 = sv a0 ∧ ρ' 4 = .int .u8 (ofB (List.getD a0 (Int.toNat 0) 0)) ∧ ρ' 5 = .int .u8 x62 ∧ ρ' 6 = .int .u8 x68 ∧ Gr w w') ?_ ?_
                      · have h := j69
                        rcases is h with ⟨c71, h⟩ | ⟨c71, h⟩
                        · refine cw_condT rfl c71 ?_
                          refine cw_region ?_
                          refine ol_val (v := .int .u8 143) (by exact xr_assign rfl rfl) rfl rfl rfl ?_
                          refine ol_nil ?_
                          obtain rfl := Option.some.inj h
                          refine thn_i ?_
                          exact ⟨e0, e4, e5, rfl, fB⟩
                        · refine cw_condF rfl c71 ?_
                          refine cw_skip ?_
                          obtain rfl := Option.some.inj h
                          refine thn_i ?_
                          exact ⟨e0, e4, e5, e6, fB⟩
                      · rintro ρ72 w73 ⟨e0, e4, e5, e6, fB⟩
                        have h := h70
                        refine cw_seq ?_
                        obtain ⟨x74, j75, h⟩ := bs h
                        refine cw_mid (fun ρ' w' => ρ' 0 = sv a0 ∧ ρ' 4 = .int .u8 (ofB (List.getD a0 (Int.toNat 0) 0)) ∧ ρ' 92 = .bool x74 ∧ Gr w73 w') ?_ ?_
                        · skip
                          refine cw_region ?_
                          refine ol_val (v := sv a0) (by exact xr_move rfl e0) rfl rfl rfl ?_
                          refine ol_val (v := .int .u8 x62) (by exact xr_move rfl e5) rfl rfl rfl ?_
                          refine ol_val (v := .int .u8 x68) (by exact xr_move rfl e6) rfl rfl rfl ?_
                          obtain ⟨t76, k77, j75⟩ := bs j75
                          refine ol_op (by exact opv_call rfl cal149 (ac rfl (ac rfl (ac rfl (ac rfl an)))) (rickyardref04_follows.ok fu _ a0 1 x62 x68 _ k77)) rfl rfl rfl ?_
                          rintro _ w79 ⟨rfl, q78⟩
                          have fB := fB.gr q78
                          refine ol_val (v := .bool t76) (by exact xr_move rfl rfl) rfl rfl rfl ?_
                          rcases is j75 with ⟨c80, j75⟩ | ⟨c80, j75⟩
                          · skip
                            refine ol_gval (v := sv a0) (by exact xr_move rfl e0) rfl rfl rfl rfl rfl c80 ?_
                            obtain ⟨t81, k82, j75⟩ := bs j75
                            refine ol_gop (by exact opv_call rfl cal149 (ac rfl (ac rfl (ac rfl (ac rfl an)))) (rickyardref04_follows.ok fu _ a0 2 128 191 _ k82)) rfl rfl rfl rfl rfl c80 ?_
                            rintro _ w84 ⟨rfl, q83⟩
                            have fB := fB.gr q83
                            refine ol_val (v := .bool t81) (by exact xr_pickT rfl rfl c80 rfl) rfl rfl rfl ?_
                            refine ol_val (v := .bool t81) (by exact xr_move rfl rfl) rfl rfl rfl ?_
                            rcases is j75 with ⟨c85, j75⟩ | ⟨c85, j75⟩
                            · skip
                              refine ol_gval (v := sv a0) (by exact xr_move rfl e0) rfl rfl rfl rfl rfl c85 ?_
                              obtain ⟨t86, k87, j75⟩ := bs j75
                              refine ol_gop (by exact opv_call rfl cal149 (ac rfl (ac rfl (ac rfl (ac rfl an)))) (rickyardref04_follows.ok fu _ a0 3 128 191 _ k87)) rfl rfl rfl rfl rfl c85 ?_
                              rintro _ w89 ⟨rfl, q88⟩
                              have fB := fB.gr q88
                              refine ol_val (v := .bool t86) (by exact xr_pickT rfl rfl c85 rfl) rfl rfl rfl ?_
                              refine ol_nil ?_
                              obtain rfl := Option.some.inj j75
                              refine thn_i ?_
                              exact ⟨e0, e4, rfl, ((q78.gr q83).gr q88)⟩
                            · skip
                              refine ol_gskip rfl rfl rfl rfl rfl c85 ?_
                              refine ol_gskip rfl rfl rfl rfl rfl c85 ?_
                              refine ol_val (v := .bool false) (by exact xr_pickF rfl rfl c85 rfl) rfl rfl rfl ?_
                              refine ol_nil ?_
                              obtain rfl := Option.some.inj j75
                              refine thn_i ?_
                              exact ⟨e0, e4, rfl, (q78.gr q83)⟩
                          · skip
                            refine ol_gskip rfl rfl rfl rfl rfl c80 ?_
                            refine ol_gskip rfl rfl rfl rfl rfl c80 ?_
                            refine ol_val (v := .bool false) (by exact xr_pickF rfl rfl c80 rfl) rfl rfl rfl ?_
                            refine ol_val (v := .bool false) (by exact xr_move rfl rfl) rfl rfl rfl ?_
                            refine ol_gskip rfl rfl rfl rfl rfl rfl ?_
                            refine ol_gskip rfl rfl rfl rfl rfl rfl ?_
                            refine ol_val (v := .bool false) (by exact xr_pickF rfl rfl rfl rfl) rfl rfl rfl ?_
                            refine ol_nil ?_
                            obtain rfl := Option.some.inj j75
                            refine thn_i ?_
                            exact ⟨e0, e4, rfl, q78⟩
                        · skip
                          rintro ρ90 w91 ⟨e0, e4, e92, q92⟩
                          have fB := fB.gr q92
                          rcases is h with ⟨c93, h⟩ | ⟨c93, h⟩
                          · refine cw_condT e92 c93 ?_
                            refine cw_seq ?_
                            obtain ⟨g94, h⟩ := gs h
                            obtain ⟨g95, h⟩ := gs h
                            obtain ⟨g96, h⟩ := gs h
                            refine cw_drawL 20 [fun vz wz => vz = (.int .u8 (ofB (List.getD a0 (Int.toNat 0) 0)) : Value), fun vz wz => vz = (.int .u8 (IntKind.u8.wrap ((ofB (List.getD a0 (Int.toNat 0) 0)) - 240)) : Value), fun vz wz => vz = (.int .i64 (IntKind.i64.wrap (IntKind.u8.wrap ((ofB (List.getD a0 (Int.toNat 0) 0)) - 240))) : Value), fun vz wz => vz = (.int .i64 (IntKind.i64.wrap ((IntKind.i64.wrap (IntKind.u8.wrap ((ofB (List.getD a0 (Int.toNat 0) 0)) - 240))) * 262144)) : Value), fun vz wz => vz = (sv a0 : Value), fun vz wz => vz = (.int .u8 (ofB (List.getD a0 (Int.toNat 1) 0)) : Value), fun vz wz => vz = (.int .u8 (IntKind.u8.wrap ((ofB (List.getD a0 (Int.toNat 1) 0)) - 128)) : Value), fun vz wz => vz = (.int .i64 (IntKind.i64.wrap (IntKind.u8.wrap ((ofB (List.getD a0 (Int.toNat 1) 0)) - 128))) : Value), fun vz wz => vz = (.int .i64 (IntKind.i64.wrap ((IntKind.i64.wrap (IntKind.u8.wrap ((ofB (List.getD a0 (Int.toNat 1) 0)) - 128))) * 4096)) : Value), fun vz wz => vz = (.int .i64 (IntKind.i64.wrap ((IntKind.i64.wrap ((IntKind.i64.wrap (IntKind.u8.wrap ((ofB (List.getD a0 (Int.toNat 0) 0)) - 240))) * 262144)) + (IntKind.i64.wrap ((IntKind.i64.wrap (IntKind.u8.wrap ((ofB (List.getD a0 (Int.toNat 1) 0)) - 128))) * 4096)))) : Value), fun vz wz => vz = (sv a0 : Value), fun vz wz => vz = (.int .u8 (ofB (List.getD a0 (Int.toNat 2) 0)) : Value), fun vz wz => vz = (.int .u8 (IntKind.u8.wrap ((ofB (List.getD a0 (Int.toNat 2) 0)) - 128)) : Value), fun vz wz => vz = (.int .i64 (IntKind.i64.wrap (IntKind.u8.wrap ((ofB (List.getD a0 (Int.toNat 2) 0)) - 128))) : Value), fun vz wz => vz = (.int .i64 (IntKind.i64.wrap ((IntKind.i64.wrap (IntKind.u8.wrap ((ofB (List.getD a0 (Int.toNat 2) 0)) - 128))) * 64)) : Value), fun vz wz => vz = (.int .i64 (IntKind.i64.wrap ((IntKind.i64.wrap ((IntKind.i64.wrap ((IntKind.i64.wrap (IntKind.u8.wrap ((ofB (List.getD a0 (Int.toNat 0) 0)) - 240))) * 262144)) + (IntKind.i64.wrap ((IntKind.i64.wrap (IntKind.u8.wrap ((ofB (List.getD a0 (Int.toNat 1) 0)) - 128))) * 4096)))) + (IntKind.i64.wrap ((IntKind.i64.wrap (IntKind.u8.wrap ((ofB (List.getD a0 (Int.toNat 2) 0)) - 128))) * 64)))) : Value), fun vz wz => vz = (sv a0 : Value), fun vz wz => vz = (.int .u8 (ofB (List.getD a0 (Int.toNat 3) 0)) : Value), fun vz wz => vz = (.int .u8 (IntKind.u8.wrap ((ofB (List.getD a0 (Int.toNat 3) 0)) - 128)) : Value), fun vz wz => vz = (.int .i64 (IntKind.i64.wrap (IntKind.u8.wrap ((ofB (List.getD a0 (Int.toNat 3) 0)) - 128))) : Value)] mo rfl ⟨fun _ _ _ h _ => h, fun _ _ _ h _ => h, fun _ _ _ h _ => h, fun _ _ _ h _ => h, fun _ _ _ h _ => h, fun _ _ _ h _ => h, fun _ _ _ h _ => h, fun _ _ _ h _ => h, fun _ _ _ h _ => h, fun _ _ _ h _ => h, fun _ _ _ h _ => h, fun _ _ _ h _ => h, fun _ _ _ h _ => h, fun _ _ _ h _ => h, fun _ _ _ h _ => h, fun _ _ _ h _ => h, fun _ _ _ h _ => h, fun _ _ _ h _ => h, fun _ _ _ h _ => h, fun _ _ _ h _ => h, trivial⟩ ?_ ?_
                            · refine ⟨?_, ?_, ?_, ?_, ?_, ?_, ?_, ?_, ?_, ?_, ?_, ?_, ?_, ?_, ?_, ?_, ?_, ?_, ?_, ?_, trivial⟩
                              · intro ρz wz hz hk hd
                                exact sk_val (v := .int .u8 (ofB (List.getD a0 (Int.toNat 0) 0))) (by exact xr_move rfl ((hk 4 rfl).trans e4)) rfl rfl
                              · intro ρz wz hz hk hd
                                have d93 := hd 0 rfl 93 rfl
                                exact sk_val (by exact xr_sub rfl d93 rfl) rfl rfl
                              · intro ρz wz hz hk hd
                                have d94 := hd 1 rfl 94 rfl
                                exact sk_val (by exact xr_conv rfl Try.underlying5 Try.underlying3 d94) rfl rfl
                              · intro ρz wz hz hk hd
                                have d95 := hd 2 rfl 95 rfl
                                exact sk_val (by exact xr_mul rfl d95 rfl) rfl rfl
                              · intro ρz wz hz hk hd
                                exact sk_val (v := sv a0) (by exact xr_move rfl ((hk 0 rfl).trans e0)) rfl rfl
                              · intro ρz wz hz hk hd
                                have d97 := hd 4 rfl 97 rfl
                                exact sk_val (v := .int .u8 (ofB (List.getD a0 (Int.toNat 1) 0))) (by exact xr_indexStr rfl Try.underlying9 d97 rfl (by decide) g94) rfl rfl
                              · intro ρz wz hz hk hd
                                have d98 := hd 5 rfl 98 rfl
                                exact sk_val (by exact xr_sub rfl d98 rfl) rfl rfl
                              · intro ρz wz hz hk hd
                                have d99 := hd 6 rfl 99 rfl
                                exact sk_val (by exact xr_conv rfl Try.underlying5 Try.underlying3 d99) rfl rfl
                              · intro ρz wz hz hk hd
                                have d100 := hd 7 rfl 100 rfl
                                exact sk_val (by exact xr_mul rfl d100 rfl) rfl rfl
                              · intro ρz wz hz hk hd
                                have d96 := hd 3 rfl 96 rfl
                                have d101 := hd 8 rfl 101 rfl
                                exact sk_val (by exact xr_add rfl d96 d101) rfl rfl
                              · intro ρz wz hz hk hd
                                exact sk_val (v := sv a0) (by exact xr_move rfl ((hk 0 rfl).trans e0)) rfl rfl
                              · intro ρz wz hz hk hd
                                have d103 := hd 10 rfl 103 rfl
                                exact sk_val (v := .int .u8 (ofB (List.getD a0 (Int.toNat 2) 0))) (by exact xr_indexStr rfl Try.underlying9 d103 rfl (by decide) g95) rfl rfl
                              · intro ρz wz hz hk hd
                                have d104 := hd 11 rfl 104 rfl
                                exact sk_val (by exact xr_sub rfl d104 rfl) rfl rfl
                              · intro ρz wz hz hk hd
                                have d105 := hd 12 rfl 105 rfl
                                exact sk_val (by exact xr_conv rfl Try.underlying5 Try.underlying3 d105) rfl rfl
                              · intro ρz wz hz hk hd
                                have d106 := hd 13 rfl 106 rfl
                                exact sk_val (by exact xr_mul rfl d106 rfl) rfl rfl
                              · intro ρz wz hz hk hd
                                have d102 := hd 9 rfl 102 rfl
                                have d107 := hd 14 rfl 107 rfl
                                exact sk_val (by exact xr_add rfl d102 d107) rfl rfl
                              · intro ρz wz hz hk hd
                                exact sk_val (v := sv a0) (by exact xr_move rfl ((hk 0 rfl).trans e0)) rfl rfl
                              · intro ρz wz hz hk hd
                                have d109 := hd 16 rfl 109 rfl
                                exact sk_val (v := .int .u8 (ofB (List.getD a0 (Int.toNat 3) 0))) (by exact xr_indexStr rfl Try.underlying9 d109 rfl (by decide) g96) rfl rfl
                              · intro ρz wz hz hk hd
                                have d110 := hd 17 rfl 110 rfl
                                exact sk_val (by exact xr_sub rfl d110 rfl) rfl rfl
                              · intro ρz wz hz hk hd
                                have d111 := hd 18 rfl 111 rfl
                                exact sk_val (by exact xr_conv rfl Try.underlying5 Try.underlying3 d111) rfl rfl
                            · intro ρ97 w98 q99 hk hd
                              have e108 := hd 15 rfl 108 rfl
                              have e112 := hd 19 rfl 112 rfl
                              have fB := fB.gr q99
                              refine ol_val (v := .int .i64 (IntKind.i64.wrap ((IntKind.i64.wrap ((IntKind.i64.wrap ((IntKind.i64.wrap ((IntKind.i64.wrap (IntKind.u8.wrap ((ofB (List.getD a0 (Int.toNat 0) 0)) - 240))) * 262144)) + (IntKind.i64.wrap ((IntKind.i64.wrap (IntKind.u8.wrap ((ofB (List.getD a0 (Int.toNat 1) 0)) - 128))) * 4096)))) + (IntKind.i64.wrap ((IntKind.i64.wrap (IntKind.u8.wrap ((ofB (List.getD a0 (Int.toNat 2) 0)) - 128))) * 64)))) + (IntKind.i64.wrap (IntKind.u8.wrap ((ofB (List.getD a0 (Int.toNat 3) 0)) - 128)))))) (by exact xr_add rfl e108 e112) rfl rfl rfl ?_
                              refine ol_val (v := .int .i64 (IntKind.i64.wrap ((IntKind.i64.wrap ((IntKind.i64.wrap ((IntKind.i64.wrap ((IntKind.i64.wrap (IntKind.u8.wrap ((ofB (List.getD a0 (Int.toNat 0) 0)) - 240))) * 262144)) + (IntKind.i64.wrap ((IntKind.i64.wrap (IntKind.u8.wrap ((ofB (List.getD a0 (Int.toNat 1) 0)) - 128))) * 4096)))) + (IntKind.i64.wrap ((IntKind.i64.wrap (IntKind.u8.wrap ((ofB (List.getD a0 (Int.toNat 2) 0)) - 128))) * 64)))) + (IntKind.i64.wrap (IntKind.u8.wrap ((ofB (List.getD a0 (Int.toNat 3) 0)) - 128)))))) (by exact xr_assign rfl rfl) rfl rfl rfl ?_
                              refine ol_val (v := .int .i64 4) (by exact xr_assign rfl rfl) rfl rfl rfl ?_
                              refine ol_nil ?_
                              refine cw_ret ?_
                              repeat (first | with_reducible refine thn_r ?_ | with_reducible refine blk_r ?_)
                              obtain rfl := Option.some.inj h
                              have h := h59
                              obtain rfl := Option.some.inj h
                              have h := h20
                              obtain rfl := Option.some.inj h
                              refine fin_ret2 Try.results147 rfl rfl ?_
                              exact ⟨_, rfl, rfl, fB⟩
                          · refine cw_condF e92 c93 ?_
                            refine cw_skip ?_
                            obtain rfl := Option.some.inj h
                            refine thn_i ?_
                            exact ⟨_, rfl, fB⟩
                  · refine cw_condF e70 c61 ?_
                    refine cw_skip ?_
                    obtain rfl := Option.some.inj h
                    refine thn_i ?_
                    exact ⟨_, rfl, fB⟩
                · rintro ρ100 w101 ⟨x60, rfl, fB⟩
                  have h := h59
                  obtain rfl := Option.some.inj h
                  refine thn_i ?_
                  exact ⟨_, rfl, fB⟩
          · rintro ρ102 w103 ⟨x21, rfl, fB⟩
            have h := h20
            refine blk_i ?_
            refine cw_seq ?_
            refine cw_region ?_
            refine ol_val (v := .int .i64 65533) (by exact xr_assign rfl rfl) rfl rfl rfl ?_
            refine ol_val (v := .int .i64 1) (by exact xr_assign rfl rfl) rfl rfl rfl ?_
            refine ol_nil ?_
            refine cw_ret ?_
            repeat (first | with_reducible refine thn_r ?_ | with_reducible refine blk_r ?_)
            obtain rfl := Option.some.inj h
            refine fin_ret2 Try.results147 rfl rfl ?_
            exact ⟨_, rfl, rfl, fB⟩
end Go.Proofs.Ytjhajfkfhdnciaa

/- rickyard/rickyardref04.Runes: its model, and that the Go function computes it: written by gen.py. -/
set_option linter.unusedVariables false
namespace Go.Proofs.Ytjhajfkfhdnciaa
open Go Go.Xw
def rickyardref04_Runes.s0 (fu : Nat) : ((List UInt8) × (List Int)) → Option (Sum (List Int) ((List UInt8) × (List Int))) := fun s4 => (if (decide ((List.length s4.1 : Int) > 0)) = true then ((rickyardref04_First.f fu s4.1 : Option (Int × Int)).bind fun t18 => (if List.length s4.2 + List.length [t18.1] ≤ LIM then (if 0 ≤ t18.2 ∧ t18.2 ≤ (List.length s4.1 : Int) then some (Sum.inr ((cut s4.1 t18.2 (List.length s4.1 : Int)), (s4.2 ++ [t18.1]))) else none) else none)) else some (Sum.inl (s4.2)))
def rickyardref04_Runes.f (fu : Nat) (a0 : List UInt8) : Option (List Int) := ((loopM (rickyardref04_Runes.s0 fu) fu (a0, [])).bind fun e5 => some (e5))
set_option maxRecDepth 100000 in
set_option maxHeartbeats 400000 in
theorem rickyardref04_Runes.ok (fu : Nat) (w : World) (a0 : List UInt8) (r : (List Int)) (h : rickyardref04_Runes.f fu a0 = some r) :
    Calls Try.prog 139 (([sv a0] : List Value).toArray) w (fun e w' => ∃ v, e = .returned v ∧ ∃ u1 : Value, ∃ o2 : Own (kI .i64) 3 w' w.heap.size u1 r, v = u1 ∧ Gr w w') := by
  unfold rickyardref04_Runes.f at h
  have fB : Gr w w := Fr.refl _ _
  refine calls_cw Try.func139 rfl Try.ntmps139 rfl ?_
  refine cw_seq ?_
  refine cw_region ?_
  refine ol_val (v := .slice none 0 0) (by exact xr_assign rfl rfl) rfl rfl rfl ?_
  refine ol_nil ?_
  refine cw_seq ?_
  refine cw_region ?_
  refine ol_val (v := .slice none 0 0) (by exact xr_assign rfl rfl) rfl rfl rfl ?_
  refine ol_nil ?_
  refine cw_seq ?_
  obtain ⟨e5, l6, h7⟩ := bs h
  refine cw_mid (fun ρ' w' => ∃ v8 : Value, ∃ o9 : Own (kI .i64) 3 w' w.heap.size v8 e5, ρ' 3 = v8 ∧ Gr w w') ?_ ?_
  · refine cw_block ?_
    refine cw_round (fun (s4 : (List UInt8) × (List Int)) ρ' w' => ∃ v11 : Value, ∃ o12 : Own (kI .i64) 3 w' w.heap.size v11 s4.2, ρ' 0 = sv s4.1 ∧ ρ' 3 = v11 ∧ Gr w w') l6 ?_ ?_
    · skip
      exact ⟨(.slice none 0 0), Own.nil _ _ _ _, rfl, rfl, fB⟩
    · rintro s4 x16 ρ14 w15 ⟨v11, o12, e0, e3, fB⟩ h
      unfold rickyardref04_Runes.s0 at h
      refine cw_seq ?_
      refine cw_seq ?_
      refine cw_region ?_
      refine ol_val (v := sv s4.1) (by exact xr_move rfl e0) rfl rfl rfl ?_
      refine ol_val (v := .int .i64 (List.length s4.1 : Int)) (by exact xr_lenStr rfl Try.underlying9 rfl) rfl rfl rfl ?_
      refine ol_val (v := .bool (decide ((List.length s4.1 : Int) > 0))) (by exact xr_gtr rfl rfl rfl) rfl rfl rfl ?_
      refine ol_nil ?_
      rcases is h with ⟨c17, h⟩ | ⟨c17, h⟩
      · refine cw_condT rfl c17 ?_
        refine cw_skip ?_
        refine cw_block ?_
        refine cw_seq ?_
        refine cw_region ?_
        refine ol_val (v := sv s4.1) (by exact xr_move rfl e0) rfl rfl rfl ?_
        obtain ⟨t18, k19, h⟩ := bs h
        refine ol_op (by exact opv_call rfl cal147 (ac rfl an) (rickyardref04_First.ok fu _ s4.1 _ k19)) rfl rfl rfl ?_
        rintro _ w21 ⟨rfl, q20⟩
        have o12 := o12.gr q20
        have fB := fB.gr q20
        refine ol_val (v := .tuple #[.int .i64 t18.1, .int .i64 t18.2]) (by exact xr_move rfl rfl) rfl rfl rfl ?_
        refine ol_val (v := .int .i64 t18.1) (by exact xr_extract rfl rfl rfl) rfl rfl rfl ?_
        refine ol_val (v := .int .i64 t18.2) (by exact xr_extract rfl rfl rfl) rfl rfl rfl ?_
        refine ol_val (v := .int .i64 t18.1) (by exact xr_assign rfl rfl) rfl rfl rfl ?_
        refine ol_val (v := .int .i64 t18.2) (by exact xr_assign rfl rfl) rfl rfl rfl ?_
        refine ol_nil ?_
        refine cw_seq ?_
        refine cw_region ?_
        refine ol_val (v := v11) (by exact xr_move rfl e3) rfl rfl rfl ?_
        refine ol_val (v := .int .i64 t18.1) (by exact xr_move rfl rfl) rfl rfl rfl ?_
        refine ol_op (by exact opv_buildSlice (K := (kI .i64)) (xs := [t18.1]) (vals := [.int .i64 t18.1]) rfl Try.underlying45 el3 rfl rfl ⟨rfl, rfl, trivial⟩ rfl rfl rfl fB.size) rfl rfl rfl ?_
        rintro v22 w27 ⟨o24, q23, z25⟩
        have a28 := OffV.new o12 z25
        have o12 := o12.gr q23
        have fB := fB.gr q23
        obtain ⟨g33, h⟩ := gs h
        have f35 := o12.geO
        refine ol_op (by exact opv_append (K := (kI .i64)) rfl Try.underlying45 el3 rfl rfl rfl rfl rfl o12 o24.rd g33 fB.size) rfl rfl rfl ?_
        rintro v29 w36 ⟨o30, q31, n32⟩
        have fB := fB.wrO q31 f35
        refine ol_val (v := v29) (by exact xr_assign rfl rfl) rfl rfl rfl ?_
        refine ol_nil ?_
        refine cw_region ?_
        refine ol_val (v := sv s4.1) (by exact xr_move rfl e0) rfl rfl rfl ?_
        refine ol_val (v := .int .i64 t18.2) (by exact xr_move rfl rfl) rfl rfl rfl ?_
        obtain ⟨g37, h⟩ := gs h
        refine ol_val (v := sv (cut s4.1 t18.2 (List.length s4.1 : Int))) (by exact xr_str_l rfl Try.underlying9 rfl rfl g37.1 g37.2) rfl rfl rfl ?_
        refine ol_val (v := sv (cut s4.1 t18.2 (List.length s4.1 : Int))) (by exact xr_assign rfl rfl) rfl rfl rfl ?_
        refine ol_nil ?_
        refine blk_i ?_
        obtain rfl := Option.some.inj h
        refine lp_in ?_
        exact ⟨v29, o30, rfl, rfl, fB⟩
      · refine cw_condF rfl c17 ?_
        refine cw_exit ?_
        repeat (first | with_reducible refine thn_e ?_ | with_reducible refine blk_e rfl ?_)
        obtain rfl := Option.some.inj h
        refine lp_exit ?_
        rintro rfl
        refine thn_x ?_
        exact ⟨v11, o12, e3, fB⟩
  · rintro ρ38 w39 ⟨v8, o9, e3, fB⟩
    have h := h7
    refine cw_seq ?_
    refine cw_region ?_
    refine ol_val (v := v8) (by exact xr_move rfl e3) rfl rfl rfl ?_
    refine ol_val (v := v8) (by exact xr_assign rfl rfl) rfl rfl rfl ?_
    refine ol_nil ?_
    refine cw_ret ?_
    repeat (first | with_reducible refine thn_r ?_ | with_reducible refine blk_r ?_)
    obtain rfl := Option.some.inj h
    refine fin_ret1 Try.results139 rfl ?_
    exact ⟨_, rfl, v8, o9, rfl, fB⟩
end Go.Proofs.Ytjhajfkfhdnciaa
