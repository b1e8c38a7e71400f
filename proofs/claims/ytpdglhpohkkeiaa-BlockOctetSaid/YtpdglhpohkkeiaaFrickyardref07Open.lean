/- rickyard/rickyardref07.Open: its model, and that the Go function computes it: written by gen.py. -/
import Derived.Test.YtpdglhpohkkeiaaBase
import Derived.Test.YtpdglhpohkkeiaaFrickyardref07Seal
set_option linter.unusedVariables false
namespace Go.Proofs.Ytpdglhpohkkeiaa
open Go Go.Xw
def rickyardref07_Open.f (fu : Nat) (a0 : List Int) : Option (Int × Int × (List UInt8) × Bool) := (((if (!decide ((List.length a0 : Int) = 64)) = true then some (true) else (if (4 : Int) < (List.length a0 : Int) then (if (decide ((ix a0 4) = 0)) = true then some (true) else (if (4 : Int) < (List.length a0 : Int) then (if (5 : Int) < (List.length a0 : Int) then (if (8 : Int) ≤ (List.length a0 : Int) then ((rickyardref07_Seal.f fu (IntKind.i64.wrap (ix a0 4)) (IntKind.i64.wrap (ix a0 5)) (List.map toB (cut a0 8 (List.length a0 : Int))) : Option (List UInt8)).bind fun t17 => some ((!decide (t17 = (List.map toB a0))))) else none) else none) else none)) else none)) : Option Bool).bind fun x1 => (if x1 = true then some (0, 0, [], false) else (if (4 : Int) < (List.length a0 : Int) then (if (5 : Int) < (List.length a0 : Int) then (if (8 : Int) ≤ (List.length a0 : Int) then some ((IntKind.i64.wrap (ix a0 4)), (IntKind.i64.wrap (ix a0 5)), (List.map toB (cut a0 8 (List.length a0 : Int))), true) else none) else none) else none)))
set_option maxRecDepth 100000 in
set_option maxHeartbeats 400000 in
theorem rickyardref07_Open.ok (fu : Nat) (w : World) (a0 : List Int) (V0_0 : Value) (R0_0 : Rd (kI .u8) w V0_0 a0) (r : Int × Int × (List UInt8) × Bool) (h : rickyardref07_Open.f fu a0 = some r) :
    Calls Try.prog 43 (([V0_0] : List Value).toArray) w (fun e w' => ∃ v, e = .returned v ∧ v = .tuple #[.int .i64 r.1, .int .i64 r.2.1, sv r.2.2.1, .bool r.2.2.2] ∧ Gr w w') := by
  unfold rickyardref07_Open.f at h
  have fB : Gr w w := Fr.refl _ _
  refine calls_cw Try.func43 rfl Try.ntmps43 rfl ?_
  refine cw_seq ?_
  refine cw_region ?_
  refine ol_val (v := .int .i64 0) (by exact xr_assign rfl rfl) rfl rfl rfl ?_
  refine ol_val (v := .int .i64 0) (by exact xr_assign rfl rfl) rfl rfl rfl ?_
  refine ol_val (v := sv []) (by exact xr_assign rfl rfl) rfl rfl rfl ?_
  refine ol_val (v := .bool false) (by exact xr_assign rfl rfl) rfl rfl rfl ?_
  refine ol_nil ?_
  refine cw_seq ?_
  refine cw_seq ?_
  obtain ⟨x1, j2, h⟩ := bs h
  refine cw_mid (fun ρ' w' => ρ' 0 = V0_0 ∧ ρ' 31 = .bool x1 ∧ Gr w w') ?_ ?_
  · skip
    rcases is j2 with ⟨c3, j2⟩ | ⟨c3, j2⟩
    · skip
      refine cw_drawL 26 [fun vz wz => vz = (V0_0 : Value), fun vz wz => vz = (.int .i64 (List.length a0 : Int) : Value), fun vz wz => vz = (.bool (!decide ((List.length a0 : Int) = 64)) : Value), fun vz wz => vz = (.bool (!decide ((List.length a0 : Int) = 64)) : Value), fun _ _ => True, fun _ _ => True, fun _ _ => True, fun _ _ => True, fun vz wz => vz = (.bool true : Value), fun vz wz => vz = (.bool true : Value), fun _ _ => True, fun _ _ => True, fun _ _ => True, fun _ _ => True, fun _ _ => True, fun _ _ => True, fun _ _ => True, fun _ _ => True, fun _ _ => True, fun _ _ => True, fun _ _ => True, fun _ _ => True, fun _ _ => True, fun _ _ => True, fun _ _ => True, fun vz wz => vz = (.bool true : Value)] mo rfl ⟨fun _ _ _ h _ => h, fun _ _ _ h _ => h, fun _ _ _ h _ => h, fun _ _ _ h _ => h, fun _ _ _ h _ => h, fun _ _ _ h _ => h, fun _ _ _ h _ => h, fun _ _ _ h _ => h, fun _ _ _ h _ => h, fun _ _ _ h _ => h, fun _ _ _ h _ => h, fun _ _ _ h _ => h, fun _ _ _ h _ => h, fun _ _ _ h _ => h, fun _ _ _ h _ => h, fun _ _ _ h _ => h, fun _ _ _ h _ => h, fun _ _ _ h _ => h, fun _ _ _ h _ => h, fun _ _ _ h _ => h, fun _ _ _ h _ => h, fun _ _ _ h _ => h, fun _ _ _ h _ => h, fun _ _ _ h _ => h, fun _ _ _ h _ => h, fun _ _ _ h _ => h, trivial⟩ ?_ ?_
      · refine ⟨?_, ?_, ?_, ?_, ?_, ?_, ?_, ?_, ?_, ?_, ?_, ?_, ?_, ?_, ?_, ?_, ?_, ?_, ?_, ?_, ?_, ?_, ?_, ?_, ?_, ?_, trivial⟩
        · intro ρz wz hz hk hd
          exact sk_val (v := V0_0) (by exact xr_move rfl ((hk 0 rfl).trans rfl)) rfl rfl
        · intro ρz wz hz hk hd
          have d6 := hd 0 rfl 6 rfl
          exact sk_val (v := .int .i64 (List.length a0 : Int)) (by exact xr_lenR rfl Try.underlying38 d6 (R0_0.gr (fB.gr hz))) rfl rfl
        · intro ρz wz hz hk hd
          have d7 := hd 1 rfl 7 rfl
          exact sk_val (v := .bool (!decide ((List.length a0 : Int) = 64))) (by exact xr_neI rfl Try.underlying3 rfl d7 rfl) rfl rfl
        · intro ρz wz hz hk hd
          have d8 := hd 2 rfl 8 rfl
          exact sk_val (v := .bool (!decide ((List.length a0 : Int) = 64))) (by exact xr_move rfl d8) rfl rfl
        · intro ρz wz hz hk hd
          have d9 := hd 3 rfl 9 rfl
          exact sk_skip rfl rfl d9 c3 trivial
        · intro ρz wz hz hk hd
          have d9 := hd 3 rfl 9 rfl
          exact sk_skip rfl rfl d9 c3 trivial
        · intro ρz wz hz hk hd
          have d9 := hd 3 rfl 9 rfl
          exact sk_skip rfl rfl d9 c3 trivial
        · intro ρz wz hz hk hd
          have d9 := hd 3 rfl 9 rfl
          exact sk_skip rfl rfl d9 c3 trivial
        · intro ρz wz hz hk hd
          have d9 := hd 3 rfl 9 rfl
          exact sk_val (v := .bool true) (by exact xr_pickT rfl d9 c3 rfl) rfl rfl
        · intro ρz wz hz hk hd
          have d14 := hd 8 rfl 14 rfl
          exact sk_val (v := .bool true) (by exact xr_move rfl d14) rfl rfl
        · intro ρz wz hz hk hd
          have d15 := hd 9 rfl 15 rfl
          exact sk_skip rfl rfl d15 rfl trivial
        · intro ρz wz hz hk hd
          have d15 := hd 9 rfl 15 rfl
          exact sk_skip rfl rfl d15 rfl trivial
        · intro ρz wz hz hk hd
          have d15 := hd 9 rfl 15 rfl
          exact sk_skip rfl rfl d15 rfl trivial
        · intro ρz wz hz hk hd
          have d15 := hd 9 rfl 15 rfl
          exact sk_skip rfl rfl d15 rfl trivial
        · intro ρz wz hz hk hd
          have d15 := hd 9 rfl 15 rfl
          exact sk_skip rfl rfl d15 rfl trivial
        · intro ρz wz hz hk hd
          have d15 := hd 9 rfl 15 rfl
          exact sk_skip rfl rfl d15 rfl trivial
        · intro ρz wz hz hk hd
          have d15 := hd 9 rfl 15 rfl
          exact sk_skip rfl rfl d15 rfl trivial
        · intro ρz wz hz hk hd
          have d15 := hd 9 rfl 15 rfl
          exact sk_skip rfl rfl d15 rfl trivial
        · intro ρz wz hz hk hd
          have d15 := hd 9 rfl 15 rfl
          exact sk_skip rfl rfl d15 rfl trivial
        · intro ρz wz hz hk hd
          have d15 := hd 9 rfl 15 rfl
          exact sk_skip rfl rfl d15 rfl trivial
        · intro ρz wz hz hk hd
          have d15 := hd 9 rfl 15 rfl
          exact sk_skip rfl rfl d15 rfl trivial
        · intro ρz wz hz hk hd
          have d15 := hd 9 rfl 15 rfl
          exact sk_skip rfl rfl d15 rfl trivial
        · intro ρz wz hz hk hd
          have d15 := hd 9 rfl 15 rfl
          exact sk_skip rfl rfl d15 rfl trivial
        · intro ρz wz hz hk hd
          have d15 := hd 9 rfl 15 rfl
          exact sk_skip rfl rfl d15 rfl trivial
        · intro ρz wz hz hk hd
          have d15 := hd 9 rfl 15 rfl
          exact sk_skip rfl rfl d15 rfl trivial
        · intro ρz wz hz hk hd
          have d15 := hd 9 rfl 15 rfl
          exact sk_val (v := .bool true) (by exact xr_pickT rfl d15 rfl rfl) rfl rfl
      · intro ρ4 w5 q6 hk hd
        have e0 := (hk 0 rfl).trans rfl
        have e31 := hd 25 rfl 31 rfl
        have fB := fB.gr q6
        refine ol_nil ?_
        obtain rfl := Option.some.inj j2
        refine thn_i ?_
        exact ⟨e0, e31, q6⟩
    · skip
      obtain ⟨g7, j2⟩ := gs j2
      rcases is j2 with ⟨c8, j2⟩ | ⟨c8, j2⟩
      · skip
        refine cw_drawL 26 [fun vz wz => vz = (V0_0 : Value), fun vz wz => vz = (.int .i64 (List.length a0 : Int) : Value), fun vz wz => vz = (.bool (!decide ((List.length a0 : Int) = 64)) : Value), fun vz wz => vz = (.bool (!decide ((List.length a0 : Int) = 64)) : Value), fun vz wz => vz = (V0_0 : Value), fun vz wz => vz = (.pointer (some ⟨(sb V0_0), so V0_0 + Int.toNat 4 * 1, none⟩) : Value), fun vz wz => vz = (.int .u8 (ix a0 4) : Value), fun vz wz => vz = (.bool (decide ((ix a0 4) = 0)) : Value), fun vz wz => vz = (.bool (decide ((ix a0 4) = 0)) : Value), fun vz wz => vz = (.bool (decide ((ix a0 4) = 0)) : Value), fun _ _ => True, fun _ _ => True, fun _ _ => True, fun _ _ => True, fun _ _ => True, fun _ _ => True, fun _ _ => True, fun _ _ => True, fun _ _ => True, fun _ _ => True, fun _ _ => True, fun _ _ => True, fun _ _ => True, fun _ _ => True, fun _ _ => True, fun vz wz => vz = (.bool true : Value)] mo rfl ⟨fun _ _ _ h _ => h, fun _ _ _ h _ => h, fun _ _ _ h _ => h, fun _ _ _ h _ => h, fun _ _ _ h _ => h, fun _ _ _ h _ => h, fun _ _ _ h _ => h, fun _ _ _ h _ => h, fun _ _ _ h _ => h, fun _ _ _ h _ => h, fun _ _ _ h _ => h, fun _ _ _ h _ => h, fun _ _ _ h _ => h, fun _ _ _ h _ => h, fun _ _ _ h _ => h, fun _ _ _ h _ => h, fun _ _ _ h _ => h, fun _ _ _ h _ => h, fun _ _ _ h _ => h, fun _ _ _ h _ => h, fun _ _ _ h _ => h, fun _ _ _ h _ => h, fun _ _ _ h _ => h, fun _ _ _ h _ => h, fun _ _ _ h _ => h, fun _ _ _ h _ => h, trivial⟩ ?_ ?_
        · refine ⟨?_, ?_, ?_, ?_, ?_, ?_, ?_, ?_, ?_, ?_, ?_, ?_, ?_, ?_, ?_, ?_, ?_, ?_, ?_, ?_, ?_, ?_, ?_, ?_, ?_, ?_, trivial⟩
          · intro ρz wz hz hk hd
            exact sk_val (v := V0_0) (by exact xr_move rfl ((hk 0 rfl).trans rfl)) rfl rfl
          · intro ρz wz hz hk hd
            have d6 := hd 0 rfl 6 rfl
            exact sk_val (v := .int .i64 (List.length a0 : Int)) (by exact xr_lenR rfl Try.underlying38 d6 (R0_0.gr (fB.gr hz))) rfl rfl
          · intro ρz wz hz hk hd
            have d7 := hd 1 rfl 7 rfl
            exact sk_val (v := .bool (!decide ((List.length a0 : Int) = 64))) (by exact xr_neI rfl Try.underlying3 rfl d7 rfl) rfl rfl
          · intro ρz wz hz hk hd
            have d8 := hd 2 rfl 8 rfl
            exact sk_val (v := .bool (!decide ((List.length a0 : Int) = 64))) (by exact xr_move rfl d8) rfl rfl
          · intro ρz wz hz hk hd
            have d9 := hd 3 rfl 9 rfl
            exact sk_gval (v := V0_0) (by exact xr_move rfl ((hk 0 rfl).trans rfl)) rfl rfl d9 c3 rfl
          · intro ρz wz hz hk hd
            have d10 := hd 4 rfl 10 rfl
            have d9 := hd 3 rfl 9 rfl
            exact sk_gval (by exact xr_indexR (K := (kI .u8)) (v := V0_0) rfl Try.underlying38 sz5 d10 (R0_0.gr (fB.gr hz)) rfl (by decide) g7) rfl rfl d9 c3 rfl
          · intro ρz wz hz hk hd
            have d11 := hd 5 rfl 11 rfl
            have d9 := hd 3 rfl 9 rfl
            exact sk_gval (v := .int .u8 (ix a0 4)) (by exact xr_load1 (v := .int .u8 (ix a0 4)) rfl ag5 d11 ((R0_0.gr (fB.gr hz)).elem (by decide) g7)) rfl rfl d9 c3 rfl
          · intro ρz wz hz hk hd
            have d12 := hd 6 rfl 12 rfl
            have d9 := hd 3 rfl 9 rfl
            exact sk_gval (v := .bool (decide ((ix a0 4) = 0))) (by exact xr_eqI rfl Try.underlying5 rfl d12 rfl) rfl rfl d9 c3 rfl
          · intro ρz wz hz hk hd
            have d9 := hd 3 rfl 9 rfl
            have d13 := hd 7 rfl 13 rfl
            exact sk_val (v := .bool (decide ((ix a0 4) = 0))) (by exact xr_pickF rfl d9 c3 d13) rfl rfl
          · intro ρz wz hz hk hd
            have d14 := hd 8 rfl 14 rfl
            exact sk_val (v := .bool (decide ((ix a0 4) = 0))) (by exact xr_move rfl d14) rfl rfl
          · intro ρz wz hz hk hd
            have d15 := hd 9 rfl 15 rfl
            exact sk_skip rfl rfl d15 c8 trivial
          · intro ρz wz hz hk hd
            have d15 := hd 9 rfl 15 rfl
            exact sk_skip rfl rfl d15 c8 trivial
          · intro ρz wz hz hk hd
            have d15 := hd 9 rfl 15 rfl
            exact sk_skip rfl rfl d15 c8 trivial
          · intro ρz wz hz hk hd
            have d15 := hd 9 rfl 15 rfl
            exact sk_skip rfl rfl d15 c8 trivial
          · intro ρz wz hz hk hd
            have d15 := hd 9 rfl 15 rfl
            exact sk_skip rfl rfl d15 c8 trivial
          · intro ρz wz hz hk hd
            have d15 := hd 9 rfl 15 rfl
            exact sk_skip rfl rfl d15 c8 trivial
          · intro ρz wz hz hk hd
            have d15 := hd 9 rfl 15 rfl
            exact sk_skip rfl rfl d15 c8 trivial
          · intro ρz wz hz hk hd
            have d15 := hd 9 rfl 15 rfl
            exact sk_skip rfl rfl d15 c8 trivial
          · intro ρz wz hz hk hd
            have d15 := hd 9 rfl 15 rfl
            exact sk_skip rfl rfl d15 c8 trivial
          · intro ρz wz hz hk hd
            have d15 := hd 9 rfl 15 rfl
            exact sk_skip rfl rfl d15 c8 trivial
          · intro ρz wz hz hk hd
            have d15 := hd 9 rfl 15 rfl
            exact sk_skip rfl rfl d15 c8 trivial
          · intro ρz wz hz hk hd
            have d15 := hd 9 rfl 15 rfl
            exact sk_skip rfl rfl d15 c8 trivial
          · intro ρz wz hz hk hd
            have d15 := hd 9 rfl 15 rfl
            exact sk_skip rfl rfl d15 c8 trivial
          · intro ρz wz hz hk hd
            have d15 := hd 9 rfl 15 rfl
            exact sk_skip rfl rfl d15 c8 trivial
          · intro ρz wz hz hk hd
            have d15 := hd 9 rfl 15 rfl
            exact sk_skip rfl rfl d15 c8 trivial
          · intro ρz wz hz hk hd
            have d15 := hd 9 rfl 15 rfl
            exact sk_val (v := .bool true) (by exact xr_pickT rfl d15 c8 rfl) rfl rfl
        · intro ρ9 w10 q11 hk hd
          have e0 := (hk 0 rfl).trans rfl
          have e31 := hd 25 rfl 31 rfl
          have fB := fB.gr q11
          refine ol_nil ?_
          obtain rfl := Option.some.inj j2
          refine thn_i ?_
          exact ⟨e0, e31, q11⟩
      · skip
        obtain ⟨g12, j2⟩ := gs j2
        obtain ⟨g13, j2⟩ := gs j2
        obtain ⟨g15, j2⟩ := gs j2
        obtain ⟨t17, k18, j2⟩ := bs j2
        refine cw_drawL 26 [fun vz wz => vz = (V0_0 : Value), fun vz wz => vz = (.int .i64 (List.length a0 : Int) : Value), fun vz wz => vz = (.bool (!decide ((List.length a0 : Int) = 64)) : Value), fun vz wz => vz = (.bool (!decide ((List.length a0 : Int) = 64)) : Value), fun vz wz => vz = (V0_0 : Value), fun vz wz => vz = (.pointer (some ⟨(sb V0_0), so V0_0 + Int.toNat 4 * 1, none⟩) : Value), fun vz wz => vz = (.int .u8 (ix a0 4) : Value), fun vz wz => vz = (.bool (decide ((ix a0 4) = 0)) : Value), fun vz wz => vz = (.bool (decide ((ix a0 4) = 0)) : Value), fun vz wz => vz = (.bool (decide ((ix a0 4) = 0)) : Value), fun vz wz => vz = (V0_0 : Value), fun vz wz => vz = (.pointer (some ⟨(sb V0_0), so V0_0 + Int.toNat 4 * 1, none⟩) : Value), fun vz wz => vz = (.int .u8 (ix a0 4) : Value), fun vz wz => vz = (.int .i64 (IntKind.i64.wrap (ix a0 4)) : Value), fun vz wz => vz = (V0_0 : Value), fun vz wz => vz = (.pointer (some ⟨(sb V0_0), so V0_0 + Int.toNat 5 * 1, none⟩) : Value), fun vz wz => vz = (.int .u8 (ix a0 5) : Value), fun vz wz => vz = (.int .i64 (IntKind.i64.wrap (ix a0 5)) : Value), fun vz wz => vz = (V0_0 : Value), fun vz wz => ∃ u16 : Value, ∃ r14 : Rd (kI .u8) wz u16 (cut a0 8 (List.length a0 : Int)), vz = (u16 : Value), fun vz wz => vz = (sv (List.map toB (cut a0 8 (List.length a0 : Int))) : Value), fun vz wz => vz = (sv t17 : Value), fun vz wz => vz = (V0_0 : Value), fun vz wz => vz = (sv (List.map toB a0) : Value), fun vz wz => vz = (.bool (!decide (t17 = (List.map toB a0))) : Value), fun vz wz => vz = (.bool (!decide (t17 = (List.map toB a0))) : Value)] mo rfl ⟨fun _ _ _ h _ => h, fun _ _ _ h _ => h, fun _ _ _ h _ => h, fun _ _ _ h _ => h, fun _ _ _ h _ => h, fun _ _ _ h _ => h, fun _ _ _ h _ => h, fun _ _ _ h _ => h, fun _ _ _ h _ => h, fun _ _ _ h _ => h, fun _ _ _ h _ => h, fun _ _ _ h _ => h, fun _ _ _ h _ => h, fun _ _ _ h _ => h, fun _ _ _ h _ => h, fun _ _ _ h _ => h, fun _ _ _ h _ => h, fun _ _ _ h _ => h, fun _ _ _ h _ => h, fun _ _ _ ⟨u16, r14, h⟩ q => ⟨u16, r14.gr q, h⟩, fun _ _ _ h _ => h, fun _ _ _ h _ => h, fun _ _ _ h _ => h, fun _ _ _ h _ => h, fun _ _ _ h _ => h, fun _ _ _ h _ => h, trivial⟩ ?_ ?_
        · refine ⟨?_, ?_, ?_, ?_, ?_, ?_, ?_, ?_, ?_, ?_, ?_, ?_, ?_, ?_, ?_, ?_, ?_, ?_, ?_, ?_, ?_, ?_, ?_, ?_, ?_, ?_, trivial⟩
          · intro ρz wz hz hk hd
            exact sk_val (v := V0_0) (by exact xr_move rfl ((hk 0 rfl).trans rfl)) rfl rfl
          · intro ρz wz hz hk hd
            have d6 := hd 0 rfl 6 rfl
            exact sk_val (v := .int .i64 (List.length a0 : Int)) (by exact xr_lenR rfl Try.underlying38 d6 (R0_0.gr (fB.gr hz))) rfl rfl
          · intro ρz wz hz hk hd
            have d7 := hd 1 rfl 7 rfl
            exact sk_val (v := .bool (!decide ((List.length a0 : Int) = 64))) (by exact xr_neI rfl Try.underlying3 rfl d7 rfl) rfl rfl
          · intro ρz wz hz hk hd
            have d8 := hd 2 rfl 8 rfl
            exact sk_val (v := .bool (!decide ((List.length a0 : Int) = 64))) (by exact xr_move rfl d8) rfl rfl
          · intro ρz wz hz hk hd
            have d9 := hd 3 rfl 9 rfl
            exact sk_gval (v := V0_0) (by exact xr_move rfl ((hk 0 rfl).trans rfl)) rfl rfl d9 c3 rfl
          · intro ρz wz hz hk hd
            have d10 := hd 4 rfl 10 rfl
            have d9 := hd 3 rfl 9 rfl
            exact sk_gval (by exact xr_indexR (K := (kI .u8)) (v := V0_0) rfl Try.underlying38 sz5 d10 (R0_0.gr (fB.gr hz)) rfl (by decide) g7) rfl rfl d9 c3 rfl
          · intro ρz wz hz hk hd
            have d11 := hd 5 rfl 11 rfl
            have d9 := hd 3 rfl 9 rfl
            exact sk_gval (v := .int .u8 (ix a0 4)) (by exact xr_load1 (v := .int .u8 (ix a0 4)) rfl ag5 d11 ((R0_0.gr (fB.gr hz)).elem (by decide) g7)) rfl rfl d9 c3 rfl
          · intro ρz wz hz hk hd
            have d12 := hd 6 rfl 12 rfl
            have d9 := hd 3 rfl 9 rfl
            exact sk_gval (v := .bool (decide ((ix a0 4) = 0))) (by exact xr_eqI rfl Try.underlying5 rfl d12 rfl) rfl rfl d9 c3 rfl
          · intro ρz wz hz hk hd
            have d9 := hd 3 rfl 9 rfl
            have d13 := hd 7 rfl 13 rfl
            exact sk_val (v := .bool (decide ((ix a0 4) = 0))) (by exact xr_pickF rfl d9 c3 d13) rfl rfl
          · intro ρz wz hz hk hd
            have d14 := hd 8 rfl 14 rfl
            exact sk_val (v := .bool (decide ((ix a0 4) = 0))) (by exact xr_move rfl d14) rfl rfl
          · intro ρz wz hz hk hd
            have d15 := hd 9 rfl 15 rfl
            exact sk_gval (v := V0_0) (by exact xr_move rfl ((hk 0 rfl).trans rfl)) rfl rfl d15 c8 rfl
          · intro ρz wz hz hk hd
            have d16 := hd 10 rfl 16 rfl
            have d15 := hd 9 rfl 15 rfl
            exact sk_gval (by exact xr_indexR (K := (kI .u8)) (v := V0_0) rfl Try.underlying38 sz5 d16 (R0_0.gr (fB.gr hz)) rfl (by decide) g12) rfl rfl d15 c8 rfl
          · intro ρz wz hz hk hd
            have d17 := hd 11 rfl 17 rfl
            have d15 := hd 9 rfl 15 rfl
            exact sk_gval (v := .int .u8 (ix a0 4)) (by exact xr_load1 (v := .int .u8 (ix a0 4)) rfl ag5 d17 ((R0_0.gr (fB.gr hz)).elem (by decide) g12)) rfl rfl d15 c8 rfl
          · intro ρz wz hz hk hd
            have d18 := hd 12 rfl 18 rfl
            have d15 := hd 9 rfl 15 rfl
            exact sk_gval (v := .int .i64 (IntKind.i64.wrap (ix a0 4))) (by exact xr_conv rfl Try.underlying5 Try.underlying3 d18) rfl rfl d15 c8 rfl
          · intro ρz wz hz hk hd
            have d15 := hd 9 rfl 15 rfl
            exact sk_gval (v := V0_0) (by exact xr_move rfl ((hk 0 rfl).trans rfl)) rfl rfl d15 c8 rfl
          · intro ρz wz hz hk hd
            have d20 := hd 14 rfl 20 rfl
            have d15 := hd 9 rfl 15 rfl
            exact sk_gval (by exact xr_indexR (K := (kI .u8)) (v := V0_0) rfl Try.underlying38 sz5 d20 (R0_0.gr (fB.gr hz)) rfl (by decide) g13) rfl rfl d15 c8 rfl
          · intro ρz wz hz hk hd
            have d21 := hd 15 rfl 21 rfl
            have d15 := hd 9 rfl 15 rfl
            exact sk_gval (v := .int .u8 (ix a0 5)) (by exact xr_load1 (v := .int .u8 (ix a0 5)) rfl ag5 d21 ((R0_0.gr (fB.gr hz)).elem (by decide) g13)) rfl rfl d15 c8 rfl
          · intro ρz wz hz hk hd
            have d22 := hd 16 rfl 22 rfl
            have d15 := hd 9 rfl 15 rfl
            exact sk_gval (v := .int .i64 (IntKind.i64.wrap (ix a0 5))) (by exact xr_conv rfl Try.underlying5 Try.underlying3 d22) rfl rfl d15 c8 rfl
          · intro ρz wz hz hk hd
            have d15 := hd 9 rfl 15 rfl
            exact sk_gval (v := V0_0) (by exact xr_move rfl ((hk 0 rfl).trans rfl)) rfl rfl d15 c8 rfl
          · intro ρz wz hz hk hd
            have d24 := hd 18 rfl 24 rfl
            have d15 := hd 9 rfl 15 rfl
            exact sk_gval (by exact xr_slice_l (K := (kI .u8)) (v := V0_0) rfl Try.underlying38 sz5 d24 (R0_0.gr (fB.gr hz)) rfl (by decide) g15) rfl rfl d15 c8 ⟨_, (R0_0.gr (fB.gr hz)).cut (lo := 8) (hi := (List.length a0 : Int)) (by decide) g15 (Int.le_refl _), rfl⟩
          · intro ρz wz hz hk hd
            obtain ⟨u16, r14, d25⟩ := hd 19 rfl 25 rfl
            have d15 := hd 9 rfl 15 rfl
            exact sk_gval (v := sv (List.map toB (cut a0 8 (List.length a0 : Int)))) (by exact xr_toStr rfl Try.underlying38 Try.underlying5 Try.underlying9 d25 r14) rfl rfl d15 c8 rfl
          · intro ρz wz hz hk hd
            have d19 := hd 13 rfl 19 rfl
            have d23 := hd 17 rfl 23 rfl
            have d26 := hd 20 rfl 26 rfl
            have d15 := hd 9 rfl 15 rfl
            refine sk_gop (by exact opv_call rfl cal41 (ac d19 (ac d23 (ac d26 an))) (rickyardref07_Seal.ok fu _ (IntKind.i64.wrap (ix a0 4)) (IntKind.i64.wrap (ix a0 5)) (List.map toB (cut a0 8 (List.length a0 : Int))) _ k18)) rfl rfl d15 c8 ?_
            rintro _ wy ⟨rfl, q19⟩
            exact ⟨rfl, q19⟩
          · intro ρz wz hz hk hd
            have d15 := hd 9 rfl 15 rfl
            exact sk_gval (v := V0_0) (by exact xr_move rfl ((hk 0 rfl).trans rfl)) rfl rfl d15 c8 rfl
          · intro ρz wz hz hk hd
            have d28 := hd 22 rfl 28 rfl
            have d15 := hd 9 rfl 15 rfl
            exact sk_gval (v := sv (List.map toB a0)) (by exact xr_toStr rfl Try.underlying38 Try.underlying5 Try.underlying9 d28 (R0_0.gr (fB.gr hz))) rfl rfl d15 c8 rfl
          · intro ρz wz hz hk hd
            have d27 := hd 21 rfl 27 rfl
            have d29 := hd 23 rfl 29 rfl
            have d15 := hd 9 rfl 15 rfl
            exact sk_gval (v := .bool (!decide (t17 = (List.map toB a0)))) (by exact xr_neStr rfl Try.underlying9 d27 d29) rfl rfl d15 c8 rfl
          · intro ρz wz hz hk hd
            have d15 := hd 9 rfl 15 rfl
            have d30 := hd 24 rfl 30 rfl
            exact sk_val (v := .bool (!decide (t17 = (List.map toB a0)))) (by exact xr_pickF rfl d15 c8 d30) rfl rfl
        · intro ρ20 w21 q22 hk hd
          have e0 := (hk 0 rfl).trans rfl
          have e31 := hd 25 rfl 31 rfl
          have fB := fB.gr q22
          refine ol_nil ?_
          obtain rfl := Option.some.inj j2
          refine thn_i ?_
          exact ⟨e0, e31, q22⟩
  · skip
    rintro ρ23 w24 ⟨e0, e31, q25⟩
    have fB := fB.gr q25
    rcases is h with ⟨c26, h⟩ | ⟨c26, h⟩
    · refine cw_condT e31 c26 ?_
      refine cw_seq ?_
      refine cw_region ?_
      refine ol_val (v := .int .i64 0) (by exact xr_assign rfl rfl) rfl rfl rfl ?_
      refine ol_val (v := .int .i64 0) (by exact xr_assign rfl rfl) rfl rfl rfl ?_
      refine ol_val (v := sv []) (by exact xr_assign rfl rfl) rfl rfl rfl ?_
      refine ol_val (v := .bool false) (by exact xr_assign rfl rfl) rfl rfl rfl ?_
      refine ol_nil ?_
      refine cw_ret ?_
      repeat (first | with_reducible refine thn_r ?_ | with_reducible refine blk_r ?_)
      obtain rfl := Option.some.inj h
      refine fin_ret4 Try.results43 rfl rfl rfl rfl ?_
      exact ⟨_, rfl, rfl, fB⟩
    · refine cw_condF e31 c26 ?_
      refine cw_skip ?_
      refine cw_seq ?_
      obtain ⟨g27, h⟩ := gs h
      obtain ⟨g28, h⟩ := gs h
      obtain ⟨g30, h⟩ := gs h
      refine cw_drawL 13 [fun vz wz => vz = (V0_0 : Value), fun vz wz => vz = (.pointer (some ⟨(sb V0_0), so V0_0 + Int.toNat 4 * 1, none⟩) : Value), fun vz wz => vz = (.int .u8 (ix a0 4) : Value), fun vz wz => vz = (.int .i64 (IntKind.i64.wrap (ix a0 4)) : Value), fun vz wz => vz = (V0_0 : Value), fun vz wz => vz = (.pointer (some ⟨(sb V0_0), so V0_0 + Int.toNat 5 * 1, none⟩) : Value), fun vz wz => vz = (.int .u8 (ix a0 5) : Value), fun vz wz => vz = (.int .i64 (IntKind.i64.wrap (ix a0 5)) : Value), fun vz wz => vz = (V0_0 : Value), fun vz wz => ∃ u31 : Value, ∃ r29 : Rd (kI .u8) wz u31 (cut a0 8 (List.length a0 : Int)), vz = (u31 : Value), fun vz wz => vz = (sv (List.map toB (cut a0 8 (List.length a0 : Int))) : Value), fun vz wz => vz = (.int .i64 (IntKind.i64.wrap (ix a0 4)) : Value), fun vz wz => vz = (.int .i64 (IntKind.i64.wrap (ix a0 5)) : Value)] mo rfl ⟨fun _ _ _ h _ => h, fun _ _ _ h _ => h, fun _ _ _ h _ => h, fun _ _ _ h _ => h, fun _ _ _ h _ => h, fun _ _ _ h _ => h, fun _ _ _ h _ => h, fun _ _ _ h _ => h, fun _ _ _ h _ => h, fun _ _ _ ⟨u31, r29, h⟩ q => ⟨u31, r29.gr q, h⟩, fun _ _ _ h _ => h, fun _ _ _ h _ => h, fun _ _ _ h _ => h, trivial⟩ ?_ ?_
      · refine ⟨?_, ?_, ?_, ?_, ?_, ?_, ?_, ?_, ?_, ?_, ?_, ?_, ?_, trivial⟩
        · intro ρz wz hz hk hd
          exact sk_val (v := V0_0) (by exact xr_move rfl ((hk 0 rfl).trans e0)) rfl rfl
        · intro ρz wz hz hk hd
          have d32 := hd 0 rfl 32 rfl
          exact sk_val (by exact xr_indexR (K := (kI .u8)) (v := V0_0) rfl Try.underlying38 sz5 d32 (R0_0.gr (fB.gr hz)) rfl (by decide) g27) rfl rfl
        · intro ρz wz hz hk hd
          have d33 := hd 1 rfl 33 rfl
          exact sk_val (v := .int .u8 (ix a0 4)) (by exact xr_load1 (v := .int .u8 (ix a0 4)) rfl ag5 d33 ((R0_0.gr (fB.gr hz)).elem (by decide) g27)) rfl rfl
        · intro ρz wz hz hk hd
          have d34 := hd 2 rfl 34 rfl
          exact sk_val (v := .int .i64 (IntKind.i64.wrap (ix a0 4))) (by exact xr_conv rfl Try.underlying5 Try.underlying3 d34) rfl rfl
        · intro ρz wz hz hk hd
          exact sk_val (v := V0_0) (by exact xr_move rfl ((hk 0 rfl).trans e0)) rfl rfl
        · intro ρz wz hz hk hd
          have d36 := hd 4 rfl 36 rfl
          exact sk_val (by exact xr_indexR (K := (kI .u8)) (v := V0_0) rfl Try.underlying38 sz5 d36 (R0_0.gr (fB.gr hz)) rfl (by decide) g28) rfl rfl
        · intro ρz wz hz hk hd
          have d37 := hd 5 rfl 37 rfl
          exact sk_val (v := .int .u8 (ix a0 5)) (by exact xr_load1 (v := .int .u8 (ix a0 5)) rfl ag5 d37 ((R0_0.gr (fB.gr hz)).elem (by decide) g28)) rfl rfl
        · intro ρz wz hz hk hd
          have d38 := hd 6 rfl 38 rfl
          exact sk_val (v := .int .i64 (IntKind.i64.wrap (ix a0 5))) (by exact xr_conv rfl Try.underlying5 Try.underlying3 d38) rfl rfl
        · intro ρz wz hz hk hd
          exact sk_val (v := V0_0) (by exact xr_move rfl ((hk 0 rfl).trans e0)) rfl rfl
        · intro ρz wz hz hk hd
          have d40 := hd 8 rfl 40 rfl
          exact sk_val (by exact xr_slice_l (K := (kI .u8)) (v := V0_0) rfl Try.underlying38 sz5 d40 (R0_0.gr (fB.gr hz)) rfl (by decide) g30) rfl ⟨_, (R0_0.gr (fB.gr hz)).cut (lo := 8) (hi := (List.length a0 : Int)) (by decide) g30 (Int.le_refl _), rfl⟩
        · intro ρz wz hz hk hd
          obtain ⟨u31, r29, d41⟩ := hd 9 rfl 41 rfl
          exact sk_val (v := sv (List.map toB (cut a0 8 (List.length a0 : Int)))) (by exact xr_toStr rfl Try.underlying38 Try.underlying5 Try.underlying9 d41 r29) rfl rfl
        · intro ρz wz hz hk hd
          have d35 := hd 3 rfl 35 rfl
          exact sk_val (v := .int .i64 (IntKind.i64.wrap (ix a0 4))) (by exact xr_assign rfl d35) rfl rfl
        · intro ρz wz hz hk hd
          have d39 := hd 7 rfl 39 rfl
          exact sk_val (v := .int .i64 (IntKind.i64.wrap (ix a0 5))) (by exact xr_assign rfl d39) rfl rfl
      · intro ρ32 w33 q34 hk hd
        have e2 := hd 11 rfl 2 rfl
        have e3 := hd 12 rfl 3 rfl
        have e42 := hd 10 rfl 42 rfl
        have fB := fB.gr q34
        refine ol_val (v := sv (List.map toB (cut a0 8 (List.length a0 : Int)))) (by exact xr_assign rfl e42) rfl rfl rfl ?_
        refine ol_val (v := .bool true) (by exact xr_assign rfl rfl) rfl rfl rfl ?_
        refine ol_nil ?_
        refine cw_ret ?_
        repeat (first | with_reducible refine thn_r ?_ | with_reducible refine blk_r ?_)
        obtain rfl := Option.some.inj h
        refine fin_ret4 Try.results43 e2 e3 rfl rfl ?_
        exact ⟨_, rfl, rfl, fB⟩
end Go.Proofs.Ytpdglhpohkkeiaa
