/- rickyard/block.Open: its model, and that the Go function computes it: written by gen.py. -/
import Derived.Test.YtpdglhpohkkeiaaBase
import Derived.Test.YtpdglhpohkkeiaaFblockright
import Derived.Test.YtpdglhpohkkeiaaFbytesClone
set_option linter.unusedVariables false
namespace Go.Proofs.Ytpdglhpohkkeiaa
open Go Go.Xw
def block_Open.f (fu : Nat) (a0 : List Int) : Option (Int × Int × (List Int) × Bool) := ((block_right.f fu a0 : Option Bool).bind fun t4 => (if (!t4) = true then some (0, 0, [], false) else (if (4 : Int) < (List.length a0 : Int) then (if (5 : Int) < (List.length a0 : Int) then (if (8 : Int) ≤ (List.length a0 : Int) then ((bytes_Clone.f fu (cut a0 8 (List.length a0 : Int)) : Option (List Int)).bind fun t14 => some ((IntKind.i64.wrap (ix a0 4)), (IntKind.i64.wrap (ix a0 5)), t14, true)) else none) else none) else none)))
set_option maxRecDepth 100000 in
set_option maxHeartbeats 400000 in
theorem block_Open.ok (fu : Nat) (w : World) (a0 : List Int) (V0_0 : Value) (R0_0 : Rd (kI .u8) w V0_0 a0) (r : Int × Int × (List Int) × Bool) (h : block_Open.f fu a0 = some r) :
    Calls Try.prog 40 (([V0_0] : List Value).toArray) w (fun e w' => ∃ v, e = .returned v ∧ ∃ u1 : Value, ∃ o2 : Own (kI .u8) 5 w' w.heap.size u1 r.2.2.1, v = .tuple #[.int .i64 r.1, .int .i64 r.2.1, u1, .bool r.2.2.2] ∧ Gr w w') := by
  unfold block_Open.f at h
  have fB : Gr w w := Fr.refl _ _
  refine calls_cw Try.func40 rfl Try.ntmps40 rfl ?_
  refine cw_seq ?_
  refine cw_region ?_
  refine ol_val (v := .int .i64 0) (by exact xr_assign rfl rfl) rfl rfl rfl ?_
  refine ol_val (v := .int .i64 0) (by exact xr_assign rfl rfl) rfl rfl rfl ?_
  refine ol_val (v := .slice none 0 0) (by exact xr_assign rfl rfl) rfl rfl rfl ?_
  refine ol_val (v := .bool false) (by exact xr_assign rfl rfl) rfl rfl rfl ?_
  refine ol_nil ?_
  refine cw_seq ?_
  refine cw_seq ?_
  refine cw_region ?_
  refine ol_val (v := V0_0) (by exact xr_move rfl rfl) rfl rfl rfl ?_
  obtain ⟨t4, k5, h⟩ := bs h
  refine ol_op (by exact opv_call rfl cal100 (ac rfl an) (block_right.ok fu _ a0 V0_0 (R0_0.gr fB) _ k5)) rfl rfl rfl ?_
  rintro _ w7 ⟨rfl, q6⟩
  have fB := fB.gr q6
  refine ol_val (v := .bool (!t4)) (by exact xr_not rfl rfl) rfl rfl rfl ?_
  refine ol_nil ?_
  rcases is h with ⟨c8, h⟩ | ⟨c8, h⟩
  · refine cw_condT rfl c8 ?_
    refine cw_seq ?_
    refine cw_region ?_
    refine ol_val (v := .int .i64 0) (by exact xr_assign rfl rfl) rfl rfl rfl ?_
    refine ol_val (v := .int .i64 0) (by exact xr_assign rfl rfl) rfl rfl rfl ?_
    refine ol_val (v := .slice none 0 0) (by exact xr_assign rfl rfl) rfl rfl rfl ?_
    refine ol_val (v := .bool false) (by exact xr_assign rfl rfl) rfl rfl rfl ?_
    refine ol_nil ?_
    refine cw_ret ?_
    repeat (first | with_reducible refine thn_r ?_ | with_reducible refine blk_r ?_)
    obtain rfl := Option.some.inj h
    refine fin_ret4 Try.results40 rfl rfl rfl rfl ?_
    exact ⟨_, rfl, (.slice none 0 0), Own.nil _ _ _ _, rfl, fB⟩
  · refine cw_condF rfl c8 ?_
    refine cw_skip ?_
    refine cw_seq ?_
    obtain ⟨g9, h⟩ := gs h
    obtain ⟨g10, h⟩ := gs h
    obtain ⟨g12, h⟩ := gs h
    obtain ⟨t14, k15, h⟩ := bs h
    refine cw_drawL 13 [fun vz wz => vz = (V0_0 : Value), fun vz wz => vz = (.pointer (some ⟨(sb V0_0), so V0_0 + Int.toNat 4 * 1, none⟩) : Value), fun vz wz => vz = (.int .u8 (ix a0 4) : Value), fun vz wz => vz = (.int .i64 (IntKind.i64.wrap (ix a0 4)) : Value), fun vz wz => vz = (V0_0 : Value), fun vz wz => vz = (.pointer (some ⟨(sb V0_0), so V0_0 + Int.toNat 5 * 1, none⟩) : Value), fun vz wz => vz = (.int .u8 (ix a0 5) : Value), fun vz wz => vz = (.int .i64 (IntKind.i64.wrap (ix a0 5)) : Value), fun vz wz => vz = (V0_0 : Value), fun vz wz => ∃ u13 : Value, ∃ r11 : Rd (kI .u8) wz u13 (cut a0 8 (List.length a0 : Int)), vz = (u13 : Value), fun vz wz => ∃ u16 : Value, ∃ o17 : Own (kI .u8) 5 wz w.heap.size u16 t14, vz = (u16 : Value), fun vz wz => vz = (.int .i64 (IntKind.i64.wrap (ix a0 4)) : Value), fun vz wz => vz = (.int .i64 (IntKind.i64.wrap (ix a0 5)) : Value)] mo rfl ⟨fun _ _ _ h _ => h, fun _ _ _ h _ => h, fun _ _ _ h _ => h, fun _ _ _ h _ => h, fun _ _ _ h _ => h, fun _ _ _ h _ => h, fun _ _ _ h _ => h, fun _ _ _ h _ => h, fun _ _ _ h _ => h, fun _ _ _ ⟨u13, r11, h⟩ q => ⟨u13, r11.gr q, h⟩, fun _ _ _ ⟨u16, o17, h⟩ q => ⟨u16, o17.gr q, h⟩, fun _ _ _ h _ => h, fun _ _ _ h _ => h, trivial⟩ ?_ ?_
    · refine ⟨?_, ?_, ?_, ?_, ?_, ?_, ?_, ?_, ?_, ?_, ?_, ?_, ?_, trivial⟩
      · intro ρz wz hz hk hd
        exact sk_val (v := V0_0) (by exact xr_move rfl ((hk 0 rfl).trans rfl)) rfl rfl
      · intro ρz wz hz hk hd
        have d9 := hd 0 rfl 9 rfl
        exact sk_val (by exact xr_indexR (K := (kI .u8)) (v := V0_0) rfl Try.underlying38 sz5 d9 (R0_0.gr (fB.gr hz)) rfl (by decide) g9) rfl rfl
      · intro ρz wz hz hk hd
        have d10 := hd 1 rfl 10 rfl
        exact sk_val (v := .int .u8 (ix a0 4)) (by exact xr_load1 (v := .int .u8 (ix a0 4)) rfl ag5 d10 ((R0_0.gr (fB.gr hz)).elem (by decide) g9)) rfl rfl
      · intro ρz wz hz hk hd
        have d11 := hd 2 rfl 11 rfl
        exact sk_val (v := .int .i64 (IntKind.i64.wrap (ix a0 4))) (by exact xr_conv rfl Try.underlying5 Try.underlying3 d11) rfl rfl
      · intro ρz wz hz hk hd
        exact sk_val (v := V0_0) (by exact xr_move rfl ((hk 0 rfl).trans rfl)) rfl rfl
      · intro ρz wz hz hk hd
        have d13 := hd 4 rfl 13 rfl
        exact sk_val (by exact xr_indexR (K := (kI .u8)) (v := V0_0) rfl Try.underlying38 sz5 d13 (R0_0.gr (fB.gr hz)) rfl (by decide) g10) rfl rfl
      · intro ρz wz hz hk hd
        have d14 := hd 5 rfl 14 rfl
        exact sk_val (v := .int .u8 (ix a0 5)) (by exact xr_load1 (v := .int .u8 (ix a0 5)) rfl ag5 d14 ((R0_0.gr (fB.gr hz)).elem (by decide) g10)) rfl rfl
      · intro ρz wz hz hk hd
        have d15 := hd 6 rfl 15 rfl
        exact sk_val (v := .int .i64 (IntKind.i64.wrap (ix a0 5))) (by exact xr_conv rfl Try.underlying5 Try.underlying3 d15) rfl rfl
      · intro ρz wz hz hk hd
        exact sk_val (v := V0_0) (by exact xr_move rfl ((hk 0 rfl).trans rfl)) rfl rfl
      · intro ρz wz hz hk hd
        have d17 := hd 8 rfl 17 rfl
        exact sk_val (by exact xr_slice_l (K := (kI .u8)) (v := V0_0) rfl Try.underlying38 sz5 d17 (R0_0.gr (fB.gr hz)) rfl (by decide) g12) rfl ⟨_, (R0_0.gr (fB.gr hz)).cut (lo := 8) (hi := (List.length a0 : Int)) (by decide) g12 (Int.le_refl _), rfl⟩
      · intro ρz wz hz hk hd
        obtain ⟨u13, r11, d18⟩ := hd 9 rfl 18 rfl
        refine sk_op (by exact opv_call rfl cal101 (ac d18 an) (bytes_Clone.ok fu _ (cut a0 8 (List.length a0 : Int)) u13 (r11) _ k15)) rfl ?_
        rintro u16 wy ⟨_, o17, rfl, q19⟩
        exact ⟨⟨u16, Own.base o17 ((Nat.le_trans fB.size hz.size)), rfl⟩, q19⟩
      · intro ρz wz hz hk hd
        have d12 := hd 3 rfl 12 rfl
        exact sk_val (v := .int .i64 (IntKind.i64.wrap (ix a0 4))) (by exact xr_assign rfl d12) rfl rfl
      · intro ρz wz hz hk hd
        have d16 := hd 7 rfl 16 rfl
        exact sk_val (v := .int .i64 (IntKind.i64.wrap (ix a0 5))) (by exact xr_assign rfl d16) rfl rfl
    · intro ρ20 w21 q22 hk hd
      have e2 := hd 11 rfl 2 rfl
      have e3 := hd 12 rfl 3 rfl
      obtain ⟨u23, o24, e19⟩ := hd 10 rfl 19 rfl
      have fB := fB.gr q22
      refine ol_val (v := u23) (by exact xr_assign rfl e19) rfl rfl rfl ?_
      refine ol_val (v := .bool true) (by exact xr_assign rfl rfl) rfl rfl rfl ?_
      refine ol_nil ?_
      refine cw_ret ?_
      repeat (first | with_reducible refine thn_r ?_ | with_reducible refine blk_r ?_)
      obtain rfl := Option.some.inj h
      refine fin_ret4 Try.results40 e2 e3 rfl rfl ?_
      exact ⟨_, rfl, u23, o24, rfl, fB⟩
end Go.Proofs.Ytpdglhpohkkeiaa
