/- rickyard/chart.bit: its model, and that the Go function computes it: written by gen.py. -/
import Derived.Test.YtjhajfkfhdnciaaBase
import Derived.Test.YtjhajfkfhdnciaaFchartright
set_option linter.unusedVariables false
namespace Go.Proofs.Ytjhajfkfhdnciaa
open Go Go.Xw
def chart_bit.f (fu : Nat) (a0 : S_api_Chart) (a1 : Int) : Option (Int × Int × Bool) := ((((chart_right.f fu a0 : Option Bool).bind fun t9 => (if (!t9) = true then some (true) else (if (decide (a1 < 0)) = true then some (true) else some ((!decide ((IntKind.i64.wrap (Int.tdiv a1 384)) = a0.Place)))))) : Option Bool).bind fun x7 => (if x7 = true then some (0, 0, false) else (if 0 ≤ (Int.tmod (Int.tmod a1 384) 8) then some ((IntKind.i64.wrap (Int.tdiv (Int.tmod a1 384) 8)), (shL .u8 1 (Int.tmod (Int.tmod a1 384) 8)), true) else none)))
set_option maxRecDepth 100000 in
set_option maxHeartbeats 400000 in
theorem chart_bit.ok (fu : Nat) (w : World) (a0 : S_api_Chart) (a1 : Int) (r : Int × Int × Bool) (h : chart_bit.f fu a0 a1 = some r) :
    Calls Try.prog 114 (([aggV [Seg.cell (.int .i64 a0.Place), Kd.seg (kA 48 (kI .u8)) a0.Bits], .int .i64 a1] : List Value).toArray) w (fun e w' => ∃ v, e = .returned v ∧ v = .tuple #[.int .i64 r.1, .int .u8 r.2.1, .bool r.2.2] ∧ Gr w w') := by
  unfold chart_bit.f at h
  have fB : Gr w w := Fr.refl _ _
  refine calls_cw Try.func114 rfl Try.ntmps114 rfl ?_
  refine cw_seq ?_
  refine cw_region ?_
  refine ol_op (by exact opv_box (ss := [Seg.cell (.int .i64 a0.Place), Kd.seg (kA 48 (kI .u8)) a0.Bits]) rfl rfl rfl) rfl rfl rfl ?_
  rintro _ w6 ⟨G1, rfl, b2, q3, z4⟩
  have z4 := Nat.le_trans fB.size z4
  have fB := fB.gr q3
  refine ol_val (v := .int .i64 0) (by exact xr_assign rfl rfl) rfl rfl rfl ?_
  refine ol_val (v := .int .u8 0) (by exact xr_assign rfl rfl) rfl rfl rfl ?_
  refine ol_val (v := .bool false) (by exact xr_assign rfl rfl) rfl rfl rfl ?_
  refine ol_nil ?_
  refine cw_seq ?_
  refine cw_seq ?_
  obtain ⟨x7, j8, h⟩ := bs h
  refine cw_mid (fun ρ' w' => ρ' 1 = .int .i64 a1 ∧ ρ' 21 = .bool x7 ∧ Gr w6 w') ?_ ?_
  · skip
    refine cw_region ?_
    refine ol_val (v := aggV [Seg.cell (.int .i64 a0.Place), Kd.seg (kA 48 (kI .u8)) a0.Bits]) (by exact xr_loadS (ss := [Seg.cell (.int .i64 a0.Place), Kd.seg (kA 48 (kI .u8)) a0.Bits]) rfl ag81 sz81 rfl rfl (b2.segs 0 2 rfl)) rfl rfl rfl ?_
    obtain ⟨t9, k10, j8⟩ := bs j8
    refine ol_op (by exact opv_call rfl cal115 (ac rfl an) (chart_right.ok fu _ a0 _ k10)) rfl rfl rfl ?_
    rintro _ w12 ⟨rfl, q11⟩
    have b2 := b2.gr q11
    have fB := fB.gr q11
    refine ol_val (v := .bool (!t9)) (by exact xr_not rfl rfl) rfl rfl rfl ?_
    refine ol_val (v := .bool (!t9)) (by exact xr_move rfl rfl) rfl rfl rfl ?_
    rcases is j8 with ⟨c13, j8⟩ | ⟨c13, j8⟩
    · skip
      refine ol_gskip rfl rfl rfl rfl rfl c13 ?_
      refine ol_gskip rfl rfl rfl rfl rfl c13 ?_
      refine ol_val (v := .bool true) (by exact xr_pickT rfl rfl c13 rfl) rfl rfl rfl ?_
      refine ol_val (v := .bool true) (by exact xr_move rfl rfl) rfl rfl rfl ?_
      refine ol_gskip rfl rfl rfl rfl rfl rfl ?_
      refine ol_gskip rfl rfl rfl rfl rfl rfl ?_
      refine ol_gskip rfl rfl rfl rfl rfl rfl ?_
      refine ol_gskip rfl rfl rfl rfl rfl rfl ?_
      refine ol_gskip rfl rfl rfl rfl rfl rfl ?_
      refine ol_val (v := .bool true) (by exact xr_pickT rfl rfl rfl rfl) rfl rfl rfl ?_
      refine ol_nil ?_
      obtain rfl := Option.some.inj j8
      refine thn_i ?_
      exact ⟨rfl, rfl, q11⟩
    · skip
      refine ol_gval (v := .int .i64 a1) (by exact xr_move rfl rfl) rfl rfl rfl rfl rfl c13 ?_
      refine ol_gval (v := .bool (decide (a1 < 0))) (by exact xr_lss rfl rfl rfl) rfl rfl rfl rfl rfl c13 ?_
      refine ol_val (v := .bool (decide (a1 < 0))) (by exact xr_pickF rfl rfl c13 rfl) rfl rfl rfl ?_
      refine ol_val (v := .bool (decide (a1 < 0))) (by exact xr_move rfl rfl) rfl rfl rfl ?_
      rcases is j8 with ⟨c14, j8⟩ | ⟨c14, j8⟩
      · skip
        refine ol_gskip rfl rfl rfl rfl rfl c14 ?_
        refine ol_gskip rfl rfl rfl rfl rfl c14 ?_
        refine ol_gskip rfl rfl rfl rfl rfl c14 ?_
        refine ol_gskip rfl rfl rfl rfl rfl c14 ?_
        refine ol_gskip rfl rfl rfl rfl rfl c14 ?_
        refine ol_val (v := .bool true) (by exact xr_pickT rfl rfl c14 rfl) rfl rfl rfl ?_
        refine ol_nil ?_
        obtain rfl := Option.some.inj j8
        refine thn_i ?_
        exact ⟨rfl, rfl, q11⟩
      · skip
        refine ol_gval (v := .int .i64 a1) (by exact xr_move rfl rfl) rfl rfl rfl rfl rfl c14 ?_
        refine ol_gval (v := .int .i64 (IntKind.i64.wrap (Int.tdiv a1 384))) (by exact xr_quo rfl rfl rfl (by decide)) rfl rfl rfl rfl rfl c14 ?_
        refine ol_gval (v := .pointer (some ⟨G1, 0, none⟩)) (by exact xr_fieldAddr (p := 0) (q := 0) rfl fl81_0 rfl) rfl rfl rfl rfl rfl c14 ?_
        refine ol_gval (v := .int .i64 a0.Place) (by exact xr_load1 (v := .int .i64 a0.Place) rfl ag3 rfl (b2.seg 0 rfl rfl)) rfl rfl rfl rfl rfl c14 ?_
        refine ol_gval (v := .bool (!decide ((IntKind.i64.wrap (Int.tdiv a1 384)) = a0.Place))) (by exact xr_neI rfl Try.underlying3 rfl rfl rfl) rfl rfl rfl rfl rfl c14 ?_
        refine ol_val (v := .bool (!decide ((IntKind.i64.wrap (Int.tdiv a1 384)) = a0.Place))) (by exact xr_pickF rfl rfl c14 rfl) rfl rfl rfl ?_
        refine ol_nil ?_
        obtain rfl := Option.some.inj j8
        refine thn_i ?_
        exact ⟨rfl, rfl, q11⟩
  · skip
    rintro ρ15 w16 ⟨e1, e21, q17⟩
    have fB := fB.gr q17
    rcases is h with ⟨c18, h⟩ | ⟨c18, h⟩
    · refine cw_condT e21 c18 ?_
      refine cw_seq ?_
      refine cw_region ?_
      refine ol_val (v := .int .i64 0) (by exact xr_assign rfl rfl) rfl rfl rfl ?_
      refine ol_val (v := .int .u8 0) (by exact xr_assign rfl rfl) rfl rfl rfl ?_
      refine ol_val (v := .bool false) (by exact xr_assign rfl rfl) rfl rfl rfl ?_
      refine ol_nil ?_
      refine cw_ret ?_
      repeat (first | with_reducible refine thn_r ?_ | with_reducible refine blk_r ?_)
      obtain rfl := Option.some.inj h
      refine fin_ret3 Try.results114 rfl rfl rfl ?_
      exact ⟨_, rfl, rfl, fB⟩
    · refine cw_condF e21 c18 ?_
      refine cw_skip ?_
      refine cw_seq ?_
      refine cw_region ?_
      refine ol_val (v := .int .i64 a1) (by exact xr_move rfl e1) rfl rfl rfl ?_
      refine ol_val (v := .int .i64 (Int.tmod a1 384)) (by exact xr_rem rfl rfl rfl (by decide)) rfl rfl rfl ?_
      refine ol_val (v := .int .i64 (Int.tmod a1 384)) (by exact xr_assign rfl rfl) rfl rfl rfl ?_
      refine ol_nil ?_
      refine cw_seq ?_
      obtain ⟨g19, h⟩ := gs h
      refine cw_drawL 6 [fun vz wz => vz = (.int .i64 (Int.tmod a1 384) : Value), fun vz wz => vz = (.int .i64 (IntKind.i64.wrap (Int.tdiv (Int.tmod a1 384) 8)) : Value), fun vz wz => vz = (.int .i64 (Int.tmod a1 384) : Value), fun vz wz => vz = (.int .i64 (Int.tmod (Int.tmod a1 384) 8) : Value), fun vz wz => vz = (.int .u8 (shL .u8 1 (Int.tmod (Int.tmod a1 384) 8)) : Value), fun vz wz => vz = (.int .i64 (IntKind.i64.wrap (Int.tdiv (Int.tmod a1 384) 8)) : Value)] mo rfl ⟨fun _ _ _ h _ => h, fun _ _ _ h _ => h, fun _ _ _ h _ => h, fun _ _ _ h _ => h, fun _ _ _ h _ => h, fun _ _ _ h _ => h, trivial⟩ ?_ ?_
      · refine ⟨?_, ?_, ?_, ?_, ?_, ?_, trivial⟩
        · intro ρz wz hz hk hd
          exact sk_val (v := .int .i64 (Int.tmod a1 384)) (by exact xr_move rfl ((hk 7 rfl).trans rfl)) rfl rfl
        · intro ρz wz hz hk hd
          have d24 := hd 0 rfl 24 rfl
          exact sk_val (v := .int .i64 (IntKind.i64.wrap (Int.tdiv (Int.tmod a1 384) 8))) (by exact xr_quo rfl d24 rfl (by decide)) rfl rfl
        · intro ρz wz hz hk hd
          exact sk_val (v := .int .i64 (Int.tmod a1 384)) (by exact xr_move rfl ((hk 7 rfl).trans rfl)) rfl rfl
        · intro ρz wz hz hk hd
          have d26 := hd 2 rfl 26 rfl
          exact sk_val (v := .int .i64 (Int.tmod (Int.tmod a1 384) 8)) (by exact xr_rem rfl d26 rfl (by decide)) rfl rfl
        · intro ρz wz hz hk hd
          have d27 := hd 3 rfl 27 rfl
          exact sk_val (v := .int .u8 (shL .u8 1 (Int.tmod (Int.tmod a1 384) 8))) (by exact xr_shl rfl rfl d27 g19) rfl rfl
        · intro ρz wz hz hk hd
          have d25 := hd 1 rfl 25 rfl
          exact sk_val (v := .int .i64 (IntKind.i64.wrap (Int.tdiv (Int.tmod a1 384) 8))) (by exact xr_assign rfl d25) rfl rfl
      · intro ρ20 w21 q22 hk hd
        have e4 := hd 5 rfl 4 rfl
        have e28 := hd 4 rfl 28 rfl
        have fB := fB.gr q22
        refine ol_val (v := .int .u8 (shL .u8 1 (Int.tmod (Int.tmod a1 384) 8))) (by exact xr_assign rfl e28) rfl rfl rfl ?_
        refine ol_val (v := .bool true) (by exact xr_assign rfl rfl) rfl rfl rfl ?_
        refine ol_nil ?_
        refine cw_ret ?_
        repeat (first | with_reducible refine thn_r ?_ | with_reducible refine blk_r ?_)
        obtain rfl := Option.some.inj h
        refine fin_ret3 Try.results114 e4 rfl rfl ?_
        exact ⟨_, rfl, rfl, fB⟩
end Go.Proofs.Ytjhajfkfhdnciaa
