/- rickyard/chart.Has: its model, and that the Go function computes it: written by gen.py. -/
import Derived.Test.YtjhajfkfhdnciaaBase
import Derived.Test.YtjhajfkfhdnciaaFchartbit
set_option linter.unusedVariables false
namespace Go.Proofs.Ytjhajfkfhdnciaa
open Go Go.Xw
def chart_Has.f (fu : Nat) (a0 : S_api_Chart) (a1 : Int) : Option Bool := ((chart_bit.f fu a0 a1 : Option (Int × Int × Bool)).bind fun t7 => (((if t7.2.2 = true then (if 0 ≤ t7.1 ∧ t7.1 < 48 then some ((!decide ((bAnd .u8 (Arr.get a0.Bits t7.1) t7.2.1) = 0))) else none) else some (false)) : Option Bool).bind fun x11 => some (x11)))
set_option maxRecDepth 100000 in
set_option maxHeartbeats 400000 in
theorem chart_Has.ok (fu : Nat) (w : World) (a0 : S_api_Chart) (a1 : Int) (r : Bool) (h : chart_Has.f fu a0 a1 = some r) :
    Calls Try.prog 65 (([aggV [Seg.cell (.int .i64 a0.Place), Kd.seg (kA 48 (kI .u8)) a0.Bits], .int .i64 a1] : List Value).toArray) w (fun e w' => ∃ v, e = .returned v ∧ v = .bool r ∧ Gr w w') := by
  unfold chart_Has.f at h
  have fB : Gr w w := Fr.refl _ _
  refine calls_cw Try.func65 rfl Try.ntmps65 rfl ?_
  refine cw_seq ?_
  refine cw_region ?_
  refine ol_op (by exact opv_box (ss := [Seg.cell (.int .i64 a0.Place), Kd.seg (kA 48 (kI .u8)) a0.Bits]) rfl rfl rfl) rfl rfl rfl ?_
  rintro _ w6 ⟨G1, rfl, b2, q3, z4⟩
  have z4 := Nat.le_trans fB.size z4
  have fB := fB.gr q3
  refine ol_val (v := .bool false) (by exact xr_assign rfl rfl) rfl rfl rfl ?_
  refine ol_nil ?_
  refine cw_seq ?_
  refine cw_region ?_
  refine ol_val (v := aggV [Seg.cell (.int .i64 a0.Place), Kd.seg (kA 48 (kI .u8)) a0.Bits]) (by exact xr_loadS (ss := [Seg.cell (.int .i64 a0.Place), Kd.seg (kA 48 (kI .u8)) a0.Bits]) rfl ag81 sz81 rfl rfl (b2.segs 0 2 rfl)) rfl rfl rfl ?_
  refine ol_val (v := .int .i64 a1) (by exact xr_move rfl rfl) rfl rfl rfl ?_
  obtain ⟨t7, k8, h⟩ := bs h
  refine ol_op (by exact opv_call rfl cal114 (ac rfl (ac rfl an)) (chart_bit.ok fu _ a0 a1 _ k8)) rfl rfl rfl ?_
  rintro _ w10 ⟨rfl, q9⟩
  have b2 := b2.gr q9
  have fB := fB.gr q9
  refine ol_val (v := .tuple #[.int .i64 t7.1, .int .u8 t7.2.1, .bool t7.2.2]) (by exact xr_move rfl rfl) rfl rfl rfl ?_
  refine ol_val (v := .int .i64 t7.1) (by exact xr_extract rfl rfl rfl) rfl rfl rfl ?_
  refine ol_val (v := .int .u8 t7.2.1) (by exact xr_extract rfl rfl rfl) rfl rfl rfl ?_
  refine ol_val (v := .bool t7.2.2) (by exact xr_extract rfl rfl rfl) rfl rfl rfl ?_
  refine ol_val (v := .int .i64 t7.1) (by exact xr_assign rfl rfl) rfl rfl rfl ?_
  refine ol_val (v := .int .u8 t7.2.1) (by exact xr_assign rfl rfl) rfl rfl rfl ?_
  refine ol_val (v := .bool t7.2.2) (by exact xr_assign rfl rfl) rfl rfl rfl ?_
  refine ol_nil ?_
  refine cw_seq ?_
  obtain ⟨x11, j12, h⟩ := bs h
  refine cw_mid (fun ρ' w' => ρ' 4 = .bool x11 ∧ w10 = w') ?_ ?_
  · skip
    refine cw_region ?_
    refine ol_val (v := .bool t7.2.2) (by exact xr_move rfl rfl) rfl rfl rfl ?_
    refine ol_val (v := .bool t7.2.2) (by exact xr_move rfl rfl) rfl rfl rfl ?_
    rcases is j12 with ⟨c13, j12⟩ | ⟨c13, j12⟩
    · skip
      refine ol_gval (v := .int .i64 t7.1) (by exact xr_move rfl rfl) rfl rfl rfl rfl rfl c13 ?_
      refine ol_gval (v := .pointer (some ⟨G1, 1, none⟩)) (by exact xr_fieldAddr (p := 0) (q := 1) rfl fl81_1 rfl) rfl rfl rfl rfl rfl c13 ?_
      obtain ⟨g14, j12⟩ := gs j12
      refine ol_gval (v := .pointer (some ⟨G1, 1 + Int.toNat t7.1 * 1, none⟩)) (by exact xr_indexA (p := 1) (s := 1) rfl Try.underlying79 sz5 rfl rfl g14.1 g14.2) rfl rfl rfl rfl rfl c13 ?_
      refine ol_gval (v := .int .u8 (Arr.get a0.Bits t7.1)) (by exact xr_load1 (v := .int .u8 (Arr.get a0.Bits t7.1)) rfl ag5 rfl (At.arr (a := a0.Bits) (b2.seg 1 rfl rfl) g14.1 g14.2)) rfl rfl rfl rfl rfl c13 ?_
      refine ol_gval (v := .int .u8 t7.2.1) (by exact xr_move rfl rfl) rfl rfl rfl rfl rfl c13 ?_
      refine ol_gval (v := .int .u8 (bAnd .u8 (Arr.get a0.Bits t7.1) t7.2.1)) (by exact xr_and rfl rfl rfl) rfl rfl rfl rfl rfl c13 ?_
      refine ol_gval (v := .bool (!decide ((bAnd .u8 (Arr.get a0.Bits t7.1) t7.2.1) = 0))) (by exact xr_neI rfl Try.underlying5 rfl rfl rfl) rfl rfl rfl rfl rfl c13 ?_
      refine ol_val (v := .bool (!decide ((bAnd .u8 (Arr.get a0.Bits t7.1) t7.2.1) = 0))) (by exact xr_pickT rfl rfl c13 rfl) rfl rfl rfl ?_
      refine ol_val (v := .bool (!decide ((bAnd .u8 (Arr.get a0.Bits t7.1) t7.2.1) = 0))) (by exact xr_assign rfl rfl) rfl rfl rfl ?_
      refine ol_nil ?_
      obtain rfl := Option.some.inj j12
      refine thn_i ?_
      exact ⟨rfl, rfl⟩
    · skip
      refine ol_gskip rfl rfl rfl rfl rfl c13 ?_
      refine ol_gskip rfl rfl rfl rfl rfl c13 ?_
      refine ol_gskip rfl rfl rfl rfl rfl c13 ?_
      refine ol_gskip rfl rfl rfl rfl rfl c13 ?_
      refine ol_gskip rfl rfl rfl rfl rfl c13 ?_
      refine ol_gskip rfl rfl rfl rfl rfl c13 ?_
      refine ol_gskip rfl rfl rfl rfl rfl c13 ?_
      refine ol_val (v := .bool false) (by exact xr_pickF rfl rfl c13 rfl) rfl rfl rfl ?_
      refine ol_val (v := .bool false) (by exact xr_assign rfl rfl) rfl rfl rfl ?_
      refine ol_nil ?_
      obtain rfl := Option.some.inj j12
      refine thn_i ?_
      exact ⟨rfl, rfl⟩
  · skip
    rintro ρ15 _ ⟨e4, rfl⟩
    refine cw_ret ?_
    repeat (first | with_reducible refine thn_r ?_ | with_reducible refine blk_r ?_)
    obtain rfl := Option.some.inj h
    refine fin_ret1 Try.results65 e4 ?_
    exact ⟨_, rfl, rfl, fB⟩
end Go.Proofs.Ytjhajfkfhdnciaa
