/- rickyard/rickyardlaw10.awake: its model, and that the Go function computes it: written by gen.py. -/
import Derived.Test.YtjhajfkfhdnciaaBase
import Derived.Test.YtjhajfkfhdnciaaFchartMark
import Derived.Test.YtjhajfkfhdnciaaFchartHas
import Derived.Test.YtjhajfkfhdnciaaFchartCount
set_option linter.unusedVariables false
namespace Go.Proofs.Ytjhajfkfhdnciaa
open Go Go.Xw
def rickyardlaw10_awake.f (fu : Nat) : Option Bool := ((chart_Mark.f fu (⟨1, (Arr.rep 48 (0 : Int))⟩ : S_api_Chart) 384 true : Option (S_api_Chart × Bool)).bind fun t1 => (((if t1.2 = true then (if (decide ((Arr.get t1.1.Bits 0) = 1)) = true then ((chart_Has.f fu t1.1 384 : Option Bool).bind fun t17 => (if t17 = true then ((chart_Count.f fu t1.1 : Option Int).bind fun t22 => some ((decide (t22 = 1)))) else some (false))) else some (false)) else some (false)) : Option Bool).bind fun x13 => some (x13)))
set_option maxRecDepth 100000 in
set_option maxHeartbeats 400000 in
theorem rickyardlaw10_awake.ok (fu : Nat) (w : World)  (r : Bool) (h : rickyardlaw10_awake.f fu = some r) :
    Calls Try.prog 59 (([] : List Value).toArray) w (fun e w' => ∃ v, e = .returned v ∧ v = .bool r ∧ Gr w w') := by
  unfold rickyardlaw10_awake.f at h
  have fB : Gr w w := Fr.refl _ _
  refine calls_cw Try.func59 rfl Try.ntmps59 rfl ?_
  refine cw_seq ?_
  refine cw_region ?_
  refine ol_val (v := .bool false) (by exact xr_assign rfl rfl) rfl rfl rfl ?_
  refine ol_nil ?_
  refine cw_seq ?_
  refine cw_region ?_
  refine ol_val (v := aggV [Seg.cell (.int .i64 1), Kd.seg (kA 48 (kI .u8)) (Arr.rep 48 (0 : Int))]) (by exact xr_build (vals := [(0, .int .i64 1)]) rfl ⟨rfl, rfl, trivial⟩ (bl81_0 1 _)) rfl rfl rfl ?_
  obtain ⟨t1, k2, h⟩ := bs h
  refine ol_op (by exact opv_call rfl cal60 (ac rfl (ac rfl (ac rfl an))) (chart_Mark.ok fu _ (⟨1, (Arr.rep 48 (0 : Int))⟩ : S_api_Chart) 384 true _ k2)) rfl rfl rfl ?_
  rintro _ w4 ⟨rfl, q3⟩
  have fB := fB.gr q3
  refine ol_val (v := .tuple #[aggV [Seg.cell (.int .i64 t1.1.Place), Kd.seg (kA 48 (kI .u8)) t1.1.Bits], .bool t1.2]) (by exact xr_move rfl rfl) rfl rfl rfl ?_
  refine ol_val (v := aggV [Seg.cell (.int .i64 t1.1.Place), Kd.seg (kA 48 (kI .u8)) t1.1.Bits]) (by exact xr_extract rfl rfl rfl) rfl rfl rfl ?_
  refine ol_val (v := .bool t1.2) (by exact xr_extract rfl rfl rfl) rfl rfl rfl ?_
  refine ol_op (by exact opv_alloc (ss := [Seg.cell (.int .i64 (0 : Int)), Kd.seg (kA 48 (kI .u8)) (Arr.rep 48 (0 : Int))]) rfl ze81 rfl) rfl rfl rfl ?_
  rintro _ w10 ⟨G5, rfl, b6, q7, z8⟩
  have z8 := Nat.le_trans fB.size z8
  have fB := fB.gr q7
  refine ol_op0 (by exact opv_store (ss' := [Seg.cell (.int .i64 t1.1.Place), Kd.seg (kA 48 (kI .u8)) t1.1.Bits]) (xs := cellsOf [Seg.cell (.int .i64 t1.1.Place), Kd.seg (kA 48 (kI .u8)) t1.1.Bits]) rfl sz81 rfl rfl rfl (len_cellsOf _) (one_cellsOf _) b6 (Spl.segs _ 0 2 [Seg.cell (.int .i64 t1.1.Place), Kd.seg (kA 48 (kI .u8)) t1.1.Bits] rfl rfl)) rfl rfl ?_
  rintro _ w12 ⟨b6, q11⟩
  have fB := fB.wr q11 z8
  refine ol_val (v := .bool t1.2) (by exact xr_assign rfl rfl) rfl rfl rfl ?_
  refine ol_nil ?_
  refine cw_seq ?_
  obtain ⟨x13, j14, h⟩ := bs h
  refine cw_mid (fun ρ' w' => ρ' 0 = .bool x13 ∧ Gr w12 w') ?_ ?_
  · skip
    refine cw_region ?_
    refine ol_val (v := .bool t1.2) (by exact xr_move rfl rfl) rfl rfl rfl ?_
    refine ol_val (v := .bool t1.2) (by exact xr_move rfl rfl) rfl rfl rfl ?_
    rcases is j14 with ⟨c15, j14⟩ | ⟨c15, j14⟩
    · skip
      refine ol_gval (v := .pointer (some ⟨G5, 1, none⟩)) (by exact xr_fieldAddr (p := 0) (q := 1) rfl fl81_1 rfl) rfl rfl rfl rfl rfl c15 ?_
      refine ol_gval (v := .pointer (some ⟨G5, 1 + Int.toNat 0 * 1, none⟩)) (by exact xr_indexA (p := 1) (s := 1) rfl Try.underlying79 sz5 rfl rfl (by decide) (by decide)) rfl rfl rfl rfl rfl c15 ?_
      refine ol_gval (v := .int .u8 (Arr.get t1.1.Bits 0)) (by exact xr_load1 (v := .int .u8 (Arr.get t1.1.Bits 0)) rfl ag5 rfl (At.arr (a := t1.1.Bits) (b6.seg 1 rfl rfl) (by decide) (by decide))) rfl rfl rfl rfl rfl c15 ?_
      refine ol_gval (v := .bool (decide ((Arr.get t1.1.Bits 0) = 1))) (by exact xr_eqI rfl Try.underlying5 rfl rfl rfl) rfl rfl rfl rfl rfl c15 ?_
      refine ol_val (v := .bool (decide ((Arr.get t1.1.Bits 0) = 1))) (by exact xr_pickT rfl rfl c15 rfl) rfl rfl rfl ?_
      refine ol_val (v := .bool (decide ((Arr.get t1.1.Bits 0) = 1))) (by exact xr_move rfl rfl) rfl rfl rfl ?_
      rcases is j14 with ⟨c16, j14⟩ | ⟨c16, j14⟩
      · skip
        refine ol_gval (v := aggV [Seg.cell (.int .i64 t1.1.Place), Kd.seg (kA 48 (kI .u8)) t1.1.Bits]) (by exact xr_loadS (ss := [Seg.cell (.int .i64 t1.1.Place), Kd.seg (kA 48 (kI .u8)) t1.1.Bits]) rfl ag81 sz81 rfl rfl (b6.segs 0 2 rfl)) rfl rfl rfl rfl rfl c16 ?_
        obtain ⟨t17, k18, j14⟩ := bs j14
        refine ol_gop (by exact opv_call rfl cal65 (ac rfl (ac rfl an)) (chart_Has.ok fu _ t1.1 384 _ k18)) rfl rfl rfl rfl rfl c16 ?_
        rintro _ w20 ⟨rfl, q19⟩
        have b6 := b6.gr q19
        have fB := fB.gr q19
        refine ol_val (v := .bool t17) (by exact xr_pickT rfl rfl c16 rfl) rfl rfl rfl ?_
        refine ol_val (v := .bool t17) (by exact xr_move rfl rfl) rfl rfl rfl ?_
        rcases is j14 with ⟨c21, j14⟩ | ⟨c21, j14⟩
        · skip
          refine ol_gval (v := aggV [Seg.cell (.int .i64 t1.1.Place), Kd.seg (kA 48 (kI .u8)) t1.1.Bits]) (by exact xr_loadS (ss := [Seg.cell (.int .i64 t1.1.Place), Kd.seg (kA 48 (kI .u8)) t1.1.Bits]) rfl ag81 sz81 rfl rfl (b6.segs 0 2 rfl)) rfl rfl rfl rfl rfl c21 ?_
          obtain ⟨t22, k23, j14⟩ := bs j14
          refine ol_gop (by exact opv_call rfl cal68 (ac rfl an) (chart_Count.ok fu _ t1.1 _ k23)) rfl rfl rfl rfl rfl c21 ?_
          rintro _ w25 ⟨rfl, q24⟩
          have fB := fB.gr q24
          refine ol_gval (v := .bool (decide (t22 = 1))) (by exact xr_eqI rfl Try.underlying3 rfl rfl rfl) rfl rfl rfl rfl rfl c21 ?_
          refine ol_val (v := .bool (decide (t22 = 1))) (by exact xr_pickT rfl rfl c21 rfl) rfl rfl rfl ?_
          refine ol_val (v := .bool (decide (t22 = 1))) (by exact xr_assign rfl rfl) rfl rfl rfl ?_
          refine ol_nil ?_
          obtain rfl := Option.some.inj j14
          refine thn_i ?_
          exact ⟨rfl, (q19.gr q24)⟩
        · skip
          refine ol_gskip rfl rfl rfl rfl rfl c21 ?_
          refine ol_gskip rfl rfl rfl rfl rfl c21 ?_
          refine ol_gskip rfl rfl rfl rfl rfl c21 ?_
          refine ol_val (v := .bool false) (by exact xr_pickF rfl rfl c21 rfl) rfl rfl rfl ?_
          refine ol_val (v := .bool false) (by exact xr_assign rfl rfl) rfl rfl rfl ?_
          refine ol_nil ?_
          obtain rfl := Option.some.inj j14
          refine thn_i ?_
          exact ⟨rfl, q19⟩
      · skip
        refine ol_gskip rfl rfl rfl rfl rfl c16 ?_
        refine ol_gskip rfl rfl rfl rfl rfl c16 ?_
        refine ol_val (v := .bool false) (by exact xr_pickF rfl rfl c16 rfl) rfl rfl rfl ?_
        refine ol_val (v := .bool false) (by exact xr_move rfl rfl) rfl rfl rfl ?_
        refine ol_gskip rfl rfl rfl rfl rfl rfl ?_
        refine ol_gskip rfl rfl rfl rfl rfl rfl ?_
        refine ol_gskip rfl rfl rfl rfl rfl rfl ?_
        refine ol_val (v := .bool false) (by exact xr_pickF rfl rfl rfl rfl) rfl rfl rfl ?_
        refine ol_val (v := .bool false) (by exact xr_assign rfl rfl) rfl rfl rfl ?_
        refine ol_nil ?_
        obtain rfl := Option.some.inj j14
        refine thn_i ?_
        exact ⟨rfl, Fr.refl _ _⟩
    · skip
      refine ol_gskip rfl rfl rfl rfl rfl c15 ?_
      refine ol_gskip rfl rfl rfl rfl rfl c15 ?_
      refine ol_gskip rfl rfl rfl rfl rfl c15 ?_
      refine ol_gskip rfl rfl rfl rfl rfl c15 ?_
      refine ol_val (v := .bool false) (by exact xr_pickF rfl rfl c15 rfl) rfl rfl rfl ?_
      refine ol_val (v := .bool false) (by exact xr_move rfl rfl) rfl rfl rfl ?_
      refine ol_gskip rfl rfl rfl rfl rfl rfl ?_
      refine ol_gskip rfl rfl rfl rfl rfl rfl ?_
      refine ol_val (v := .bool false) (by exact xr_pickF rfl rfl rfl rfl) rfl rfl rfl ?_
      refine ol_val (v := .bool false) (by exact xr_move rfl rfl) rfl rfl rfl ?_
      refine ol_gskip rfl rfl rfl rfl rfl rfl ?_
      refine ol_gskip rfl rfl rfl rfl rfl rfl ?_
      refine ol_gskip rfl rfl rfl rfl rfl rfl ?_
      refine ol_val (v := .bool false) (by exact xr_pickF rfl rfl rfl rfl) rfl rfl rfl ?_
      refine ol_val (v := .bool false) (by exact xr_assign rfl rfl) rfl rfl rfl ?_
      refine ol_nil ?_
      obtain rfl := Option.some.inj j14
      refine thn_i ?_
      exact ⟨rfl, Fr.refl _ _⟩
  · skip
    rintro ρ26 w27 ⟨e0, q28⟩
    have fB := fB.gr q28
    refine cw_ret ?_
    repeat (first | with_reducible refine thn_r ?_ | with_reducible refine blk_r ?_)
    obtain rfl := Option.some.inj h
    refine fin_ret1 Try.results59 e0 ?_
    exact ⟨_, rfl, rfl, fB⟩
end Go.Proofs.Ytjhajfkfhdnciaa
