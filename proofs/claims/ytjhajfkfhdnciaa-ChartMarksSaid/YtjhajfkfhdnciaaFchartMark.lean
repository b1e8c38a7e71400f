/- rickyard/chart.Mark: its model, and that the Go function computes it: written by gen.py. -/
import Derived.Test.YtjhajfkfhdnciaaBase
import Derived.Test.YtjhajfkfhdnciaaFchartbit
set_option linter.unusedVariables false
namespace Go.Proofs.Ytjhajfkfhdnciaa
open Go Go.Xw
def chart_Mark.f (fu : Nat) (a0 : S_api_Chart) (a1 : Int) (a2 : Bool) : Option (S_api_Chart × Bool) := ((chart_bit.f fu a0 a1 : Option (Int × Int × Bool)).bind fun t14 => (if (!t14.2.2) = true then some ((⟨(0 : Int), (Arr.rep 48 (0 : Int))⟩ : S_api_Chart), false) else (if 0 ≤ t14.1 ∧ t14.1 < 48 then (if 0 ≤ t14.1 ∧ t14.1 < 48 then (((if a2 = true then (if 0 ≤ t14.1 ∧ t14.1 < 48 then (if 0 ≤ t14.1 ∧ t14.1 < 48 then some ((⟨a0.Place, (Arr.set (Arr.set a0.Bits t14.1 (bNot .u8 (Arr.get a0.Bits t14.1) t14.2.1)) t14.1 (bOr .u8 (Arr.get (Arr.set a0.Bits t14.1 (bNot .u8 (Arr.get a0.Bits t14.1) t14.2.1)) t14.1) t14.2.1))⟩ : S_api_Chart)) else none) else none) else some ((⟨a0.Place, (Arr.set a0.Bits t14.1 (bNot .u8 (Arr.get a0.Bits t14.1) t14.2.1))⟩ : S_api_Chart))) : Option S_api_Chart).bind fun x25 => some (x25, true)) else none) else none)))
set_option maxRecDepth 100000 in
set_option maxHeartbeats 400000 in
theorem chart_Mark.ok (fu : Nat) (w : World) (a0 : S_api_Chart) (a1 : Int) (a2 : Bool) (r : S_api_Chart × Bool) (h : chart_Mark.f fu a0 a1 a2 = some r) :
    Calls Try.prog 60 (([aggV [Seg.cell (.int .i64 a0.Place), Kd.seg (kA 48 (kI .u8)) a0.Bits], .int .i64 a1, .bool a2] : List Value).toArray) w (fun e w' => ∃ v, e = .returned v ∧ v = .tuple #[aggV [Seg.cell (.int .i64 r.1.Place), Kd.seg (kA 48 (kI .u8)) r.1.Bits], .bool r.2] ∧ Gr w w') := by
  unfold chart_Mark.f at h
  have fB : Gr w w := Fr.refl _ _
  refine calls_cw Try.func60 rfl Try.ntmps60 rfl ?_
  refine cw_seq ?_
  refine cw_region ?_
  refine ol_op (by exact opv_box (ss := [Seg.cell (.int .i64 a0.Place), Kd.seg (kA 48 (kI .u8)) a0.Bits]) rfl rfl rfl) rfl rfl rfl ?_
  rintro _ w6 ⟨G1, rfl, b2, q3, z4⟩
  have z4 := Nat.le_trans fB.size z4
  have fB := fB.gr q3
  refine ol_op (by exact opv_alloc (ss := [Seg.cell (.int .i64 (0 : Int)), Kd.seg (kA 48 (kI .u8)) (Arr.rep 48 (0 : Int))]) rfl ze81 rfl) rfl rfl rfl ?_
  rintro _ w12 ⟨G7, rfl, b8, q9, z10⟩
  have n13 := Blk.ne b2 z10
  have z10 := Nat.le_trans fB.size z10
  have b2 := b2.gr q9
  have fB := fB.gr q9
  refine ol_val (v := .bool false) (by exact xr_assign rfl rfl) rfl rfl rfl ?_
  refine ol_nil ?_
  refine cw_seq ?_
  refine cw_region ?_
  refine ol_val (v := aggV [Seg.cell (.int .i64 a0.Place), Kd.seg (kA 48 (kI .u8)) a0.Bits]) (by exact xr_loadS (ss := [Seg.cell (.int .i64 a0.Place), Kd.seg (kA 48 (kI .u8)) a0.Bits]) rfl ag81 sz81 rfl rfl (b2.segs 0 2 rfl)) rfl rfl rfl ?_
  refine ol_val (v := .int .i64 a1) (by exact xr_move rfl rfl) rfl rfl rfl ?_
  obtain ⟨t14, k15, h⟩ := bs h
  refine ol_op (by exact opv_call rfl cal114 (ac rfl (ac rfl an)) (chart_bit.ok fu _ a0 a1 _ k15)) rfl rfl rfl ?_
  rintro _ w17 ⟨rfl, q16⟩
  have b2 := b2.gr q16
  have b8 := b8.gr q16
  have fB := fB.gr q16
  refine ol_val (v := .tuple #[.int .i64 t14.1, .int .u8 t14.2.1, .bool t14.2.2]) (by exact xr_move rfl rfl) rfl rfl rfl ?_
  refine ol_val (v := .int .i64 t14.1) (by exact xr_extract rfl rfl rfl) rfl rfl rfl ?_
  refine ol_val (v := .int .u8 t14.2.1) (by exact xr_extract rfl rfl rfl) rfl rfl rfl ?_
  refine ol_val (v := .bool t14.2.2) (by exact xr_extract rfl rfl rfl) rfl rfl rfl ?_
  refine ol_val (v := .int .i64 t14.1) (by exact xr_assign rfl rfl) rfl rfl rfl ?_
  refine ol_val (v := .int .u8 t14.2.1) (by exact xr_assign rfl rfl) rfl rfl rfl ?_
  refine ol_val (v := .bool t14.2.2) (by exact xr_assign rfl rfl) rfl rfl rfl ?_
  refine ol_nil ?_
  refine cw_seq ?_
  refine cw_seq ?_
  refine cw_region ?_
  refine ol_val (v := .bool t14.2.2) (by exact xr_move rfl rfl) rfl rfl rfl ?_
  refine ol_val (v := .bool (!t14.2.2)) (by exact xr_not rfl rfl) rfl rfl rfl ?_
  refine ol_nil ?_
  rcases is h with ⟨c18, h⟩ | ⟨c18, h⟩
  · refine cw_condT rfl c18 ?_
    refine cw_seq ?_
    refine cw_region ?_
    refine ol_val (v := aggV [Seg.cell (.int .i64 (0 : Int)), Kd.seg (kA 48 (kI .u8)) (Arr.rep 48 (0 : Int))]) (by exact xr_build (vals := []) rfl trivial (bl81_ _)) rfl rfl rfl ?_
    refine ol_op0 (by exact opv_store (ss' := [Seg.cell (.int .i64 (0 : Int)), Kd.seg (kA 48 (kI .u8)) (Arr.rep 48 (0 : Int))]) (xs := cellsOf [Seg.cell (.int .i64 (0 : Int)), Kd.seg (kA 48 (kI .u8)) (Arr.rep 48 (0 : Int))]) rfl sz81 rfl rfl rfl (len_cellsOf _) (one_cellsOf _) b8 (Spl.segs _ 0 2 [Seg.cell (.int .i64 (0 : Int)), Kd.seg (kA 48 (kI .u8)) (Arr.rep 48 (0 : Int))] rfl rfl)) rfl rfl ?_
    rintro _ w20 ⟨b8, q19⟩
    have fB := fB.wr q19 z10
    refine ol_val (v := .bool false) (by exact xr_assign rfl rfl) rfl rfl rfl ?_
    refine ol_nil ?_
    refine cw_ret ?_
    repeat (first | with_reducible refine thn_r ?_ | with_reducible refine blk_r ?_)
    obtain rfl := Option.some.inj h
    refine fin_cell_tmp Try.results60 rfl ag81 sz81 b8 (by rfl) rfl ?_
    exact ⟨_, rfl, rfl, fB⟩
  · refine cw_condF rfl c18 ?_
    refine cw_skip ?_
    refine cw_seq ?_
    refine cw_region ?_
    refine ol_val (v := .int .i64 t14.1) (by exact xr_move rfl rfl) rfl rfl rfl ?_
    refine ol_val (v := .pointer (some ⟨G1, 1, none⟩)) (by exact xr_fieldAddr (p := 0) (q := 1) rfl fl81_1 rfl) rfl rfl rfl ?_
    obtain ⟨g21, h⟩ := gs h
    refine ol_val (v := .pointer (some ⟨G1, 1 + Int.toNat t14.1 * 1, none⟩)) (by exact xr_indexA (p := 1) (s := 1) rfl Try.underlying79 sz5 rfl rfl g21.1 g21.2) rfl rfl rfl ?_
    refine ol_val (v := .int .u8 (Arr.get a0.Bits t14.1)) (by exact xr_load1 (v := .int .u8 (Arr.get a0.Bits t14.1)) rfl ag5 rfl (At.arr (a := a0.Bits) (b2.seg 1 rfl rfl) g21.1 g21.2)) rfl rfl rfl ?_
    refine ol_val (v := .int .u8 t14.2.1) (by exact xr_move rfl rfl) rfl rfl rfl ?_
    refine ol_val (v := .int .u8 (bNot .u8 (Arr.get a0.Bits t14.1) t14.2.1)) (by exact xr_andNot rfl rfl rfl) rfl rfl rfl ?_
    refine ol_val (v := .pointer (some ⟨G1, 1, none⟩)) (by exact xr_fieldAddr (p := 0) (q := 1) rfl fl81_1 rfl) rfl rfl rfl ?_
    obtain ⟨g22, h⟩ := gs h
    refine ol_val (v := .pointer (some ⟨G1, 1 + Int.toNat t14.1 * 1, none⟩)) (by exact xr_indexA (p := 1) (s := 1) rfl Try.underlying79 sz5 rfl rfl g22.1 g22.2) rfl rfl rfl ?_
    refine ol_op0 (by exact opv_store (ss' := [Seg.cell (.int .i64 a0.Place), Kd.seg (kA 48 (kI .u8)) (Arr.set a0.Bits t14.1 (bNot .u8 (Arr.get a0.Bits t14.1) t14.2.1))]) (xs := cellsOf [Seg.cell (.int .u8 (bNot .u8 (Arr.get a0.Bits t14.1) t14.2.1))]) rfl sz5 rfl rfl rfl (len_cellsOf _) (one_cellsOf _) b2 (Spl.seg_in _ 1 (Kd.seg (kA 48 (kI .u8)) (Arr.set a0.Bits t14.1 (bNot .u8 (Arr.get a0.Bits t14.1) t14.2.1))) rfl rfl (Spl.arr a0.Bits t14.1 (bNot .u8 (Arr.get a0.Bits t14.1) t14.2.1) g22.1 g22.2 (Spl.whole ((Kd.len _ _).trans (Kd.len _ _).symm))))) rfl rfl ?_
    rintro _ w24 ⟨b2, q23⟩
    have b8 := b8.wr q23 n13.symm
    have fB := fB.wr q23 z4
    refine ol_nil ?_
    refine cw_seq ?_
    refine cw_seq ?_
    refine cw_region ?_
    refine ol_val (v := .bool a2) (by exact xr_move rfl rfl) rfl rfl rfl ?_
    refine ol_nil ?_
    obtain ⟨x25, j26, h27⟩ := bs h
    refine cw_mid (fun ρ' w' => ρ' 3 = .pointer (some ⟨G1, 0, none⟩) ∧ ρ' 6 = .pointer (some ⟨G7, 0, none⟩) ∧ Blk w' G1 81 [Seg.cell (.int .i64 x25.Place), Kd.seg (kA 48 (kI .u8)) x25.Bits] ∧ Blk w' G7 81 [Seg.cell (.int .i64 (0 : Int)), Kd.seg (kA 48 (kI .u8)) (Arr.rep 48 (0 : Int))] ∧ Gr w w') ?_ ?_
    · have h := j26
      rcases is h with ⟨c28, h⟩ | ⟨c28, h⟩
      · refine cw_condT rfl c28 ?_
        refine cw_region ?_
        refine ol_val (v := .int .i64 t14.1) (by exact xr_move rfl rfl) rfl rfl rfl ?_
        refine ol_val (v := .pointer (some ⟨G1, 1, none⟩)) (by exact xr_fieldAddr (p := 0) (q := 1) rfl fl81_1 rfl) rfl rfl rfl ?_
        obtain ⟨g29, h⟩ := gs h
        refine ol_val (v := .pointer (some ⟨G1, 1 + Int.toNat t14.1 * 1, none⟩)) (by exact xr_indexA (p := 1) (s := 1) rfl Try.underlying79 sz5 rfl rfl g29.1 g29.2) rfl rfl rfl ?_
        refine ol_val (v := .int .u8 (Arr.get (Arr.set a0.Bits t14.1 (bNot .u8 (Arr.get a0.Bits t14.1) t14.2.1)) t14.1)) (by exact xr_load1 (v := .int .u8 (Arr.get (Arr.set a0.Bits t14.1 (bNot .u8 (Arr.get a0.Bits t14.1) t14.2.1)) t14.1)) rfl ag5 rfl (At.arr (a := (Arr.set a0.Bits t14.1 (bNot .u8 (Arr.get a0.Bits t14.1) t14.2.1))) (b2.seg 1 rfl rfl) g29.1 g29.2)) rfl rfl rfl ?_
        refine ol_val (v := .int .u8 t14.2.1) (by exact xr_move rfl rfl) rfl rfl rfl ?_
        refine ol_val (v := .int .u8 (bOr .u8 (Arr.get (Arr.set a0.Bits t14.1 (bNot .u8 (Arr.get a0.Bits t14.1) t14.2.1)) t14.1) t14.2.1)) (by exact xr_or rfl rfl rfl) rfl rfl rfl ?_
        refine ol_val (v := .pointer (some ⟨G1, 1, none⟩)) (by exact xr_fieldAddr (p := 0) (q := 1) rfl fl81_1 rfl) rfl rfl rfl ?_
        obtain ⟨g30, h⟩ := gs h
        refine ol_val (v := .pointer (some ⟨G1, 1 + Int.toNat t14.1 * 1, none⟩)) (by exact xr_indexA (p := 1) (s := 1) rfl Try.underlying79 sz5 rfl rfl g30.1 g30.2) rfl rfl rfl ?_
        refine ol_op0 (by exact opv_store (ss' := [Seg.cell (.int .i64 a0.Place), Kd.seg (kA 48 (kI .u8)) (Arr.set (Arr.set a0.Bits t14.1 (bNot .u8 (Arr.get a0.Bits t14.1) t14.2.1)) t14.1 (bOr .u8 (Arr.get (Arr.set a0.Bits t14.1 (bNot .u8 (Arr.get a0.Bits t14.1) t14.2.1)) t14.1) t14.2.1))]) (xs := cellsOf [Seg.cell (.int .u8 (bOr .u8 (Arr.get (Arr.set a0.Bits t14.1 (bNot .u8 (Arr.get a0.Bits t14.1) t14.2.1)) t14.1) t14.2.1))]) rfl sz5 rfl rfl rfl (len_cellsOf _) (one_cellsOf _) b2 (Spl.seg_in _ 1 (Kd.seg (kA 48 (kI .u8)) (Arr.set (Arr.set a0.Bits t14.1 (bNot .u8 (Arr.get a0.Bits t14.1) t14.2.1)) t14.1 (bOr .u8 (Arr.get (Arr.set a0.Bits t14.1 (bNot .u8 (Arr.get a0.Bits t14.1) t14.2.1)) t14.1) t14.2.1))) rfl rfl (Spl.arr (Arr.set a0.Bits t14.1 (bNot .u8 (Arr.get a0.Bits t14.1) t14.2.1)) t14.1 (bOr .u8 (Arr.get (Arr.set a0.Bits t14.1 (bNot .u8 (Arr.get a0.Bits t14.1) t14.2.1)) t14.1) t14.2.1) g30.1 g30.2 (Spl.whole ((Kd.len _ _).trans (Kd.len _ _).symm))))) rfl rfl ?_
        rintro _ w32 ⟨b2, q31⟩
        have b8 := b8.wr q31 n13.symm
        have fB := fB.wr q31 z4
        refine ol_nil ?_
        obtain rfl := Option.some.inj h
        refine thn_i ?_
        exact ⟨rfl, rfl, b2, b8, fB⟩
      · refine cw_condF rfl c28 ?_
        refine cw_skip ?_
        obtain rfl := Option.some.inj h
        refine thn_i ?_
        exact ⟨rfl, rfl, b2, b8, fB⟩
    · rintro ρ33 w34 ⟨e3, e6, b2, b8, fB⟩
      have h := h27
      refine cw_seq ?_
      refine cw_region ?_
      refine ol_val (v := aggV [Seg.cell (.int .i64 x25.Place), Kd.seg (kA 48 (kI .u8)) x25.Bits]) (by exact xr_loadS (ss := [Seg.cell (.int .i64 x25.Place), Kd.seg (kA 48 (kI .u8)) x25.Bits]) rfl ag81 sz81 rfl e3 (b2.segs 0 2 rfl)) rfl rfl rfl ?_
      refine ol_op0 (by exact opv_store (ss' := [Seg.cell (.int .i64 x25.Place), Kd.seg (kA 48 (kI .u8)) x25.Bits]) (xs := cellsOf [Seg.cell (.int .i64 x25.Place), Kd.seg (kA 48 (kI .u8)) x25.Bits]) rfl sz81 e6 rfl rfl (len_cellsOf _) (one_cellsOf _) b8 (Spl.segs _ 0 2 [Seg.cell (.int .i64 x25.Place), Kd.seg (kA 48 (kI .u8)) x25.Bits] rfl rfl)) rfl rfl ?_
      rintro _ w36 ⟨b8, q35⟩
      have fB := fB.wr q35 z10
      refine ol_val (v := .bool true) (by exact xr_assign rfl rfl) rfl rfl rfl ?_
      refine ol_nil ?_
      refine cw_ret ?_
      repeat (first | with_reducible refine thn_r ?_ | with_reducible refine blk_r ?_)
      obtain rfl := Option.some.inj h
      refine fin_cell_tmp Try.results60 e6 ag81 sz81 b8 (by rfl) rfl ?_
      exact ⟨_, rfl, rfl, fB⟩
end Go.Proofs.Ytjhajfkfhdnciaa
