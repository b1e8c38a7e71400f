/- rickyard/crc.Table: its model, and that the Go function computes it: written by gen.py. -/
import Derived.Test.YtpdglhpohkkeiaaBase
import Derived.Test.YtpdglhpohkkeiaaFcrcstep
set_option linter.unusedVariables false
namespace Go.Proofs.Ytpdglhpohkkeiaa
open Go Go.Xw
def crc_Table.s3 (fu : Nat) : (Int × Int) → Option (Sum Int (Int × Int)) := fun s22 => (if (decide (s22.2 < 4)) = true then ((crc_step.f fu s22.1 : Option Int).bind fun t30 => some (Sum.inr (t30, (IntKind.i64.wrap (s22.2 + 1))))) else some (Sum.inl (s22.1)))
def crc_Table.s2 (fu : Nat) : (Int × (Arr 16 Int)) → Option (Sum (Arr 16 Int) (Int × (Arr 16 Int))) := fun s14 => (if (decide (s14.1 < 16)) = true then ((loopM (crc_Table.s3 fu) fu ((IntKind.u32.wrap s14.1), 0)).bind fun e23 => (if 0 ≤ s14.1 ∧ s14.1 < 16 then some (Sum.inr ((IntKind.i64.wrap (s14.1 + 1)), (Arr.set s14.2 s14.1 e23))) else none)) else some (Sum.inl (s14.2)))
def crc_Table.f (fu : Nat) : Option (Arr 16 Int) := ((loopM (crc_Table.s2 fu) fu (0, (Arr.rep 16 (0 : Int)))).bind fun e15 => some (e15))
set_option maxRecDepth 100000 in
set_option maxHeartbeats 400000 in
theorem crc_Table.ok (fu : Nat) (w : World)  (r : (Arr 16 Int)) (h : crc_Table.f fu = some r) :
    Calls Try.prog 129 (([] : List Value).toArray) w (fun e w' => ∃ v, e = .returned v ∧ v = aggV [Kd.seg (kA 16 (kI .u32)) r] ∧ Gr w w') := by
  unfold crc_Table.f at h
  have fB : Gr w w := Fr.refl _ _
  refine calls_cw Try.func129 rfl Try.ntmps129 rfl ?_
  refine cw_seq ?_
  refine cw_region ?_
  refine ol_op (by exact opv_alloc (ss := [Kd.seg (kA 16 (kI .u32)) (Arr.rep 16 (0 : Int))]) rfl ze158 rfl) rfl rfl rfl ?_
  rintro _ w6 ⟨G1, rfl, b2, q3, z4⟩
  have z4 := Nat.le_trans fB.size z4
  have fB := fB.gr q3
  refine ol_nil ?_
  refine cw_seq ?_
  refine cw_region ?_
  refine ol_op (by exact opv_alloc (ss := [Kd.seg (kA 16 (kI .u32)) (Arr.rep 16 (0 : Int))]) rfl ze158 rfl) rfl rfl rfl ?_
  rintro _ w12 ⟨G7, rfl, b8, q9, z10⟩
  have n13 := Blk.ne b2 z10
  have z10 := Nat.le_trans fB.size z10
  have b2 := b2.gr q9
  have fB := fB.gr q9
  refine ol_nil ?_
  refine cw_seq ?_
  refine cw_seq ?_
  refine cw_region ?_
  refine ol_val (v := .int .i64 0) (by exact xr_move rfl rfl) rfl rfl rfl ?_
  refine ol_nil ?_
  obtain ⟨e15, l16, h17⟩ := bs h
  refine cw_mid (fun ρ' w' => ρ' 0 = .pointer (some ⟨G1, 0, none⟩) ∧ ρ' 1 = .pointer (some ⟨G7, 0, none⟩) ∧ Blk w' G1 158 [Kd.seg (kA 16 (kI .u32)) (Arr.rep 16 (0 : Int))] ∧ Blk w' G7 158 [Kd.seg (kA 16 (kI .u32)) e15] ∧ Gr w w') ?_ ?_
  · refine cw_block ?_
    refine cw_round (fun (s14 : Int × (Arr 16 Int)) ρ' w' => ρ' 0 = .pointer (some ⟨G1, 0, none⟩) ∧ ρ' 1 = .pointer (some ⟨G7, 0, none⟩) ∧ ρ' 4 = .int .i64 s14.1 ∧ Blk w' G1 158 [Kd.seg (kA 16 (kI .u32)) (Arr.rep 16 (0 : Int))] ∧ Blk w' G7 158 [Kd.seg (kA 16 (kI .u32)) s14.2] ∧ Gr w w') l16 ?_ ?_
    · skip
      exact ⟨rfl, rfl, rfl, b2, b8, fB⟩
    · rintro s14 x20 ρ18 w19 ⟨e0, e1, e4, b2, b8, fB⟩ h
      unfold crc_Table.s2 at h
      refine cw_seq ?_
      refine cw_region ?_
      refine ol_val (v := .bool (decide (s14.1 < 16))) (by exact xr_lss rfl e4 rfl) rfl rfl rfl ?_
      refine ol_nil ?_
      refine cw_seq ?_
      rcases is h with ⟨c21, h⟩ | ⟨c21, h⟩
      · refine cw_condT rfl c21 ?_
        refine cw_skip ?_
        refine cw_seq ?_
        refine cw_block ?_
        refine cw_seq ?_
        refine cw_region ?_
        refine ol_val (v := .int .i64 s14.1) (by exact xr_move rfl e4) rfl rfl rfl ?_
        refine ol_val (v := .int .i64 s14.1) (by exact xr_assign rfl rfl) rfl rfl rfl ?_
        refine ol_nil ?_
        refine cw_seq ?_
        refine cw_region ?_
        refine ol_val (v := .int .i64 s14.1) (by exact xr_move rfl rfl) rfl rfl rfl ?_
        refine ol_val (v := .int .u32 (IntKind.u32.wrap s14.1)) (by exact xr_conv rfl Try.underlying3 Try.underlying51 rfl) rfl rfl rfl ?_
        refine ol_val (v := .int .u32 (IntKind.u32.wrap s14.1)) (by exact xr_assign rfl rfl) rfl rfl rfl ?_
        refine ol_nil ?_
        refine cw_seq ?_
        refine cw_seq ?_
        refine cw_region ?_
        refine ol_val (v := .int .i64 0) (by exact xr_move rfl rfl) rfl rfl rfl ?_
        refine ol_nil ?_
        obtain ⟨e23, l24, h25⟩ := bs h
        refine cw_mid (fun ρ' w' => ρ' 0 = .pointer (some ⟨G1, 0, none⟩) ∧ ρ' 1 = .pointer (some ⟨G7, 0, none⟩) ∧ ρ' 2 = .int .i64 s14.1 ∧ ρ' 3 = .int .u32 e23 ∧ ρ' 4 = .int .i64 s14.1 ∧ Blk w' G1 158 [Kd.seg (kA 16 (kI .u32)) (Arr.rep 16 (0 : Int))] ∧ Blk w' G7 158 [Kd.seg (kA 16 (kI .u32)) s14.2] ∧ Gr w w') ?_ ?_
        · refine cw_block ?_
          refine cw_round (fun (s22 : Int × Int) ρ' w' => ρ' 0 = .pointer (some ⟨G1, 0, none⟩) ∧ ρ' 1 = .pointer (some ⟨G7, 0, none⟩) ∧ ρ' 2 = .int .i64 s14.1 ∧ ρ' 3 = .int .u32 s22.1 ∧ ρ' 4 = .int .i64 s14.1 ∧ ρ' 9 = .int .i64 s22.2 ∧ Blk w' G1 158 [Kd.seg (kA 16 (kI .u32)) (Arr.rep 16 (0 : Int))] ∧ Blk w' G7 158 [Kd.seg (kA 16 (kI .u32)) s14.2] ∧ Gr w w') l24 ?_ ?_
          · skip
            exact ⟨e0, e1, rfl, rfl, e4, rfl, b2, b8, fB⟩
          · rintro s22 x28 ρ26 w27 ⟨e0, e1, e2, e3, e4, e9, b2, b8, fB⟩ h
            unfold crc_Table.s3 at h
            refine cw_seq ?_
            refine cw_region ?_
            refine ol_val (v := .bool (decide (s22.2 < 4))) (by exact xr_lss rfl e9 rfl) rfl rfl rfl ?_
            refine ol_nil ?_
            refine cw_seq ?_
            rcases is h with ⟨c29, h⟩ | ⟨c29, h⟩
            · refine cw_condT rfl c29 ?_
              refine cw_skip ?_
              refine cw_seq ?_
              refine cw_block ?_
              refine cw_region ?_
              refine ol_val (v := .int .u32 s22.1) (by exact xr_move rfl e3) rfl rfl rfl ?_
              obtain ⟨t30, k31, h⟩ := bs h
              refine ol_op (by exact opv_call rfl cal145 (ac rfl an) (crc_step.ok fu _ s22.1 _ k31)) rfl rfl rfl ?_
              rintro _ w33 ⟨rfl, q32⟩
              have b2 := b2.gr q32
              have b8 := b8.gr q32
              have fB := fB.gr q32
              refine ol_val (v := .int .u32 t30) (by exact xr_assign rfl rfl) rfl rfl rfl ?_
              refine ol_nil ?_
              refine blk_i ?_
              refine cw_region ?_
              refine ol_val (v := .int .i64 (IntKind.i64.wrap (s22.2 + 1))) (by exact xr_add rfl e9 rfl) rfl rfl rfl ?_
              refine ol_val (v := .int .i64 (IntKind.i64.wrap (s22.2 + 1))) (by exact xr_move rfl rfl) rfl rfl rfl ?_
              refine ol_nil ?_
              obtain rfl := Option.some.inj h
              refine lp_in ?_
              exact ⟨e0, e1, e2, rfl, e4, rfl, b2, b8, fB⟩
            · refine cw_condF rfl c29 ?_
              refine cw_exit ?_
              repeat (first | with_reducible refine thn_e ?_ | with_reducible refine blk_e rfl ?_)
              obtain rfl := Option.some.inj h
              refine lp_exit ?_
              rintro rfl
              refine thn_x ?_
              exact ⟨e0, e1, e2, e3, e4, b2, b8, fB⟩
        · rintro ρ34 w35 ⟨e0, e1, e2, e3, e4, b2, b8, fB⟩
          have h := h25
          refine cw_region ?_
          refine ol_val (v := .int .i64 s14.1) (by exact xr_move rfl e2) rfl rfl rfl ?_
          refine ol_val (v := .int .u32 e23) (by exact xr_move rfl e3) rfl rfl rfl ?_
          obtain ⟨g36, h⟩ := gs h
          refine ol_val (v := .pointer (some ⟨G7, 0 + Int.toNat s14.1 * 1, none⟩)) (by exact xr_indexA (p := 0) (s := 1) rfl Try.underlying158 sz51 e1 rfl g36.1 g36.2) rfl rfl rfl ?_
          refine ol_op0 (by exact opv_store (ss' := [Kd.seg (kA 16 (kI .u32)) (Arr.set s14.2 s14.1 e23)]) (xs := cellsOf [Seg.cell (.int .u32 e23)]) rfl sz51 rfl rfl rfl (len_cellsOf _) (one_cellsOf _) b8 (Spl.seg_in _ 0 (Kd.seg (kA 16 (kI .u32)) (Arr.set s14.2 s14.1 e23)) rfl rfl (Spl.arr s14.2 s14.1 e23 g36.1 g36.2 (Spl.whole ((Kd.len _ _).trans (Kd.len _ _).symm))))) rfl rfl ?_
          rintro _ w38 ⟨b8, q37⟩
          have b2 := b2.wr q37 n13
          have fB := fB.wr q37 z10
          refine ol_nil ?_
          refine blk_i ?_
          refine cw_region ?_
          refine ol_val (v := .int .i64 (IntKind.i64.wrap (s14.1 + 1))) (by exact xr_add rfl e4 rfl) rfl rfl rfl ?_
          refine ol_val (v := .int .i64 (IntKind.i64.wrap (s14.1 + 1))) (by exact xr_move rfl rfl) rfl rfl rfl ?_
          refine ol_nil ?_
          obtain rfl := Option.some.inj h
          refine lp_in ?_
          exact ⟨e0, e1, rfl, b2, b8, fB⟩
      · refine cw_condF rfl c21 ?_
        refine cw_exit ?_
        repeat (first | with_reducible refine thn_e ?_ | with_reducible refine blk_e rfl ?_)
        obtain rfl := Option.some.inj h
        refine lp_exit ?_
        rintro rfl
        refine thn_x ?_
        exact ⟨e0, e1, b2, b8, fB⟩
  · rintro ρ39 w40 ⟨e0, e1, b2, b8, fB⟩
    have h := h17
    refine cw_seq ?_
    refine cw_region ?_
    refine ol_val (v := aggV [Kd.seg (kA 16 (kI .u32)) e15]) (by exact xr_loadS (ss := [Kd.seg (kA 16 (kI .u32)) e15]) rfl ag158 sz158 rfl e1 (b8.segs 0 1 rfl)) rfl rfl rfl ?_
    refine ol_op0 (by exact opv_store (ss' := [Kd.seg (kA 16 (kI .u32)) e15]) (xs := cellsOf [Kd.seg (kA 16 (kI .u32)) e15]) rfl sz158 e0 rfl rfl (len_cellsOf _) (one_cellsOf _) b2 (Spl.segs _ 0 1 [Kd.seg (kA 16 (kI .u32)) e15] rfl rfl)) rfl rfl ?_
    rintro _ w42 ⟨b2, q41⟩
    have fB := fB.wr q41 z4
    refine ol_nil ?_
    refine cw_ret ?_
    repeat (first | with_reducible refine thn_r ?_ | with_reducible refine blk_r ?_)
    obtain rfl := Option.some.inj h
    refine fin_cell Try.results129 e0 ag158 sz158 b2 (by rfl) ?_
    exact ⟨_, rfl, rfl, fB⟩
end Go.Proofs.Ytpdglhpohkkeiaa
