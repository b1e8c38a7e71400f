/- rickyard/rickyardlaw10.ChartMarks: its model, and that the Go function computes it: written by gen.py. -/
import Derived.Test.YtjhajfkfhdnciaaBase
import Derived.Test.YtjhajfkfhdnciaaFrickyardlaw10awake
import Derived.Test.YtjhajfkfhdnciaaFchartMark
import Derived.Test.YtjhajfkfhdnciaaFrickyardref10Right
import Derived.Test.YtjhajfkfhdnciaaFrickyardref10List
import Derived.Test.YtjhajfkfhdnciaaFrickyardref10Has
import Derived.Test.YtjhajfkfhdnciaaFrickyardref10Made
import Derived.Test.YtjhajfkfhdnciaaFchartHas
set_option linter.unusedVariables false
namespace Go.Proofs.Ytjhajfkfhdnciaa
open Go Go.Xw
def rickyardlaw10_ChartMarks.s0 (fu : Nat) (a0 : S_api_Chart) (a1 : Int) (a2 : Bool) (t39 : (List Int)) : ((List Int) × Int) → Option (Sum (List Int) ((List Int) × Int)) := fun s46 => (if (decide (s46.2 < 384)) = true then (((if (decide ((IntKind.i64.wrap ((IntKind.i64.wrap (384 * a0.Place)) + s46.2)) = a1)) = true then (if a2 = true then some (true) else (if (!decide ((IntKind.i64.wrap ((IntKind.i64.wrap (384 * a0.Place)) + s46.2)) = a1)) = true then ((rickyardref10_Has.f fu t39 (IntKind.i64.wrap ((IntKind.i64.wrap (384 * a0.Place)) + s46.2)) : Option Bool).bind fun t66 => some (t66)) else some (false))) else (if (!decide ((IntKind.i64.wrap ((IntKind.i64.wrap (384 * a0.Place)) + s46.2)) = a1)) = true then ((rickyardref10_Has.f fu t39 (IntKind.i64.wrap ((IntKind.i64.wrap (384 * a0.Place)) + s46.2)) : Option Bool).bind fun t71 => some (t71)) else some (false))) : Option Bool).bind fun x61 => (((if x61 = true then (if List.length s46.1 + List.length [(IntKind.i64.wrap ((IntKind.i64.wrap (384 * a0.Place)) + s46.2))] ≤ LIM then some ((s46.1 ++ [(IntKind.i64.wrap ((IntKind.i64.wrap (384 * a0.Place)) + s46.2))])) else none) else some (s46.1)) : Option (List Int)).bind fun x78 => some (Sum.inr (x78, (IntKind.i64.wrap (s46.2 + 1)))))) else some (Sum.inl (s46.1)))
def rickyardlaw10_ChartMarks.f (fu : Nat) (a0 : S_api_Chart) (a1 : Int) (a2 : Bool) : Option Bool := ((rickyardlaw10_awake.f fu : Option Bool).bind fun t7 => (if (!t7) = true then some (false) else ((chart_Mark.f fu a0 a1 a2 : Option (S_api_Chart × Bool)).bind fun t12 => ((((rickyardref10_Right.f fu a0 : Option Bool).bind fun t27 => (if (!t27) = true then some (true) else (if (decide (a1 < (IntKind.i64.wrap (384 * a0.Place)))) = true then some (true) else some ((decide (a1 ≥ (IntKind.i64.wrap ((IntKind.i64.wrap (384 * a0.Place)) + 384)))))))) : Option Bool).bind fun x25 => (if x25 = true then some ((if (!t12.2) = true then (decide (t12.1 = (⟨(0 : Int), (Arr.rep 48 (0 : Int))⟩ : S_api_Chart))) else false)) else ((rickyardref10_List.f fu a0 : Option (List Int)).bind fun t39 => ((loopM (rickyardlaw10_ChartMarks.s0 fu a0 a1 a2 t39) fu ([], 0)).bind fun e47 => (((if t12.2 = true then ((rickyardref10_Made.f fu a0.Place e47 : Option S_api_Chart).bind fun t113 => (if (decide (t12.1 = t113)) = true then ((chart_Has.f fu t12.1 a1 : Option Bool).bind fun t117 => some ((decide (t117 = a2)))) else some (false))) else some (false)) : Option Bool).bind fun x110 => some (x110)))))))))
set_option maxRecDepth 100000 in
set_option maxHeartbeats 400000 in
theorem rickyardlaw10_ChartMarks.ok (fu : Nat) (w : World) (a0 : S_api_Chart) (a1 : Int) (a2 : Bool) (r : Bool) (h : rickyardlaw10_ChartMarks.f fu a0 a1 a2 = some r) :
    Calls Try.prog 15 (([aggV [Seg.cell (.int .i64 a0.Place), Kd.seg (kA 48 (kI .u8)) a0.Bits], .int .i64 a1, .bool a2] : List Value).toArray) w (fun e w' => ∃ v, e = .returned v ∧ v = .bool r ∧ Gr w w') := by
  unfold rickyardlaw10_ChartMarks.f at h
  have fB : Gr w w := Fr.refl _ _
  refine calls_cw Try.func15 rfl Try.ntmps15 rfl ?_
  refine cw_seq ?_
  refine cw_region ?_
  refine ol_op (by exact opv_box (ss := [Seg.cell (.int .i64 a0.Place), Kd.seg (kA 48 (kI .u8)) a0.Bits]) rfl rfl rfl) rfl rfl rfl ?_
  rintro _ w6 ⟨G1, rfl, b2, q3, z4⟩
  have z4 := Nat.le_trans fB.size z4
  have fB := fB.gr q3
  refine ol_val (v := .bool false) (by exact xr_assign rfl rfl) rfl rfl rfl ?_
  refine ol_nil ?_
  refine cw_seq ?_
  refine cw_seq ?_
  refine cw_region ?_
  obtain ⟨t7, k8, h⟩ := bs h
  refine ol_op (by exact opv_call rfl cal59 an (rickyardlaw10_awake.ok fu _ _ k8)) rfl rfl rfl ?_
  rintro _ w10 ⟨rfl, q9⟩
  have b2 := b2.gr q9
  have fB := fB.gr q9
  refine ol_val (v := .bool (!t7)) (by exact xr_not rfl rfl) rfl rfl rfl ?_
  refine ol_nil ?_
  rcases is h with ⟨c11, h⟩ | ⟨c11, h⟩
  · refine cw_condT rfl c11 ?_
    refine cw_seq ?_
    refine cw_region ?_
    refine ol_val (v := .bool false) (by exact xr_assign rfl rfl) rfl rfl rfl ?_
    refine ol_nil ?_
    refine cw_ret ?_
    repeat (first | with_reducible refine thn_r ?_ | with_reducible refine blk_r ?_)
    obtain rfl := Option.some.inj h
    refine fin_ret1 Try.results15 rfl ?_
    exact ⟨_, rfl, rfl, fB⟩
  · refine cw_condF rfl c11 ?_
    refine cw_skip ?_
    refine cw_seq ?_
    refine cw_region ?_
    refine ol_val (v := aggV [Seg.cell (.int .i64 a0.Place), Kd.seg (kA 48 (kI .u8)) a0.Bits]) (by exact xr_loadS (ss := [Seg.cell (.int .i64 a0.Place), Kd.seg (kA 48 (kI .u8)) a0.Bits]) rfl ag81 sz81 rfl rfl (b2.segs 0 2 rfl)) rfl rfl rfl ?_
    refine ol_val (v := .int .i64 a1) (by exact xr_move rfl rfl) rfl rfl rfl ?_
    refine ol_val (v := .bool a2) (by exact xr_move rfl rfl) rfl rfl rfl ?_
    obtain ⟨t12, k13, h⟩ := bs h
    refine ol_op (by exact opv_call rfl cal60 (ac rfl (ac rfl (ac rfl an))) (chart_Mark.ok fu _ a0 a1 a2 _ k13)) rfl rfl rfl ?_
    rintro _ w15 ⟨rfl, q14⟩
    have b2 := b2.gr q14
    have fB := fB.gr q14
    refine ol_val (v := .tuple #[aggV [Seg.cell (.int .i64 t12.1.Place), Kd.seg (kA 48 (kI .u8)) t12.1.Bits], .bool t12.2]) (by exact xr_move rfl rfl) rfl rfl rfl ?_
    refine ol_val (v := aggV [Seg.cell (.int .i64 t12.1.Place), Kd.seg (kA 48 (kI .u8)) t12.1.Bits]) (by exact xr_extract rfl rfl rfl) rfl rfl rfl ?_
    refine ol_val (v := .bool t12.2) (by exact xr_extract rfl rfl rfl) rfl rfl rfl ?_
    refine ol_op (by exact opv_alloc (ss := [Seg.cell (.int .i64 (0 : Int)), Kd.seg (kA 48 (kI .u8)) (Arr.rep 48 (0 : Int))]) rfl ze81 rfl) rfl rfl rfl ?_
    rintro _ w21 ⟨G16, rfl, b17, q18, z19⟩
    have n22 := Blk.ne b2 z19
    have z19 := Nat.le_trans fB.size z19
    have b2 := b2.gr q18
    have fB := fB.gr q18
    refine ol_op0 (by exact opv_store (ss' := [Seg.cell (.int .i64 t12.1.Place), Kd.seg (kA 48 (kI .u8)) t12.1.Bits]) (xs := cellsOf [Seg.cell (.int .i64 t12.1.Place), Kd.seg (kA 48 (kI .u8)) t12.1.Bits]) rfl sz81 rfl rfl rfl (len_cellsOf _) (one_cellsOf _) b17 (Spl.segs _ 0 2 [Seg.cell (.int .i64 t12.1.Place), Kd.seg (kA 48 (kI .u8)) t12.1.Bits] rfl rfl)) rfl rfl ?_
    rintro _ w24 ⟨b17, q23⟩
    have b2 := b2.wr q23 n22
    have fB := fB.wr q23 z19
    refine ol_val (v := .bool t12.2) (by exact xr_assign rfl rfl) rfl rfl rfl ?_
    refine ol_nil ?_
    refine cw_seq ?_
    refine cw_seq ?_
    obtain ⟨x25, j26, h⟩ := bs h
    refine cw_mid (fun ρ' w' => ρ' 1 = .int .i64 a1 ∧ ρ' 2 = .bool a2 ∧ ρ' 3 = .pointer (some ⟨G1, 0, none⟩) ∧ ρ' 7 = .pointer (some ⟨G16, 0, none⟩) ∧ ρ' 8 = .bool t12.2 ∧ ρ' 39 = .bool x25 ∧ Gr w24 w') ?_ ?_
    · skip
      refine cw_region ?_
      refine ol_val (v := aggV [Seg.cell (.int .i64 a0.Place), Kd.seg (kA 48 (kI .u8)) a0.Bits]) (by exact xr_loadS (ss := [Seg.cell (.int .i64 a0.Place), Kd.seg (kA 48 (kI .u8)) a0.Bits]) rfl ag81 sz81 rfl rfl (b2.segs 0 2 rfl)) rfl rfl rfl ?_
      obtain ⟨t27, k28, j26⟩ := bs j26
      refine ol_op (by exact opv_call rfl cal61 (ac rfl an) (rickyardref10_Right.ok fu _ a0 _ k28)) rfl rfl rfl ?_
      rintro _ w30 ⟨rfl, q29⟩
      have b2 := b2.gr q29
      have b17 := b17.gr q29
      have fB := fB.gr q29
      refine ol_val (v := .bool (!t27)) (by exact xr_not rfl rfl) rfl rfl rfl ?_
      refine ol_val (v := .bool (!t27)) (by exact xr_move rfl rfl) rfl rfl rfl ?_
      rcases is j26 with ⟨c31, j26⟩ | ⟨c31, j26⟩
      · skip
        refine ol_gskip rfl rfl rfl rfl rfl c31 ?_
        refine ol_gskip rfl rfl rfl rfl rfl c31 ?_
        refine ol_gskip rfl rfl rfl rfl rfl c31 ?_
        refine ol_gskip rfl rfl rfl rfl rfl c31 ?_
        refine ol_gskip rfl rfl rfl rfl rfl c31 ?_
        refine ol_val (v := .bool true) (by exact xr_pickT rfl rfl c31 rfl) rfl rfl rfl ?_
        refine ol_val (v := .bool true) (by exact xr_move rfl rfl) rfl rfl rfl ?_
        refine ol_gskip rfl rfl rfl rfl rfl rfl ?_
        refine ol_gskip rfl rfl rfl rfl rfl rfl ?_
        refine ol_gskip rfl rfl rfl rfl rfl rfl ?_
        refine ol_gskip rfl rfl rfl rfl rfl rfl ?_
        refine ol_gskip rfl rfl rfl rfl rfl rfl ?_
        refine ol_gskip rfl rfl rfl rfl rfl rfl ?_
        refine ol_val (v := .bool true) (by exact xr_pickT rfl rfl rfl rfl) rfl rfl rfl ?_
        refine ol_nil ?_
        obtain rfl := Option.some.inj j26
        refine thn_i ?_
        exact ⟨rfl, rfl, rfl, rfl, rfl, rfl, q29⟩
      · skip
        refine ol_gval (v := .int .i64 a1) (by exact xr_move rfl rfl) rfl rfl rfl rfl rfl c31 ?_
        refine ol_gval (v := .pointer (some ⟨G1, 0, none⟩)) (by exact xr_fieldAddr (p := 0) (q := 0) rfl fl81_0 rfl) rfl rfl rfl rfl rfl c31 ?_
        refine ol_gval (v := .int .i64 a0.Place) (by exact xr_load1 (v := .int .i64 a0.Place) rfl ag3 rfl (b2.seg 0 rfl rfl)) rfl rfl rfl rfl rfl c31 ?_
        refine ol_gval (v := .int .i64 (IntKind.i64.wrap (384 * a0.Place))) (by exact xr_mul rfl rfl rfl) rfl rfl rfl rfl rfl c31 ?_
        refine ol_gval (v := .bool (decide (a1 < (IntKind.i64.wrap (384 * a0.Place))))) (by exact xr_lss rfl rfl rfl) rfl rfl rfl rfl rfl c31 ?_
        refine ol_val (v := .bool (decide (a1 < (IntKind.i64.wrap (384 * a0.Place))))) (by exact xr_pickF rfl rfl c31 rfl) rfl rfl rfl ?_
        refine ol_val (v := .bool (decide (a1 < (IntKind.i64.wrap (384 * a0.Place))))) (by exact xr_move rfl rfl) rfl rfl rfl ?_
        rcases is j26 with ⟨c32, j26⟩ | ⟨c32, j26⟩
        · skip
          refine ol_gskip rfl rfl rfl rfl rfl c32 ?_
          refine ol_gskip rfl rfl rfl rfl rfl c32 ?_
          refine ol_gskip rfl rfl rfl rfl rfl c32 ?_
          refine ol_gskip rfl rfl rfl rfl rfl c32 ?_
          refine ol_gskip rfl rfl rfl rfl rfl c32 ?_
          refine ol_gskip rfl rfl rfl rfl rfl c32 ?_
          refine ol_val (v := .bool true) (by exact xr_pickT rfl rfl c32 rfl) rfl rfl rfl ?_
          refine ol_nil ?_
          obtain rfl := Option.some.inj j26
          refine thn_i ?_
          exact ⟨rfl, rfl, rfl, rfl, rfl, rfl, q29⟩
        · skip
          refine ol_gval (v := .int .i64 a1) (by exact xr_move rfl rfl) rfl rfl rfl rfl rfl c32 ?_
          refine ol_gval (v := .pointer (some ⟨G1, 0, none⟩)) (by exact xr_fieldAddr (p := 0) (q := 0) rfl fl81_0 rfl) rfl rfl rfl rfl rfl c32 ?_
          refine ol_gval (v := .int .i64 a0.Place) (by exact xr_load1 (v := .int .i64 a0.Place) rfl ag3 rfl (b2.seg 0 rfl rfl)) rfl rfl rfl rfl rfl c32 ?_
          refine ol_gval (v := .int .i64 (IntKind.i64.wrap (384 * a0.Place))) (by exact xr_mul rfl rfl rfl) rfl rfl rfl rfl rfl c32 ?_
          refine ol_gval (v := .int .i64 (IntKind.i64.wrap ((IntKind.i64.wrap (384 * a0.Place)) + 384))) (by exact xr_add rfl rfl rfl) rfl rfl rfl rfl rfl c32 ?_
          refine ol_gval (v := .bool (decide (a1 ≥ (IntKind.i64.wrap ((IntKind.i64.wrap (384 * a0.Place)) + 384))))) (by exact xr_geq rfl rfl rfl) rfl rfl rfl rfl rfl c32 ?_
          refine ol_val (v := .bool (decide (a1 ≥ (IntKind.i64.wrap ((IntKind.i64.wrap (384 * a0.Place)) + 384))))) (by exact xr_pickF rfl rfl c32 rfl) rfl rfl rfl ?_
          refine ol_nil ?_
          obtain rfl := Option.some.inj j26
          refine thn_i ?_
          exact ⟨rfl, rfl, rfl, rfl, rfl, rfl, q29⟩
    · skip
      rintro ρ33 w34 ⟨e1, e2, e3, e7, e8, e39, q35⟩
      have b2 := b2.gr q35
      have b17 := b17.gr q35
      have fB := fB.gr q35
      rcases is h with ⟨c36, h⟩ | ⟨c36, h⟩
      · refine cw_condT e39 c36 ?_
        refine cw_seq ?_
        refine cw_mid (fun ρ' w' => ρ' 6 = .bool (if (!t12.2) = true then (decide (t12.1 = (⟨(0 : Int), (Arr.rep 48 (0 : Int))⟩ : S_api_Chart))) else false) ∧ w34 = w') ?_ ?_
        · skip
          refine cw_region ?_
          refine ol_val (v := .bool t12.2) (by exact xr_move rfl e8) rfl rfl rfl ?_
          refine ol_val (v := .bool (!t12.2)) (by exact xr_not rfl rfl) rfl rfl rfl ?_
          refine ol_val (v := .bool (!t12.2)) (by exact xr_move rfl rfl) rfl rfl rfl ?_
          rcases bt (!t12.2) with c37 | c37
          · skip
            refine ol_gval (v := aggV [Seg.cell (.int .i64 t12.1.Place), Kd.seg (kA 48 (kI .u8)) t12.1.Bits]) (by exact xr_loadS (ss := [Seg.cell (.int .i64 t12.1.Place), Kd.seg (kA 48 (kI .u8)) t12.1.Bits]) rfl ag81 sz81 rfl e7 (b17.segs 0 2 rfl)) rfl rfl rfl rfl rfl c37 ?_
            refine ol_gval (v := aggV [Seg.cell (.int .i64 (0 : Int)), Kd.seg (kA 48 (kI .u8)) (Arr.rep 48 (0 : Int))]) (by exact xr_build (vals := []) rfl trivial (bl81_ _)) rfl rfl rfl rfl rfl c37 ?_
            refine ol_gval (v := .bool (decide (t12.1 = (⟨(0 : Int), (Arr.rep 48 (0 : Int))⟩ : S_api_Chart)))) (by exact xr_eqA (a := t12.1) (b := (⟨(0 : Int), (Arr.rep 48 (0 : Int))⟩ : S_api_Chart)) rfl eqa81 rfl Try.eqGuardType80 rfl rfl rfl rfl) rfl rfl rfl rfl rfl c37 ?_
            refine ol_val (v := .bool (decide (t12.1 = (⟨(0 : Int), (Arr.rep 48 (0 : Int))⟩ : S_api_Chart)))) (by exact xr_pickT rfl rfl c37 rfl) rfl rfl rfl ?_
            refine ol_val (v := .bool (decide (t12.1 = (⟨(0 : Int), (Arr.rep 48 (0 : Int))⟩ : S_api_Chart)))) (by exact xr_assign rfl rfl) rfl rfl rfl ?_
            refine ol_nil ?_
            refine thn_i ?_
            exact ⟨(rfl).trans (congrArg (fun z => (.bool z : Value)) (show (decide (t12.1 = (⟨(0 : Int), (Arr.rep 48 (0 : Int))⟩ : S_api_Chart))) = (if (!t12.2) = true then (decide (t12.1 = (⟨(0 : Int), (Arr.rep 48 (0 : Int))⟩ : S_api_Chart))) else false) from by rw [ite_t c37])), rfl⟩
          · skip
            refine ol_gskip rfl rfl rfl rfl rfl c37 ?_
            refine ol_gskip rfl rfl rfl rfl rfl c37 ?_
            refine ol_gskip rfl rfl rfl rfl rfl c37 ?_
            refine ol_val (v := .bool false) (by exact xr_pickF rfl rfl c37 rfl) rfl rfl rfl ?_
            refine ol_val (v := .bool false) (by exact xr_assign rfl rfl) rfl rfl rfl ?_
            refine ol_nil ?_
            refine thn_i ?_
            exact ⟨(rfl).trans (congrArg (fun z => (.bool z : Value)) (show false = (if (!t12.2) = true then (decide (t12.1 = (⟨(0 : Int), (Arr.rep 48 (0 : Int))⟩ : S_api_Chart))) else false) from by rw [ite_f c37])), rfl⟩
        · skip
          rintro ρ38 _ ⟨e6, rfl⟩
          refine cw_ret ?_
          repeat (first | with_reducible refine thn_r ?_ | with_reducible refine blk_r ?_)
          obtain rfl := Option.some.inj h
          refine fin_ret1 Try.results15 e6 ?_
          exact ⟨_, rfl, rfl, fB⟩
      · refine cw_condF e39 c36 ?_
        refine cw_skip ?_
        refine cw_seq ?_
        refine cw_region ?_
        refine ol_val (v := aggV [Seg.cell (.int .i64 a0.Place), Kd.seg (kA 48 (kI .u8)) a0.Bits]) (by exact xr_loadS (ss := [Seg.cell (.int .i64 a0.Place), Kd.seg (kA 48 (kI .u8)) a0.Bits]) rfl ag81 sz81 rfl e3 (b2.segs 0 2 rfl)) rfl rfl rfl ?_
        obtain ⟨t39, k40, h⟩ := bs h
        refine ol_op (by exact opv_call rfl cal62 (ac rfl an) (rickyardref10_List.ok fu _ a0 _ k40)) rfl rfl rfl ?_
        rintro u41 w45 ⟨_, o42, rfl, q44⟩
        have o42 := Own.base o42 fB.size
        have b2 := b2.gr q44
        have b17 := b17.gr q44
        have fB := fB.gr q44
        refine ol_val (v := u41) (by exact xr_assign rfl rfl) rfl rfl rfl ?_
        refine ol_nil ?_
        refine cw_seq ?_
        refine cw_region ?_
        refine ol_val (v := .slice none 0 0) (by exact xr_assign rfl rfl) rfl rfl rfl ?_
        refine ol_nil ?_
        refine cw_seq ?_
        refine cw_seq ?_
        refine cw_region ?_
        refine ol_val (v := .int .i64 0) (by exact xr_assign rfl rfl) rfl rfl rfl ?_
        refine ol_nil ?_
        obtain ⟨e47, l48, h49⟩ := bs h
        refine cw_mid (fun ρ' w' => ∃ v50 : Value, ∃ o51 : Own (kI .i64) 3 w' w.heap.size v50 e47, ρ' 1 = .int .i64 a1 ∧ ρ' 2 = .bool a2 ∧ ρ' 3 = .pointer (some ⟨G1, 0, none⟩) ∧ ρ' 7 = .pointer (some ⟨G16, 0, none⟩) ∧ ρ' 8 = .bool t12.2 ∧ ρ' 10 = v50 ∧ Blk w' G1 81 [Seg.cell (.int .i64 a0.Place), Kd.seg (kA 48 (kI .u8)) a0.Bits] ∧ Blk w' G16 81 [Seg.cell (.int .i64 t12.1.Place), Kd.seg (kA 48 (kI .u8)) t12.1.Bits] ∧ Gr w w') ?_ ?_
        · refine cw_block ?_
          refine cw_round (fun (s46 : (List Int) × Int) ρ' w' => ∃ v53 : Value, ∃ o42 : Own (kI .i64) 3 w' w.heap.size u41 t39, ∃ o54 : Own (kI .i64) 3 w' w.heap.size v53 s46.1, OffV u41 v53 ∧ ρ' 1 = .int .i64 a1 ∧ ρ' 2 = .bool a2 ∧ ρ' 3 = .pointer (some ⟨G1, 0, none⟩) ∧ ρ' 7 = .pointer (some ⟨G16, 0, none⟩) ∧ ρ' 8 = .bool t12.2 ∧ ρ' 9 = u41 ∧ ρ' 10 = v53 ∧ ρ' 11 = .int .i64 s46.2 ∧ Blk w' G1 81 [Seg.cell (.int .i64 a0.Place), Kd.seg (kA 48 (kI .u8)) a0.Bits] ∧ Blk w' G16 81 [Seg.cell (.int .i64 t12.1.Place), Kd.seg (kA 48 (kI .u8)) t12.1.Bits] ∧ Gr w w') l48 ?_ ?_
          · skip
            exact ⟨(.slice none 0 0), o42, Own.nil _ _ _ _, (OffV.nil u41), e1, e2, e3, e7, e8, rfl, rfl, rfl, b2, b17, fB⟩
          · rintro s46 x59 ρ57 w58 ⟨v53, o42, o54, a56, e1, e2, e3, e7, e8, e9, e10, e11, b2, b17, fB⟩ h
            unfold rickyardlaw10_ChartMarks.s0 at h
            refine cw_seq ?_
            refine cw_seq ?_
            refine cw_region ?_
            refine ol_val (v := .int .i64 s46.2) (by exact xr_move rfl e11) rfl rfl rfl ?_
            refine ol_val (v := .bool (decide (s46.2 < 384))) (by exact xr_lss rfl rfl rfl) rfl rfl rfl ?_
            refine ol_nil ?_
            rcases is h with ⟨c60, h⟩ | ⟨c60, h⟩
            · refine cw_condT rfl c60 ?_
              refine cw_skip ?_
              refine cw_seq ?_
              refine cw_block ?_
              refine cw_seq ?_
              refine cw_region ?_
              refine ol_val (v := .pointer (some ⟨G1, 0, none⟩)) (by exact xr_fieldAddr (p := 0) (q := 0) rfl fl81_0 e3) rfl rfl rfl ?_
              refine ol_val (v := .int .i64 a0.Place) (by exact xr_load1 (v := .int .i64 a0.Place) rfl ag3 rfl (b2.seg 0 rfl rfl)) rfl rfl rfl ?_
              refine ol_val (v := .int .i64 (IntKind.i64.wrap (384 * a0.Place))) (by exact xr_mul rfl rfl rfl) rfl rfl rfl ?_
              refine ol_val (v := .int .i64 s46.2) (by exact xr_move rfl e11) rfl rfl rfl ?_
              refine ol_val (v := .int .i64 (IntKind.i64.wrap ((IntKind.i64.wrap (384 * a0.Place)) + s46.2))) (by exact xr_add rfl rfl rfl) rfl rfl rfl ?_
              refine ol_val (v := .int .i64 (IntKind.i64.wrap ((IntKind.i64.wrap (384 * a0.Place)) + s46.2))) (by exact xr_assign rfl rfl) rfl rfl rfl ?_
              refine ol_nil ?_
              refine cw_seq ?_
              obtain ⟨x61, j62, h⟩ := bs h
              refine cw_mid (fun ρ' w' => ρ' 1 = .int .i64 a1 ∧ ρ' 2 = .bool a2 ∧ ρ' 3 = .pointer (some ⟨G1, 0, none⟩) ∧ ρ' 7 = .pointer (some ⟨G16, 0, none⟩) ∧ ρ' 8 = .bool t12.2 ∧ ρ' 9 = u41 ∧ ρ' 10 = v53 ∧ ρ' 11 = .int .i64 s46.2 ∧ ρ' 12 = .int .i64 (IntKind.i64.wrap ((IntKind.i64.wrap (384 * a0.Place)) + s46.2)) ∧ ρ' 73 = .bool x61 ∧ Gr w58 w') ?_ ?_
              · skip
                refine cw_region ?_
                refine ol_val (v := .int .i64 (IntKind.i64.wrap ((IntKind.i64.wrap (384 * a0.Place)) + s46.2))) (by exact xr_move rfl rfl) rfl rfl rfl ?_
                refine ol_val (v := .int .i64 a1) (by exact xr_move rfl e1) rfl rfl rfl ?_
                refine ol_val (v := .bool (decide ((IntKind.i64.wrap ((IntKind.i64.wrap (384 * a0.Place)) + s46.2)) = a1))) (by exact xr_eqI rfl Try.underlying3 rfl rfl rfl) rfl rfl rfl ?_
                refine ol_val (v := .bool (decide ((IntKind.i64.wrap ((IntKind.i64.wrap (384 * a0.Place)) + s46.2)) = a1))) (by exact xr_move rfl rfl) rfl rfl rfl ?_
                rcases is j62 with ⟨c63, j62⟩ | ⟨c63, j62⟩
                · skip
                  refine ol_gval (v := .bool a2) (by exact xr_move rfl e2) rfl rfl rfl rfl rfl c63 ?_
                  refine ol_val (v := .bool a2) (by exact xr_pickT rfl rfl c63 rfl) rfl rfl rfl ?_
                  refine ol_val (v := .bool a2) (by exact xr_move rfl rfl) rfl rfl rfl ?_
                  rcases is j62 with ⟨c64, j62⟩ | ⟨c64, j62⟩
                  · skip
                    refine ol_gskip rfl rfl rfl rfl rfl c64 ?_
                    refine ol_gskip rfl rfl rfl rfl rfl c64 ?_
                    refine ol_gskip rfl rfl rfl rfl rfl c64 ?_
                    refine ol_gskip rfl rfl rfl rfl rfl c64 ?_
                    refine ol_uskip rfl rfl rfl rfl rfl ?_
                    refine ol_uskip rfl rfl rfl rfl rfl ?_
                    refine ol_uskip rfl rfl rfl rfl rfl ?_
                    refine ol_gskip rfl rfl rfl rfl rfl c64 ?_
                    refine ol_val (v := .bool true) (by exact xr_pickT rfl rfl c64 rfl) rfl rfl rfl ?_
                    refine ol_nil ?_
                    obtain rfl := Option.some.inj j62
                    refine thn_i ?_
                    exact ⟨e1, e2, e3, e7, e8, e9, e10, e11, rfl, rfl, Fr.refl _ _⟩
                  · skip
                    refine ol_gval (v := .int .i64 (IntKind.i64.wrap ((IntKind.i64.wrap (384 * a0.Place)) + s46.2))) (by exact xr_move rfl rfl) rfl rfl rfl rfl rfl c64 ?_
                    refine ol_gval (v := .int .i64 a1) (by exact xr_move rfl e1) rfl rfl rfl rfl rfl c64 ?_
                    refine ol_gval (v := .bool (!decide ((IntKind.i64.wrap ((IntKind.i64.wrap (384 * a0.Place)) + s46.2)) = a1))) (by exact xr_neI rfl Try.underlying3 rfl rfl rfl) rfl rfl rfl rfl rfl c64 ?_
                    refine ol_gval (v := .bool (!decide ((IntKind.i64.wrap ((IntKind.i64.wrap (384 * a0.Place)) + s46.2)) = a1))) (by exact xr_move rfl rfl) rfl rfl rfl rfl rfl c64 ?_
                    rcases is j62 with ⟨c65, j62⟩ | ⟨c65, j62⟩
                    · skip
                      refine ol_gval (v := u41) (by exact xr_move rfl e9) rfl rfl rfl rfl rfl c65 ?_
                      refine ol_gval (v := .int .i64 (IntKind.i64.wrap ((IntKind.i64.wrap (384 * a0.Place)) + s46.2))) (by exact xr_move rfl rfl) rfl rfl rfl rfl rfl c65 ?_
                      obtain ⟨t66, k67, j62⟩ := bs j62
                      refine ol_gop (by exact opv_call rfl cal63 (ac rfl (ac rfl an)) (rickyardref10_Has.ok fu _ t39 u41 (o42.rd) (IntKind.i64.wrap ((IntKind.i64.wrap (384 * a0.Place)) + s46.2)) _ k67)) rfl rfl rfl rfl rfl c65 ?_
                      rintro _ w69 ⟨rfl, q68⟩
                      have b2 := b2.gr q68
                      have b17 := b17.gr q68
                      have o42 := o42.gr q68
                      have o54 := o54.gr q68
                      have fB := fB.gr q68
                      refine ol_gval (v := .bool t66) (by exact xr_pickT rfl rfl c65 rfl) rfl rfl rfl rfl rfl c64 ?_
                      refine ol_val (v := .bool t66) (by exact xr_pickF rfl rfl c64 rfl) rfl rfl rfl ?_
                      refine ol_nil ?_
                      obtain rfl := Option.some.inj j62
                      refine thn_i ?_
                      exact ⟨e1, e2, e3, e7, e8, e9, e10, e11, rfl, rfl, q68⟩
                    · skip
                      refine ol_gskip rfl rfl rfl rfl rfl c65 ?_
                      refine ol_gskip rfl rfl rfl rfl rfl c65 ?_
                      refine ol_gskip rfl rfl rfl rfl rfl c65 ?_
                      refine ol_gval (v := .bool false) (by exact xr_pickF rfl rfl c65 rfl) rfl rfl rfl rfl rfl c64 ?_
                      refine ol_val (v := .bool false) (by exact xr_pickF rfl rfl c64 rfl) rfl rfl rfl ?_
                      refine ol_nil ?_
                      obtain rfl := Option.some.inj j62
                      refine thn_i ?_
                      exact ⟨e1, e2, e3, e7, e8, e9, e10, e11, rfl, rfl, Fr.refl _ _⟩
                · skip
                  refine ol_gskip rfl rfl rfl rfl rfl c63 ?_
                  refine ol_val (v := .bool false) (by exact xr_pickF rfl rfl c63 rfl) rfl rfl rfl ?_
                  refine ol_val (v := .bool false) (by exact xr_move rfl rfl) rfl rfl rfl ?_
                  refine ol_gval (v := .int .i64 (IntKind.i64.wrap ((IntKind.i64.wrap (384 * a0.Place)) + s46.2))) (by exact xr_move rfl rfl) rfl rfl rfl rfl rfl rfl ?_
                  refine ol_gval (v := .int .i64 a1) (by exact xr_move rfl e1) rfl rfl rfl rfl rfl rfl ?_
                  refine ol_gval (v := .bool (!decide ((IntKind.i64.wrap ((IntKind.i64.wrap (384 * a0.Place)) + s46.2)) = a1))) (by exact xr_neI rfl Try.underlying3 rfl rfl rfl) rfl rfl rfl rfl rfl rfl ?_
                  refine ol_gval (v := .bool (!decide ((IntKind.i64.wrap ((IntKind.i64.wrap (384 * a0.Place)) + s46.2)) = a1))) (by exact xr_move rfl rfl) rfl rfl rfl rfl rfl rfl ?_
                  rcases is j62 with ⟨c70, j62⟩ | ⟨c70, j62⟩
                  · skip
                    refine ol_gval (v := u41) (by exact xr_move rfl e9) rfl rfl rfl rfl rfl c70 ?_
                    refine ol_gval (v := .int .i64 (IntKind.i64.wrap ((IntKind.i64.wrap (384 * a0.Place)) + s46.2))) (by exact xr_move rfl rfl) rfl rfl rfl rfl rfl c70 ?_
                    obtain ⟨t71, k72, j62⟩ := bs j62
                    refine ol_gop (by exact opv_call rfl cal63 (ac rfl (ac rfl an)) (rickyardref10_Has.ok fu _ t39 u41 (o42.rd) (IntKind.i64.wrap ((IntKind.i64.wrap (384 * a0.Place)) + s46.2)) _ k72)) rfl rfl rfl rfl rfl c70 ?_
                    rintro _ w74 ⟨rfl, q73⟩
                    have b2 := b2.gr q73
                    have b17 := b17.gr q73
                    have o42 := o42.gr q73
                    have o54 := o54.gr q73
                    have fB := fB.gr q73
                    refine ol_gval (v := .bool t71) (by exact xr_pickT rfl rfl c70 rfl) rfl rfl rfl rfl rfl rfl ?_
                    refine ol_val (v := .bool t71) (by exact xr_pickF rfl rfl rfl rfl) rfl rfl rfl ?_
                    refine ol_nil ?_
                    obtain rfl := Option.some.inj j62
                    refine thn_i ?_
                    exact ⟨e1, e2, e3, e7, e8, e9, e10, e11, rfl, rfl, q73⟩
                  · skip
                    refine ol_gskip rfl rfl rfl rfl rfl c70 ?_
                    refine ol_gskip rfl rfl rfl rfl rfl c70 ?_
                    refine ol_gskip rfl rfl rfl rfl rfl c70 ?_
                    refine ol_gval (v := .bool false) (by exact xr_pickF rfl rfl c70 rfl) rfl rfl rfl rfl rfl rfl ?_
                    refine ol_val (v := .bool false) (by exact xr_pickF rfl rfl rfl rfl) rfl rfl rfl ?_
                    refine ol_nil ?_
                    obtain rfl := Option.some.inj j62
                    refine thn_i ?_
                    exact ⟨e1, e2, e3, e7, e8, e9, e10, e11, rfl, rfl, Fr.refl _ _⟩
              · skip
                rintro ρ75 w76 ⟨e1, e2, e3, e7, e8, e9, e10, e11, e12, e73, q77⟩
                have b2 := b2.gr q77
                have b17 := b17.gr q77
                have o42 := o42.gr q77
                have o54 := o54.gr q77
                have fB := fB.gr q77
                obtain ⟨x78, j79, h80⟩ := bs h
                refine cw_mid (fun ρ' w' => ∃ v81 : Value, ∃ o42 : Own (kI .i64) 3 w' w.heap.size u41 t39, ∃ o82 : Own (kI .i64) 3 w' w.heap.size v81 x78, OffV u41 v81 ∧ ρ' 1 = .int .i64 a1 ∧ ρ' 2 = .bool a2 ∧ ρ' 3 = .pointer (some ⟨G1, 0, none⟩) ∧ ρ' 7 = .pointer (some ⟨G16, 0, none⟩) ∧ ρ' 8 = .bool t12.2 ∧ ρ' 9 = u41 ∧ ρ' 10 = v81 ∧ ρ' 11 = .int .i64 s46.2 ∧ Blk w' G1 81 [Seg.cell (.int .i64 a0.Place), Kd.seg (kA 48 (kI .u8)) a0.Bits] ∧ Blk w' G16 81 [Seg.cell (.int .i64 t12.1.Place), Kd.seg (kA 48 (kI .u8)) t12.1.Bits] ∧ Gr w w') ?_ ?_
                · have h := j79
                  rcases is h with ⟨c85, h⟩ | ⟨c85, h⟩
                  · refine cw_condT e73 c85 ?_
                    refine cw_region ?_
                    refine ol_val (v := v53) (by exact xr_move rfl e10) rfl rfl rfl ?_
                    refine ol_val (v := .int .i64 (IntKind.i64.wrap ((IntKind.i64.wrap (384 * a0.Place)) + s46.2))) (by exact xr_move rfl e12) rfl rfl rfl ?_
                    refine ol_op (by exact opv_buildSlice (K := (kI .i64)) (xs := [(IntKind.i64.wrap ((IntKind.i64.wrap (384 * a0.Place)) + s46.2))]) (vals := [.int .i64 (IntKind.i64.wrap ((IntKind.i64.wrap (384 * a0.Place)) + s46.2))]) rfl Try.underlying45 el3 rfl rfl ⟨rfl, rfl, trivial⟩ rfl rfl rfl fB.size) rfl rfl rfl ?_
                    rintro v86 w91 ⟨o88, q87, z89⟩
                    have a92 := OffV.new o42 z89
                    have a93 := OffV.new o54 z89
                    have b2 := b2.gr q87
                    have b17 := b17.gr q87
                    have o42 := o42.gr q87
                    have o54 := o54.gr q87
                    have fB := fB.gr q87
                    obtain ⟨g98, h⟩ := gs h
                    have f100 := off_ty b2 o54 (by decide)
                    have f101 := off_ty b17 o54 (by decide)
                    have f102 := a56
                    have f103 := o54.geO
                    refine ol_op (by exact opv_append (K := (kI .i64)) rfl Try.underlying45 el3 rfl rfl rfl rfl rfl o54 o88.rd g98 fB.size) rfl rfl rfl ?_
                    rintro v94 w104 ⟨o95, q96, n97⟩
                    have a105 := OffV.app o42 f102 n97
                    have b2 := b2.wrO q96 f100
                    have b17 := b17.wrO q96 f101
                    have o42 := o42.wrV q96 f102
                    have fB := fB.wrO q96 f103
                    refine ol_val (v := v94) (by exact xr_assign rfl rfl) rfl rfl rfl ?_
                    refine ol_nil ?_
                    obtain rfl := Option.some.inj h
                    refine thn_i ?_
                    exact ⟨v94, o42, o95, a105, e1, e2, e3, e7, e8, e9, rfl, e11, b2, b17, fB⟩
                  · refine cw_condF e73 c85 ?_
                    refine cw_skip ?_
                    obtain rfl := Option.some.inj h
                    refine thn_i ?_
                    exact ⟨v53, o42, o54, a56, e1, e2, e3, e7, e8, e9, e10, e11, b2, b17, fB⟩
                · rintro ρ106 w107 ⟨v81, o42, o82, a84, e1, e2, e3, e7, e8, e9, e10, e11, b2, b17, fB⟩
                  have h := h80
                  refine blk_i ?_
                  refine cw_region ?_
                  refine ol_val (v := .int .i64 s46.2) (by exact xr_move rfl e11) rfl rfl rfl ?_
                  refine ol_val (v := .int .i64 (IntKind.i64.wrap (s46.2 + 1))) (by exact xr_add rfl rfl rfl) rfl rfl rfl ?_
                  refine ol_val (v := .int .i64 (IntKind.i64.wrap (s46.2 + 1))) (by exact xr_assign rfl rfl) rfl rfl rfl ?_
                  refine ol_nil ?_
                  obtain rfl := Option.some.inj h
                  refine lp_in ?_
                  exact ⟨v81, o42, o82, a84, e1, e2, e3, e7, e8, e9, e10, rfl, b2, b17, fB⟩
            · refine cw_condF rfl c60 ?_
              refine cw_exit ?_
              repeat (first | with_reducible refine thn_e ?_ | with_reducible refine blk_e rfl ?_)
              obtain rfl := Option.some.inj h
              refine lp_exit ?_
              rintro rfl
              refine thn_x ?_
              exact ⟨v53, o54, e1, e2, e3, e7, e8, e10, b2, b17, fB⟩
        · rintro ρ108 w109 ⟨v50, o51, e1, e2, e3, e7, e8, e10, b2, b17, fB⟩
          have h := h49
          refine cw_seq ?_
          obtain ⟨x110, j111, h⟩ := bs h
          refine cw_mid (fun ρ' w' => ρ' 6 = .bool x110 ∧ Gr w109 w') ?_ ?_
          · skip
            rcases is j111 with ⟨c112, j111⟩ | ⟨c112, j111⟩
            · skip
              obtain ⟨t113, k114, j111⟩ := bs j111
              rcases is j111 with ⟨c116, j111⟩ | ⟨c116, j111⟩
              · skip
                obtain ⟨t117, k118, j111⟩ := bs j111
                refine cw_drawL 15 [fun vz wz => vz = (.bool t12.2 : Value), fun vz wz => vz = (.bool t12.2 : Value), fun vz wz => vz = (aggV [Seg.cell (.int .i64 t12.1.Place), Kd.seg (kA 48 (kI .u8)) t12.1.Bits] : Value), fun vz wz => vz = (.pointer (some ⟨G1, 0, none⟩) : Value), fun vz wz => vz = (.int .i64 a0.Place : Value), fun vz wz => vz = (v50 : Value), fun vz wz => vz = (aggV [Seg.cell (.int .i64 t113.Place), Kd.seg (kA 48 (kI .u8)) t113.Bits] : Value), fun vz wz => vz = (.bool (decide (t12.1 = t113)) : Value), fun vz wz => vz = (.bool (decide (t12.1 = t113)) : Value), fun vz wz => vz = (.bool (decide (t12.1 = t113)) : Value), fun vz wz => vz = (aggV [Seg.cell (.int .i64 t12.1.Place), Kd.seg (kA 48 (kI .u8)) t12.1.Bits] : Value), fun vz wz => vz = (.int .i64 a1 : Value), fun vz wz => vz = (.bool t117 : Value), fun vz wz => vz = (.bool a2 : Value), fun vz wz => vz = (.bool (decide (t117 = a2)) : Value)] mo rfl ⟨fun _ _ _ h _ => h, fun _ _ _ h _ => h, fun _ _ _ h _ => h, fun _ _ _ h _ => h, fun _ _ _ h _ => h, fun _ _ _ h _ => h, fun _ _ _ h _ => h, fun _ _ _ h _ => h, fun _ _ _ h _ => h, fun _ _ _ h _ => h, fun _ _ _ h _ => h, fun _ _ _ h _ => h, fun _ _ _ h _ => h, fun _ _ _ h _ => h, fun _ _ _ h _ => h, trivial⟩ ?_ ?_
                · refine ⟨?_, ?_, ?_, ?_, ?_, ?_, ?_, ?_, ?_, ?_, ?_, ?_, ?_, ?_, ?_, trivial⟩
                  · intro ρz wz hz hk hd
                    exact sk_val (v := .bool t12.2) (by exact xr_move rfl ((hk 8 rfl).trans e8)) rfl rfl
                  · intro ρz wz hz hk hd
                    have d78 := hd 0 rfl 78 rfl
                    exact sk_val (v := .bool t12.2) (by exact xr_move rfl d78) rfl rfl
                  · intro ρz wz hz hk hd
                    have d79 := hd 1 rfl 79 rfl
                    exact sk_gval (by exact xr_loadS (ss := [Seg.cell (.int .i64 t12.1.Place), Kd.seg (kA 48 (kI .u8)) t12.1.Bits]) rfl ag81 sz81 rfl ((hk 7 rfl).trans e7) ((b17.gr hz).segs 0 2 rfl)) rfl rfl d79 c112 rfl
                  · intro ρz wz hz hk hd
                    have d79 := hd 1 rfl 79 rfl
                    exact sk_gval (v := .pointer (some ⟨G1, 0, none⟩)) (by exact xr_fieldAddr (p := 0) (q := 0) rfl fl81_0 ((hk 3 rfl).trans e3)) rfl rfl d79 c112 rfl
                  · intro ρz wz hz hk hd
                    have d81 := hd 3 rfl 81 rfl
                    have d79 := hd 1 rfl 79 rfl
                    exact sk_gval (v := .int .i64 a0.Place) (by exact xr_load1 (v := .int .i64 a0.Place) rfl ag3 d81 ((b2.gr hz).seg 0 rfl rfl)) rfl rfl d79 c112 rfl
                  · intro ρz wz hz hk hd
                    have d79 := hd 1 rfl 79 rfl
                    exact sk_gval (v := v50) (by exact xr_move rfl ((hk 10 rfl).trans e10)) rfl rfl d79 c112 rfl
                  · intro ρz wz hz hk hd
                    have d82 := hd 4 rfl 82 rfl
                    have d83 := hd 5 rfl 83 rfl
                    have d79 := hd 1 rfl 79 rfl
                    refine sk_gop (by exact opv_call rfl cal64 (ac d82 (ac d83 an)) (rickyardref10_Made.ok fu _ a0.Place e47 v50 (o51.gr hz).rd _ k114)) rfl rfl d79 c112 ?_
                    rintro _ wy ⟨rfl, q115⟩
                    exact ⟨rfl, q115⟩
                  · intro ρz wz hz hk hd
                    have d80 := hd 2 rfl 80 rfl
                    have d84 := hd 6 rfl 84 rfl
                    have d79 := hd 1 rfl 79 rfl
                    exact sk_gval (v := .bool (decide (t12.1 = t113))) (by exact xr_eqA (a := t12.1) (b := t113) rfl eqa81 rfl Try.eqGuardType80 d80 d84 rfl rfl) rfl rfl d79 c112 rfl
                  · intro ρz wz hz hk hd
                    have d79 := hd 1 rfl 79 rfl
                    have d85 := hd 7 rfl 85 rfl
                    exact sk_val (v := .bool (decide (t12.1 = t113))) (by exact xr_pickT rfl d79 c112 d85) rfl rfl
                  · intro ρz wz hz hk hd
                    have d86 := hd 8 rfl 86 rfl
                    exact sk_val (v := .bool (decide (t12.1 = t113))) (by exact xr_move rfl d86) rfl rfl
                  · intro ρz wz hz hk hd
                    have d87 := hd 9 rfl 87 rfl
                    exact sk_gval (by exact xr_loadS (ss := [Seg.cell (.int .i64 t12.1.Place), Kd.seg (kA 48 (kI .u8)) t12.1.Bits]) rfl ag81 sz81 rfl ((hk 7 rfl).trans e7) ((b17.gr hz).segs 0 2 rfl)) rfl rfl d87 c116 rfl
                  · intro ρz wz hz hk hd
                    have d87 := hd 9 rfl 87 rfl
                    exact sk_gval (v := .int .i64 a1) (by exact xr_move rfl ((hk 1 rfl).trans e1)) rfl rfl d87 c116 rfl
                  · intro ρz wz hz hk hd
                    have d88 := hd 10 rfl 88 rfl
                    have d89 := hd 11 rfl 89 rfl
                    have d87 := hd 9 rfl 87 rfl
                    refine sk_gop (by exact opv_call rfl cal65 (ac d88 (ac d89 an)) (chart_Has.ok fu _ t12.1 a1 _ k118)) rfl rfl d87 c116 ?_
                    rintro _ wy ⟨rfl, q119⟩
                    exact ⟨rfl, q119⟩
                  · intro ρz wz hz hk hd
                    have d87 := hd 9 rfl 87 rfl
                    exact sk_gval (v := .bool a2) (by exact xr_move rfl ((hk 2 rfl).trans e2)) rfl rfl d87 c116 rfl
                  · intro ρz wz hz hk hd
                    have d90 := hd 12 rfl 90 rfl
                    have d91 := hd 13 rfl 91 rfl
                    have d87 := hd 9 rfl 87 rfl
                    exact sk_gval (v := .bool (decide (t117 = a2))) (by exact xr_eqB rfl Try.underlying4 d90 d91) rfl rfl d87 c116 rfl
                · intro ρ120 w121 q122 hk hd
                  have e87 := hd 9 rfl 87 rfl
                  have e92 := hd 14 rfl 92 rfl
                  have fB := fB.gr q122
                  refine ol_val (v := .bool (decide (t117 = a2))) (by exact xr_pickT rfl e87 c116 e92) rfl rfl rfl ?_
                  refine ol_val (v := .bool (decide (t117 = a2))) (by exact xr_assign rfl rfl) rfl rfl rfl ?_
                  refine ol_nil ?_
                  obtain rfl := Option.some.inj j111
                  refine thn_i ?_
                  exact ⟨rfl, q122⟩
              · skip
                refine cw_drawL 15 [fun vz wz => vz = (.bool t12.2 : Value), fun vz wz => vz = (.bool t12.2 : Value), fun vz wz => vz = (aggV [Seg.cell (.int .i64 t12.1.Place), Kd.seg (kA 48 (kI .u8)) t12.1.Bits] : Value), fun vz wz => vz = (.pointer (some ⟨G1, 0, none⟩) : Value), fun vz wz => vz = (.int .i64 a0.Place : Value), fun vz wz => vz = (v50 : Value), fun vz wz => vz = (aggV [Seg.cell (.int .i64 t113.Place), Kd.seg (kA 48 (kI .u8)) t113.Bits] : Value), fun vz wz => vz = (.bool (decide (t12.1 = t113)) : Value), fun vz wz => vz = (.bool (decide (t12.1 = t113)) : Value), fun vz wz => vz = (.bool (decide (t12.1 = t113)) : Value), fun vz _ => vz = undef, fun vz _ => vz = undef, fun vz _ => vz = undef, fun vz _ => vz = undef, fun vz _ => vz = undef] mo rfl ⟨fun _ _ _ h _ => h, fun _ _ _ h _ => h, fun _ _ _ h _ => h, fun _ _ _ h _ => h, fun _ _ _ h _ => h, fun _ _ _ h _ => h, fun _ _ _ h _ => h, fun _ _ _ h _ => h, fun _ _ _ h _ => h, fun _ _ _ h _ => h, fun _ _ _ h _ => h, fun _ _ _ h _ => h, fun _ _ _ h _ => h, fun _ _ _ h _ => h, fun _ _ _ h _ => h, trivial⟩ ?_ ?_
                · refine ⟨?_, ?_, ?_, ?_, ?_, ?_, ?_, ?_, ?_, ?_, ?_, ?_, ?_, ?_, ?_, trivial⟩
                  · intro ρz wz hz hk hd
                    exact sk_val (v := .bool t12.2) (by exact xr_move rfl ((hk 8 rfl).trans e8)) rfl rfl
                  · intro ρz wz hz hk hd
                    have d78 := hd 0 rfl 78 rfl
                    exact sk_val (v := .bool t12.2) (by exact xr_move rfl d78) rfl rfl
                  · intro ρz wz hz hk hd
                    have d79 := hd 1 rfl 79 rfl
                    exact sk_gval (by exact xr_loadS (ss := [Seg.cell (.int .i64 t12.1.Place), Kd.seg (kA 48 (kI .u8)) t12.1.Bits]) rfl ag81 sz81 rfl ((hk 7 rfl).trans e7) ((b17.gr hz).segs 0 2 rfl)) rfl rfl d79 c112 rfl
                  · intro ρz wz hz hk hd
                    have d79 := hd 1 rfl 79 rfl
                    exact sk_gval (v := .pointer (some ⟨G1, 0, none⟩)) (by exact xr_fieldAddr (p := 0) (q := 0) rfl fl81_0 ((hk 3 rfl).trans e3)) rfl rfl d79 c112 rfl
                  · intro ρz wz hz hk hd
                    have d81 := hd 3 rfl 81 rfl
                    have d79 := hd 1 rfl 79 rfl
                    exact sk_gval (v := .int .i64 a0.Place) (by exact xr_load1 (v := .int .i64 a0.Place) rfl ag3 d81 ((b2.gr hz).seg 0 rfl rfl)) rfl rfl d79 c112 rfl
                  · intro ρz wz hz hk hd
                    have d79 := hd 1 rfl 79 rfl
                    exact sk_gval (v := v50) (by exact xr_move rfl ((hk 10 rfl).trans e10)) rfl rfl d79 c112 rfl
                  · intro ρz wz hz hk hd
                    have d82 := hd 4 rfl 82 rfl
                    have d83 := hd 5 rfl 83 rfl
                    have d79 := hd 1 rfl 79 rfl
                    refine sk_gop (by exact opv_call rfl cal64 (ac d82 (ac d83 an)) (rickyardref10_Made.ok fu _ a0.Place e47 v50 (o51.gr hz).rd _ k114)) rfl rfl d79 c112 ?_
                    rintro _ wy ⟨rfl, q115⟩
                    exact ⟨rfl, q115⟩
                  · intro ρz wz hz hk hd
                    have d80 := hd 2 rfl 80 rfl
                    have d84 := hd 6 rfl 84 rfl
                    have d79 := hd 1 rfl 79 rfl
                    exact sk_gval (v := .bool (decide (t12.1 = t113))) (by exact xr_eqA (a := t12.1) (b := t113) rfl eqa81 rfl Try.eqGuardType80 d80 d84 rfl rfl) rfl rfl d79 c112 rfl
                  · intro ρz wz hz hk hd
                    have d79 := hd 1 rfl 79 rfl
                    have d85 := hd 7 rfl 85 rfl
                    exact sk_val (v := .bool (decide (t12.1 = t113))) (by exact xr_pickT rfl d79 c112 d85) rfl rfl
                  · intro ρz wz hz hk hd
                    have d86 := hd 8 rfl 86 rfl
                    exact sk_val (v := .bool (decide (t12.1 = t113))) (by exact xr_move rfl d86) rfl rfl
                  · intro ρz wz hz hk hd
                    have d87 := hd 9 rfl 87 rfl
                    exact sk_skip rfl rfl d87 c116 rfl
                  · intro ρz wz hz hk hd
                    have d87 := hd 9 rfl 87 rfl
                    exact sk_skip rfl rfl d87 c116 rfl
                  · intro ρz wz hz hk hd
                    have d87 := hd 9 rfl 87 rfl
                    exact sk_skip rfl rfl d87 c116 rfl
                  · intro ρz wz hz hk hd
                    have d87 := hd 9 rfl 87 rfl
                    exact sk_skip rfl rfl d87 c116 rfl
                  · intro ρz wz hz hk hd
                    have d87 := hd 9 rfl 87 rfl
                    exact sk_skip rfl rfl d87 c116 rfl
                · intro ρ123 w124 q125 hk hd
                  have e87 := hd 9 rfl 87 rfl
                  have fB := fB.gr q125
                  refine ol_val (v := .bool false) (by exact xr_pickF rfl e87 c116 rfl) rfl rfl rfl ?_
                  refine ol_val (v := .bool false) (by exact xr_assign rfl rfl) rfl rfl rfl ?_
                  refine ol_nil ?_
                  obtain rfl := Option.some.inj j111
                  refine thn_i ?_
                  exact ⟨rfl, q125⟩
            · skip
              refine cw_drawL 15 [fun vz wz => vz = (.bool t12.2 : Value), fun vz wz => vz = (.bool t12.2 : Value), fun vz _ => vz = undef, fun vz _ => vz = undef, fun vz _ => vz = undef, fun vz _ => vz = undef, fun vz _ => vz = undef, fun vz _ => vz = undef, fun vz wz => vz = (.bool false : Value), fun vz wz => vz = (.bool false : Value), fun vz _ => vz = undef, fun vz _ => vz = undef, fun vz _ => vz = undef, fun vz _ => vz = undef, fun vz _ => vz = undef] mo rfl ⟨fun _ _ _ h _ => h, fun _ _ _ h _ => h, fun _ _ _ h _ => h, fun _ _ _ h _ => h, fun _ _ _ h _ => h, fun _ _ _ h _ => h, fun _ _ _ h _ => h, fun _ _ _ h _ => h, fun _ _ _ h _ => h, fun _ _ _ h _ => h, fun _ _ _ h _ => h, fun _ _ _ h _ => h, fun _ _ _ h _ => h, fun _ _ _ h _ => h, fun _ _ _ h _ => h, trivial⟩ ?_ ?_
              · refine ⟨?_, ?_, ?_, ?_, ?_, ?_, ?_, ?_, ?_, ?_, ?_, ?_, ?_, ?_, ?_, trivial⟩
                · intro ρz wz hz hk hd
                  exact sk_val (v := .bool t12.2) (by exact xr_move rfl ((hk 8 rfl).trans e8)) rfl rfl
                · intro ρz wz hz hk hd
                  have d78 := hd 0 rfl 78 rfl
                  exact sk_val (v := .bool t12.2) (by exact xr_move rfl d78) rfl rfl
                · intro ρz wz hz hk hd
                  have d79 := hd 1 rfl 79 rfl
                  exact sk_skip rfl rfl d79 c112 rfl
                · intro ρz wz hz hk hd
                  have d79 := hd 1 rfl 79 rfl
                  exact sk_skip rfl rfl d79 c112 rfl
                · intro ρz wz hz hk hd
                  have d79 := hd 1 rfl 79 rfl
                  exact sk_skip rfl rfl d79 c112 rfl
                · intro ρz wz hz hk hd
                  have d79 := hd 1 rfl 79 rfl
                  exact sk_skip rfl rfl d79 c112 rfl
                · intro ρz wz hz hk hd
                  have d79 := hd 1 rfl 79 rfl
                  exact sk_skip rfl rfl d79 c112 rfl
                · intro ρz wz hz hk hd
                  have d79 := hd 1 rfl 79 rfl
                  exact sk_skip rfl rfl d79 c112 rfl
                · intro ρz wz hz hk hd
                  have d79 := hd 1 rfl 79 rfl
                  exact sk_val (v := .bool false) (by exact xr_pickF rfl d79 c112 rfl) rfl rfl
                · intro ρz wz hz hk hd
                  have d86 := hd 8 rfl 86 rfl
                  exact sk_val (v := .bool false) (by exact xr_move rfl d86) rfl rfl
                · intro ρz wz hz hk hd
                  have d87 := hd 9 rfl 87 rfl
                  exact sk_skip rfl rfl d87 rfl rfl
                · intro ρz wz hz hk hd
                  have d87 := hd 9 rfl 87 rfl
                  exact sk_skip rfl rfl d87 rfl rfl
                · intro ρz wz hz hk hd
                  have d87 := hd 9 rfl 87 rfl
                  exact sk_skip rfl rfl d87 rfl rfl
                · intro ρz wz hz hk hd
                  have d87 := hd 9 rfl 87 rfl
                  exact sk_skip rfl rfl d87 rfl rfl
                · intro ρz wz hz hk hd
                  have d87 := hd 9 rfl 87 rfl
                  exact sk_skip rfl rfl d87 rfl rfl
              · intro ρ126 w127 q128 hk hd
                have e87 := hd 9 rfl 87 rfl
                have fB := fB.gr q128
                refine ol_val (v := .bool false) (by exact xr_pickF rfl e87 rfl rfl) rfl rfl rfl ?_
                refine ol_val (v := .bool false) (by exact xr_assign rfl rfl) rfl rfl rfl ?_
                refine ol_nil ?_
                obtain rfl := Option.some.inj j111
                refine thn_i ?_
                exact ⟨rfl, q128⟩
          · skip
            rintro ρ129 w130 ⟨e6, q131⟩
            have fB := fB.gr q131
            refine cw_ret ?_
            repeat (first | with_reducible refine thn_r ?_ | with_reducible refine blk_r ?_)
            obtain rfl := Option.some.inj h
            refine fin_ret1 Try.results15 e6 ?_
            exact ⟨_, rfl, rfl, fB⟩
end Go.Proofs.Ytjhajfkfhdnciaa
