/- rickyard/rickyardlaw10.ChartTells: its model, and that the Go function computes it: written by gen.py. -/
import Derived.Test.YtjhajfkfhdnciaaBase
import Derived.Test.YtjhajfkfhdnciaaFrickyardref01Rest
import Derived.Test.YtjhajfkfhdnciaaFrickyardlaw10awake
import Derived.Test.YtjhajfkfhdnciaaFrickyardref10Right
import Derived.Test.YtjhajfkfhdnciaaFrickyardref10List
import Derived.Test.YtjhajfkfhdnciaaFrickyardref10Has
import Derived.Test.YtjhajfkfhdnciaaFchartHas
import Derived.Test.YtjhajfkfhdnciaaFrickyardref01Ints
import Derived.Test.YtjhajfkfhdnciaaFchartList
import Derived.Test.YtjhajfkfhdnciaaFchartCount
set_option linter.unusedVariables false
namespace Go.Proofs.Ytjhajfkfhdnciaa
open Go Go.Xw
def rickyardlaw10_ChartTells.f (fu : Nat) (a0 : S_api_Chart) (a1 : Int) : Option Bool := ((rickyardlaw10_awake.f fu : Option Bool).bind fun t7 => (if (!t7) = true then some (false) else ((rickyardref10_List.f fu a0 : Option (List Int)).bind fun t12 => ((rickyardref10_Right.f fu a0 : Option Bool).bind fun t19 => (((if t19 = true then ((rickyardref01_Rest.f fu a1 384 : Option Int).bind fun t27 => some ((IntKind.i64.wrap ((IntKind.i64.wrap (384 * a0.Place)) + t27)))) else some (a0.Place)) : Option Int).bind fun x23 => ((((chart_List.f fu a0 : Option (List Int)).bind fun t37 => ((rickyardref01_Ints.f fu t37 t12 : Option Bool).bind fun t45 => (if t45 = true then ((chart_Count.f fu a0 : Option Int).bind fun t50 => (if (decide (t50 = (List.length t12 : Int))) = true then ((chart_Has.f fu a0 a1 : Option Bool).bind fun t55 => ((rickyardref10_Has.f fu t12 a1 : Option Bool).bind fun t59 => (if (decide (t55 = t59)) = true then ((chart_Has.f fu a0 x23 : Option Bool).bind fun t64 => ((rickyardref10_Has.f fu t12 x23 : Option Bool).bind fun t68 => some ((decide (t64 = t68))))) else some (false)))) else some (false))) else some (false)))) : Option Bool).bind fun x35 => some (x35)))))))
set_option maxRecDepth 100000 in
set_option maxHeartbeats 400000 in
theorem rickyardlaw10_ChartTells.ok (fu : Nat) (w : World) (a0 : S_api_Chart) (a1 : Int) (r : Bool) (h : rickyardlaw10_ChartTells.f fu a0 a1 = some r) :
    Calls Try.prog 16 (([aggV [Seg.cell (.int .i64 a0.Place), Kd.seg (kA 48 (kI .u8)) a0.Bits], .int .i64 a1] : List Value).toArray) w (fun e w' => ∃ v, e = .returned v ∧ v = .bool r ∧ Gr w w') := by
  unfold rickyardlaw10_ChartTells.f at h
  have fB : Gr w w := Fr.refl _ _
  refine calls_cw Try.func16 rfl Try.ntmps16 rfl ?_
  refine cw_seq ?_
  refine cw_region ?_
  refine ol_op (by exact opv_box (ss := [Seg.cell (.int .i64 a0.Place), Kd.seg (kA 48 (kI .u8)) a0.Bits]) rfl rfl rfl) rfl rfl rfl ?_
  rintro _ w6 ⟨G1, rfl, b2, q3, z4⟩
  have z4 := Nat.le_trans fB.size z4
  have fB := fB.gr q3
  refine ol_val (v := .bool false) (by exact xr_assign rfl rfl) rfl rfl rfl ?_
  refine ol_nil ?_
  refine cw_seq ?_
  refine cw_seq ?_
  refine cw_region ?_
  obtain ⟨t7, k8, h⟩ := bs h
  refine ol_op (by exact opv_call rfl cal59 an (rickyardlaw10_awake.ok fu _ _ k8)) rfl rfl rfl ?_
  rintro _ w10 ⟨rfl, q9⟩
  have b2 := b2.gr q9
  have fB := fB.gr q9
  refine ol_val (v := .bool (!t7)) (by exact xr_not rfl rfl) rfl rfl rfl ?_
  refine ol_nil ?_
  rcases is h with ⟨c11, h⟩ | ⟨c11, h⟩
  · refine cw_condT rfl c11 ?_
    refine cw_seq ?_
    refine cw_region ?_
    refine ol_val (v := .bool false) (by exact xr_assign rfl rfl) rfl rfl rfl ?_
    refine ol_nil ?_
    refine cw_ret ?_
    repeat (first | with_reducible refine thn_r ?_ | with_reducible refine blk_r ?_)
    obtain rfl := Option.some.inj h
    refine fin_ret1 Try.results16 rfl ?_
    exact ⟨_, rfl, rfl, fB⟩
  · refine cw_condF rfl c11 ?_
    refine cw_skip ?_
    refine cw_seq ?_
    refine cw_region ?_
    refine ol_val (v := aggV [Seg.cell (.int .i64 a0.Place), Kd.seg (kA 48 (kI .u8)) a0.Bits]) (by exact xr_loadS (ss := [Seg.cell (.int .i64 a0.Place), Kd.seg (kA 48 (kI .u8)) a0.Bits]) rfl ag81 sz81 rfl rfl (b2.segs 0 2 rfl)) rfl rfl rfl ?_
    obtain ⟨t12, k13, h⟩ := bs h
    refine ol_op (by exact opv_call rfl cal62 (ac rfl an) (rickyardref10_List.ok fu _ a0 _ k13)) rfl rfl rfl ?_
    rintro u14 w18 ⟨_, o15, rfl, q17⟩
    have o15 := Own.base o15 fB.size
    have b2 := b2.gr q17
    have fB := fB.gr q17
    refine ol_val (v := u14) (by exact xr_assign rfl rfl) rfl rfl rfl ?_
    refine ol_nil ?_
    refine cw_seq ?_
    refine cw_region ?_
    refine ol_val (v := .pointer (some ⟨G1, 0, none⟩)) (by exact xr_fieldAddr (p := 0) (q := 0) rfl fl81_0 rfl) rfl rfl rfl ?_
    refine ol_val (v := .int .i64 a0.Place) (by exact xr_load1 (v := .int .i64 a0.Place) rfl ag3 rfl (b2.seg 0 rfl rfl)) rfl rfl rfl ?_
    refine ol_val (v := .int .i64 a0.Place) (by exact xr_assign rfl rfl) rfl rfl rfl ?_
    refine ol_nil ?_
    refine cw_seq ?_
    refine cw_seq ?_
    refine cw_region ?_
    refine ol_val (v := aggV [Seg.cell (.int .i64 a0.Place), Kd.seg (kA 48 (kI .u8)) a0.Bits]) (by exact xr_loadS (ss := [Seg.cell (.int .i64 a0.Place), Kd.seg (kA 48 (kI .u8)) a0.Bits]) rfl ag81 sz81 rfl rfl (b2.segs 0 2 rfl)) rfl rfl rfl ?_
    obtain ⟨t19, k20, h⟩ := bs h
    refine ol_op (by exact opv_call rfl cal61 (ac rfl an) (rickyardref10_Right.ok fu _ a0 _ k20)) rfl rfl rfl ?_
    rintro _ w22 ⟨rfl, q21⟩
    have b2 := b2.gr q21
    have o15 := o15.gr q21
    have fB := fB.gr q21
    refine ol_nil ?_
    obtain ⟨x23, j24, h25⟩ := bs h
    refine cw_mid (fun ρ' w' => ∃ o15 : Own (kI .i64) 3 w' w.heap.size u14 t12, ρ' 1 = .int .i64 a1 ∧ ρ' 2 = .pointer (some ⟨G1, 0, none⟩) ∧ ρ' 5 = u14 ∧ ρ' 6 = .int .i64 x23 ∧ Blk w' G1 81 [Seg.cell (.int .i64 a0.Place), Kd.seg (kA 48 (kI .u8)) a0.Bits] ∧ Gr w w') ?_ ?_
    · have h := j24
      rcases is h with ⟨c26, h⟩ | ⟨c26, h⟩
      · refine cw_condT rfl c26 ?_
        obtain ⟨t27, k28, h⟩ := bs h
        refine cw_drawL 5 [fun vz wz => vz = (.pointer (some ⟨G1, 0, none⟩) : Value), fun vz wz => vz = (.int .i64 a0.Place : Value), fun vz wz => vz = (.int .i64 (IntKind.i64.wrap (384 * a0.Place)) : Value), fun vz wz => vz = (.int .i64 a1 : Value), fun vz wz => vz = (.int .i64 t27 : Value)] mo rfl ⟨fun _ _ _ h _ => h, fun _ _ _ h _ => h, fun _ _ _ h _ => h, fun _ _ _ h _ => h, fun _ _ _ h _ => h, trivial⟩ ?_ ?_
        · refine ⟨?_, ?_, ?_, ?_, ?_, trivial⟩
          · intro ρz wz hz hk hd
            exact sk_val (v := .pointer (some ⟨G1, 0, none⟩)) (by exact xr_fieldAddr (p := 0) (q := 0) rfl fl81_0 ((hk 2 rfl).trans rfl)) rfl rfl
          · intro ρz wz hz hk hd
            have d15 := hd 0 rfl 15 rfl
            exact sk_val (v := .int .i64 a0.Place) (by exact xr_load1 (v := .int .i64 a0.Place) rfl ag3 d15 ((b2.gr hz).seg 0 rfl rfl)) rfl rfl
          · intro ρz wz hz hk hd
            have d16 := hd 1 rfl 16 rfl
            exact sk_val (v := .int .i64 (IntKind.i64.wrap (384 * a0.Place))) (by exact xr_mul rfl rfl d16) rfl rfl
          · intro ρz wz hz hk hd
            exact sk_val (v := .int .i64 a1) (by exact xr_move rfl ((hk 1 rfl).trans rfl)) rfl rfl
          · intro ρz wz hz hk hd
            have d18 := hd 3 rfl 18 rfl
            refine sk_op (by exact opv_call rfl cal34 (ac d18 (ac rfl an)) (rickyardref01_Rest.ok fu _ a1 384 _ k28)) rfl ?_
            rintro _ wy ⟨rfl, q29⟩
            exact ⟨rfl, q29⟩
        · intro ρ30 w31 q32 hk hd
          have e1 := (hk 1 rfl).trans rfl
          have e2 := (hk 2 rfl).trans rfl
          have e5 := (hk 5 rfl).trans rfl
          have e17 := hd 2 rfl 17 rfl
          have e19 := hd 4 rfl 19 rfl
          have b2 := b2.gr q32
          have o15 := o15.gr q32
          have fB := fB.gr q32
          refine ol_val (v := .int .i64 (IntKind.i64.wrap ((IntKind.i64.wrap (384 * a0.Place)) + t27))) (by exact xr_add rfl e17 e19) rfl rfl rfl ?_
          refine ol_val (v := .int .i64 (IntKind.i64.wrap ((IntKind.i64.wrap (384 * a0.Place)) + t27))) (by exact xr_assign rfl rfl) rfl rfl rfl ?_
          refine ol_nil ?_
          obtain rfl := Option.some.inj h
          refine thn_i ?_
          exact ⟨o15, e1, e2, e5, rfl, b2, fB⟩
      · refine cw_condF rfl c26 ?_
        refine cw_skip ?_
        obtain rfl := Option.some.inj h
        refine thn_i ?_
        exact ⟨o15, rfl, rfl, rfl, rfl, b2, fB⟩
    · rintro ρ33 w34 ⟨o15, e1, e2, e5, e6, b2, fB⟩
      have h := h25
      refine cw_seq ?_
      obtain ⟨x35, j36, h⟩ := bs h
      refine cw_mid (fun ρ' w' => ρ' 4 = .bool x35 ∧ Gr w34 w') ?_ ?_
      · skip
        refine cw_region ?_
        refine ol_val (v := aggV [Seg.cell (.int .i64 a0.Place), Kd.seg (kA 48 (kI .u8)) a0.Bits]) (by exact xr_loadS (ss := [Seg.cell (.int .i64 a0.Place), Kd.seg (kA 48 (kI .u8)) a0.Bits]) rfl ag81 sz81 rfl e2 (b2.segs 0 2 rfl)) rfl rfl rfl ?_
        obtain ⟨t37, k38, j36⟩ := bs j36
        refine ol_op (by exact opv_call rfl cal67 (ac rfl an) (chart_List.ok fu _ a0 _ k38)) rfl rfl rfl ?_
        rintro u39 w43 ⟨_, o40, rfl, q42⟩
        have a44 := OffV.call o15 o40
        have o40 := Own.base o40 fB.size
        have b2 := b2.gr q42
        have o15 := o15.gr q42
        have fB := fB.gr q42
        refine ol_val (v := u14) (by exact xr_move rfl e5) rfl rfl rfl ?_
        obtain ⟨t45, k46, j36⟩ := bs j36
        refine ol_op (by exact opv_call rfl cal66 (ac rfl (ac rfl an)) (rickyardref01_Ints.ok fu _ t37 u39 (o40.rd) t12 u14 (o15.rd) _ k46)) rfl rfl rfl ?_
        rintro _ w48 ⟨rfl, q47⟩
        have b2 := b2.gr q47
        have o15 := o15.gr q47
        have fB := fB.gr q47
        refine ol_val (v := .bool t45) (by exact xr_move rfl rfl) rfl rfl rfl ?_
        rcases is j36 with ⟨c49, j36⟩ | ⟨c49, j36⟩
        · skip
          refine ol_gval (v := aggV [Seg.cell (.int .i64 a0.Place), Kd.seg (kA 48 (kI .u8)) a0.Bits]) (by exact xr_loadS (ss := [Seg.cell (.int .i64 a0.Place), Kd.seg (kA 48 (kI .u8)) a0.Bits]) rfl ag81 sz81 rfl e2 (b2.segs 0 2 rfl)) rfl rfl rfl rfl rfl c49 ?_
          obtain ⟨t50, k51, j36⟩ := bs j36
          refine ol_gop (by exact opv_call rfl cal68 (ac rfl an) (chart_Count.ok fu _ a0 _ k51)) rfl rfl rfl rfl rfl c49 ?_
          rintro _ w53 ⟨rfl, q52⟩
          have b2 := b2.gr q52
          have o15 := o15.gr q52
          have fB := fB.gr q52
          refine ol_gval (v := u14) (by exact xr_move rfl e5) rfl rfl rfl rfl rfl c49 ?_
          refine ol_gval (v := .int .i64 (List.length t12 : Int)) (by exact xr_lenR rfl Try.underlying45 rfl o15.rd) rfl rfl rfl rfl rfl c49 ?_
          refine ol_gval (v := .bool (decide (t50 = (List.length t12 : Int)))) (by exact xr_eqI rfl Try.underlying3 rfl rfl rfl) rfl rfl rfl rfl rfl c49 ?_
          refine ol_val (v := .bool (decide (t50 = (List.length t12 : Int)))) (by exact xr_pickT rfl rfl c49 rfl) rfl rfl rfl ?_
          refine ol_val (v := .bool (decide (t50 = (List.length t12 : Int)))) (by exact xr_move rfl rfl) rfl rfl rfl ?_
          rcases is j36 with ⟨c54, j36⟩ | ⟨c54, j36⟩
          · skip
            refine ol_gval (v := aggV [Seg.cell (.int .i64 a0.Place), Kd.seg (kA 48 (kI .u8)) a0.Bits]) (by exact xr_loadS (ss := [Seg.cell (.int .i64 a0.Place), Kd.seg (kA 48 (kI .u8)) a0.Bits]) rfl ag81 sz81 rfl e2 (b2.segs 0 2 rfl)) rfl rfl rfl rfl rfl c54 ?_
            refine ol_gval (v := .int .i64 a1) (by exact xr_move rfl e1) rfl rfl rfl rfl rfl c54 ?_
            obtain ⟨t55, k56, j36⟩ := bs j36
            refine ol_gop (by exact opv_call rfl cal65 (ac rfl (ac rfl an)) (chart_Has.ok fu _ a0 a1 _ k56)) rfl rfl rfl rfl rfl c54 ?_
            rintro _ w58 ⟨rfl, q57⟩
            have b2 := b2.gr q57
            have o15 := o15.gr q57
            have fB := fB.gr q57
            refine ol_gval (v := u14) (by exact xr_move rfl e5) rfl rfl rfl rfl rfl c54 ?_
            refine ol_gval (v := .int .i64 a1) (by exact xr_move rfl e1) rfl rfl rfl rfl rfl c54 ?_
            obtain ⟨t59, k60, j36⟩ := bs j36
            refine ol_gop (by exact opv_call rfl cal63 (ac rfl (ac rfl an)) (rickyardref10_Has.ok fu _ t12 u14 (o15.rd) a1 _ k60)) rfl rfl rfl rfl rfl c54 ?_
            rintro _ w62 ⟨rfl, q61⟩
            have b2 := b2.gr q61
            have o15 := o15.gr q61
            have fB := fB.gr q61
            refine ol_gval (v := .bool (decide (t55 = t59))) (by exact xr_eqB rfl Try.underlying4 rfl rfl) rfl rfl rfl rfl rfl c54 ?_
            refine ol_val (v := .bool (decide (t55 = t59))) (by exact xr_pickT rfl rfl c54 rfl) rfl rfl rfl ?_
            refine ol_val (v := .bool (decide (t55 = t59))) (by exact xr_move rfl rfl) rfl rfl rfl ?_
            rcases is j36 with ⟨c63, j36⟩ | ⟨c63, j36⟩
            · skip
              refine ol_gval (v := aggV [Seg.cell (.int .i64 a0.Place), Kd.seg (kA 48 (kI .u8)) a0.Bits]) (by exact xr_loadS (ss := [Seg.cell (.int .i64 a0.Place), Kd.seg (kA 48 (kI .u8)) a0.Bits]) rfl ag81 sz81 rfl e2 (b2.segs 0 2 rfl)) rfl rfl rfl rfl rfl c63 ?_
              refine ol_gval (v := .int .i64 x23) (by exact xr_move rfl e6) rfl rfl rfl rfl rfl c63 ?_
              obtain ⟨t64, k65, j36⟩ := bs j36
              refine ol_gop (by exact opv_call rfl cal65 (ac rfl (ac rfl an)) (chart_Has.ok fu _ a0 x23 _ k65)) rfl rfl rfl rfl rfl c63 ?_
              rintro _ w67 ⟨rfl, q66⟩
              have o15 := o15.gr q66
              have fB := fB.gr q66
              refine ol_gval (v := u14) (by exact xr_move rfl e5) rfl rfl rfl rfl rfl c63 ?_
              refine ol_gval (v := .int .i64 x23) (by exact xr_move rfl e6) rfl rfl rfl rfl rfl c63 ?_
              obtain ⟨t68, k69, j36⟩ := bs j36
              refine ol_gop (by exact opv_call rfl cal63 (ac rfl (ac rfl an)) (rickyardref10_Has.ok fu _ t12 u14 (o15.rd) x23 _ k69)) rfl rfl rfl rfl rfl c63 ?_
              rintro _ w71 ⟨rfl, q70⟩
              have fB := fB.gr q70
              refine ol_gval (v := .bool (decide (t64 = t68))) (by exact xr_eqB rfl Try.underlying4 rfl rfl) rfl rfl rfl rfl rfl c63 ?_
              refine ol_val (v := .bool (decide (t64 = t68))) (by exact xr_pickT rfl rfl c63 rfl) rfl rfl rfl ?_
              refine ol_val (v := .bool (decide (t64 = t68))) (by exact xr_assign rfl rfl) rfl rfl rfl ?_
              refine ol_nil ?_
              obtain rfl := Option.some.inj j36
              refine thn_i ?_
              exact ⟨rfl, ((((((q42.gr q47).gr q52).gr q57).gr q61).gr q66).gr q70)⟩
            · skip
              refine ol_gskip rfl rfl rfl rfl rfl c63 ?_
              refine ol_gskip rfl rfl rfl rfl rfl c63 ?_
              refine ol_gskip rfl rfl rfl rfl rfl c63 ?_
              refine ol_gskip rfl rfl rfl rfl rfl c63 ?_
              refine ol_gskip rfl rfl rfl rfl rfl c63 ?_
              refine ol_gskip rfl rfl rfl rfl rfl c63 ?_
              refine ol_gskip rfl rfl rfl rfl rfl c63 ?_
              refine ol_val (v := .bool false) (by exact xr_pickF rfl rfl c63 rfl) rfl rfl rfl ?_
              refine ol_val (v := .bool false) (by exact xr_assign rfl rfl) rfl rfl rfl ?_
              refine ol_nil ?_
              obtain rfl := Option.some.inj j36
              refine thn_i ?_
              exact ⟨rfl, ((((q42.gr q47).gr q52).gr q57).gr q61)⟩
          · skip
            refine ol_gskip rfl rfl rfl rfl rfl c54 ?_
            refine ol_gskip rfl rfl rfl rfl rfl c54 ?_
            refine ol_gskip rfl rfl rfl rfl rfl c54 ?_
            refine ol_gskip rfl rfl rfl rfl rfl c54 ?_
            refine ol_gskip rfl rfl rfl rfl rfl c54 ?_
            refine ol_gskip rfl rfl rfl rfl rfl c54 ?_
            refine ol_gskip rfl rfl rfl rfl rfl c54 ?_
            refine ol_val (v := .bool false) (by exact xr_pickF rfl rfl c54 rfl) rfl rfl rfl ?_
            refine ol_val (v := .bool false) (by exact xr_move rfl rfl) rfl rfl rfl ?_
            refine ol_gskip rfl rfl rfl rfl rfl rfl ?_
            refine ol_gskip rfl rfl rfl rfl rfl rfl ?_
            refine ol_gskip rfl rfl rfl rfl rfl rfl ?_
            refine ol_gskip rfl rfl rfl rfl rfl rfl ?_
            refine ol_gskip rfl rfl rfl rfl rfl rfl ?_
            refine ol_gskip rfl rfl rfl rfl rfl rfl ?_
            refine ol_gskip rfl rfl rfl rfl rfl rfl ?_
            refine ol_val (v := .bool false) (by exact xr_pickF rfl rfl rfl rfl) rfl rfl rfl ?_
            refine ol_val (v := .bool false) (by exact xr_assign rfl rfl) rfl rfl rfl ?_
            refine ol_nil ?_
            obtain rfl := Option.some.inj j36
            refine thn_i ?_
            exact ⟨rfl, ((q42.gr q47).gr q52)⟩
        · skip
          refine ol_gskip rfl rfl rfl rfl rfl c49 ?_
          refine ol_gskip rfl rfl rfl rfl rfl c49 ?_
          refine ol_gskip rfl rfl rfl rfl rfl c49 ?_
          refine ol_gskip rfl rfl rfl rfl rfl c49 ?_
          refine ol_gskip rfl rfl rfl rfl rfl c49 ?_
          refine ol_val (v := .bool false) (by exact xr_pickF rfl rfl c49 rfl) rfl rfl rfl ?_
          refine ol_val (v := .bool false) (by exact xr_move rfl rfl) rfl rfl rfl ?_
          refine ol_gskip rfl rfl rfl rfl rfl rfl ?_
          refine ol_gskip rfl rfl rfl rfl rfl rfl ?_
          refine ol_gskip rfl rfl rfl rfl rfl rfl ?_
          refine ol_gskip rfl rfl rfl rfl rfl rfl ?_
          refine ol_gskip rfl rfl rfl rfl rfl rfl ?_
          refine ol_gskip rfl rfl rfl rfl rfl rfl ?_
          refine ol_gskip rfl rfl rfl rfl rfl rfl ?_
          refine ol_val (v := .bool false) (by exact xr_pickF rfl rfl rfl rfl) rfl rfl rfl ?_
          refine ol_val (v := .bool false) (by exact xr_move rfl rfl) rfl rfl rfl ?_
          refine ol_gskip rfl rfl rfl rfl rfl rfl ?_
          refine ol_gskip rfl rfl rfl rfl rfl rfl ?_
          refine ol_gskip rfl rfl rfl rfl rfl rfl ?_
          refine ol_gskip rfl rfl rfl rfl rfl rfl ?_
          refine ol_gskip rfl rfl rfl rfl rfl rfl ?_
          refine ol_gskip rfl rfl rfl rfl rfl rfl ?_
          refine ol_gskip rfl rfl rfl rfl rfl rfl ?_
          refine ol_val (v := .bool false) (by exact xr_pickF rfl rfl rfl rfl) rfl rfl rfl ?_
          refine ol_val (v := .bool false) (by exact xr_assign rfl rfl) rfl rfl rfl ?_
          refine ol_nil ?_
          obtain rfl := Option.some.inj j36
          refine thn_i ?_
          exact ⟨rfl, (q42.gr q47)⟩
      · skip
        rintro ρ72 w73 ⟨e4, q74⟩
        have fB := fB.gr q74
        refine cw_ret ?_
        repeat (first | with_reducible refine thn_r ?_ | with_reducible refine blk_r ?_)
        obtain rfl := Option.some.inj h
        refine fin_ret1 Try.results16 e4 ?_
        exact ⟨_, rfl, rfl, fB⟩
end Go.Proofs.Ytjhajfkfhdnciaa
