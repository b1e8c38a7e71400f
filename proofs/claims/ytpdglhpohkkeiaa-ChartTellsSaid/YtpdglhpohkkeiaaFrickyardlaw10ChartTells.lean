/- rickyard/rickyardlaw10.ChartTells: its model, and that the Go function computes it: written by gen.py. -/
import Derived.Test.YtpdglhpohkkeiaaBase
import Derived.Test.YtpdglhpohkkeiaaFrickyardlaw10awake
import Derived.Test.YtpdglhpohkkeiaaFrickyardref10Right
import Derived.Test.YtpdglhpohkkeiaaFrickyardref10List
import Derived.Test.YtpdglhpohkkeiaaFrickyardref10Has
import Derived.Test.YtpdglhpohkkeiaaFchartHas
import Derived.Test.YtpdglhpohkkeiaaFrickyardref01Rest
import Derived.Test.YtpdglhpohkkeiaaFrickyardref01Ints
import Derived.Test.YtpdglhpohkkeiaaFchartList
import Derived.Test.YtpdglhpohkkeiaaFchartCount
set_option linter.unusedVariables false
namespace Go.Proofs.Ytpdglhpohkkeiaa
open Go Go.Xw
def rickyardlaw10_ChartTells.f (fu : Nat) (a0 : S_api_Chart) (a1 : Int) : Option Bool := ((rickyardlaw10_awake.f fu : Option Bool).bind fun t7 => (if (!t7) = true then some (false) else ((rickyardref10_List.f fu a0 : Option (List Int)).bind fun t12 => ((rickyardref10_Right.f fu a0 : Option Bool).bind fun t19 => (((if t19 = true then ((rickyardref01_Rest.f fu a1 384 : Option Int).bind fun t27 => some ((IntKind.i64.wrap ((IntKind.i64.wrap (384 * a0.Place)) + t27)))) else some (a0.Place)) : Option Int).bind fun x23 => ((((chart_List.f fu a0 : Option (List Int)).bind fun t37 => ((rickyardref01_Ints.f fu t37 t12 : Option Bool).bind fun t44 => (if t44 = true then ((chart_Count.f fu a0 : Option Int).bind fun t49 => (if (decide (t49 = (List.length t12 : Int))) = true then ((chart_Has.f fu a0 a1 : Option Bool).bind fun t54 => ((rickyardref10_Has.f fu t12 a1 : Option Bool).bind fun t58 => (if (decide (t54 = t58)) = true then ((chart_Has.f fu a0 x23 : Option Bool).bind fun t63 => ((rickyardref10_Has.f fu t12 x23 : Option Bool).bind fun t67 => some ((decide (t63 = t67))))) else some (false)))) else some (false))) else some (false)))) : Option Bool).bind fun x35 => some (x35)))))))
set_option maxRecDepth 100000 in
set_option maxHeartbeats 400000 in
theorem rickyardlaw10_ChartTells.ok (fu : Nat) (w : World) (a0 : S_api_Chart) (a1 : Int) (r : Bool) (h : rickyardlaw10_ChartTells.f fu a0 a1 = some r) :
    Calls Try.prog 4 (([aggV [Seg.cell (.int .i64 a0.Place), Kd.seg (kA 48 (kI .u8)) a0.Bits], .int .i64 a1] : List Value).toArray) w (fun e w' => ∃ v, e = .returned v ∧ v = .bool r ∧ Gr w w') := by
  unfold rickyardlaw10_ChartTells.f at h
  have fB : Gr w w := Fr.refl _ _
  refine calls_cw Try.func4 rfl Try.ntmps4 rfl ?_
  refine cw_seq ?_
  refine cw_region ?_
  refine ol_op (by exact opv_box (ss := [Seg.cell (.int .i64 a0.Place), Kd.seg (kA 48 (kI .u8)) a0.Bits]) rfl rfl rfl) rfl rfl rfl ?_
  rintro _ w6 ⟨G1, rfl, b2, q3, z4⟩
  have z4 := Nat.le_trans fB.size z4
  have fB := fB.gr q3
  refine ol_val (v := .bool false) (by exact xr_assign rfl rfl) rfl rfl rfl ?_
  refine ol_nil ?_
  refine cw_seq ?_
  refine cw_seq ?_
  refine cw_region ?_
  obtain ⟨t7, k8, h⟩ := bs h
  refine ol_op (by exact opv_call rfl cal27 an (rickyardlaw10_awake.ok fu _ _ k8)) rfl rfl rfl ?_
  rintro _ w10 ⟨rfl, q9⟩
  have b2 := b2.gr q9
  have fB := fB.gr q9
  refine ol_val (v := .bool (!t7)) (by exact xr_not rfl rfl) rfl rfl rfl ?_
  refine ol_nil ?_
  rcases is h with ⟨c11, h⟩ | ⟨c11, h⟩
  · refine cw_condT rfl c11 ?_
    refine cw_seq ?_
    refine cw_region ?_
    refine ol_val (v := .bool false) (by exact xr_assign rfl rfl) rfl rfl rfl ?_
    refine ol_nil ?_
    refine cw_ret ?_
    repeat (first | with_reducible refine thn_r ?_ | with_reducible refine blk_r ?_)
    obtain rfl := Option.some.inj h
    refine fin_ret1 Try.results4 rfl ?_
    exact ⟨_, rfl, rfl, fB⟩
  · refine cw_condF rfl c11 ?_
    refine cw_skip ?_
    refine cw_seq ?_
    refine cw_region ?_
    refine ol_val (v := aggV [Seg.cell (.int .i64 a0.Place), Kd.seg (kA 48 (kI .u8)) a0.Bits]) (by exact xr_loadS (ss := [Seg.cell (.int .i64 a0.Place), Kd.seg (kA 48 (kI .u8)) a0.Bits]) rfl ag24 sz24 rfl rfl (b2.segs 0 2 rfl)) rfl rfl rfl ?_
    obtain ⟨t12, k13, h⟩ := bs h
    refine ol_op (by exact opv_call rfl cal30 (ac rfl an) (rickyardref10_List.ok fu _ a0 _ k13)) rfl rfl rfl ?_
    rintro u14 w18 ⟨_, o15, rfl, q17⟩
    have o15 := Own.base o15 fB.size
    have b2 := b2.gr q17
    have fB := fB.gr q17
    refine ol_val (v := u14) (by exact xr_assign rfl rfl) rfl rfl rfl ?_
    refine ol_nil ?_
    refine cw_seq ?_
    refine cw_region ?_
    refine ol_val (v := .pointer (some ⟨G1, 0, none⟩)) (by exact xr_fieldAddr (p := 0) (q := 0) rfl fl24_0 rfl) rfl rfl rfl ?_
    refine ol_val (v := .int .i64 a0.Place) (by exact xr_load1 (v := .int .i64 a0.Place) rfl ag3 rfl (b2.seg 0 rfl rfl)) rfl rfl rfl ?_
    refine ol_val (v := .int .i64 a0.Place) (by exact xr_assign rfl rfl) rfl rfl rfl ?_
    refine ol_nil ?_
    refine cw_seq ?_
    refine cw_seq ?_
    refine cw_region ?_
    refine ol_val (v := aggV [Seg.cell (.int .i64 a0.Place), Kd.seg (kA 48 (kI .u8)) a0.Bits]) (by exact xr_loadS (ss := [Seg.cell (.int .i64 a0.Place), Kd.seg (kA 48 (kI .u8)) a0.Bits]) rfl ag24 sz24 rfl rfl (b2.segs 0 2 rfl)) rfl rfl rfl ?_
    obtain ⟨t19, k20, h⟩ := bs h
    refine ol_op (by exact opv_call rfl cal29 (ac rfl an) (rickyardref10_Right.ok fu _ a0 _ k20)) rfl rfl rfl ?_
    rintro _ w22 ⟨rfl, q21⟩
    have b2 := b2.gr q21
    have o15 := o15.gr q21
    have fB := fB.gr q21
    refine ol_nil ?_
    obtain ⟨x23, j24, h25⟩ := bs h
    refine cw_mid (fun ρ' w' => Own (kI .i64) 3 w' w.heap.size u14 t12 ∧ ρ' 1 = .int .i64 a1 ∧ ρ' 2 = .pointer (some ⟨G1, 0, none⟩) ∧ ρ' 5 = u14 ∧ ρ' 6 = .int .i64 x23 ∧ Blk w' G1 24 [Seg.cell (.int .i64 a0.Place), Kd.seg (kA 48 (kI .u8)) a0.Bits] ∧ Gr w w') ?_ ?_
    · have h := j24
      rcases is h with ⟨c26, h⟩ | ⟨c26, h⟩
      · refine cw_condT rfl c26 ?_
        obtain ⟨t27, k28, h⟩ := bs h
        refine cw_drawL 6 [fun vz wz => vz = (.pointer (some ⟨G1, 0, none⟩) : Value), fun vz wz => vz = (.int .i64 a0.Place : Value), fun vz wz => vz = (.int .i64 (IntKind.i64.wrap (384 * a0.Place)) : Value), fun vz wz => vz = (.int .i64 a1 : Value), fun vz wz => vz = (.int .i64 t27 : Value), fun vz wz => vz = (.int .i64 (IntKind.i64.wrap ((IntKind.i64.wrap (384 * a0.Place)) + t27)) : Value)] mo rfl ⟨fun _ _ _ h _ => h, fun _ _ _ h _ => h, fun _ _ _ h _ => h, fun _ _ _ h _ => h, fun _ _ _ h _ => h, fun _ _ _ h _ => h, trivial⟩ ?_ ?_
        · refine ⟨?_, ?_, ?_, ?_, ?_, ?_, trivial⟩
          · intro ρz wz hz hk hd
            exact sk_val (v := .pointer (some ⟨G1, 0, none⟩)) (by exact xr_fieldAddr (p := 0) (q := 0) rfl fl24_0 ((hk 2 rfl).trans rfl)) rfl rfl
          · intro ρz wz hz hk hd
            have d15 := hd 0 rfl 15 rfl
            exact sk_val (v := .int .i64 a0.Place) (by exact xr_load1 (v := .int .i64 a0.Place) rfl ag3 d15 ((b2.gr hz).seg 0 rfl rfl)) rfl rfl
          · intro ρz wz hz hk hd
            have d16 := hd 1 rfl 16 rfl
            exact sk_val (v := .int .i64 (IntKind.i64.wrap (384 * a0.Place))) (by exact xr_mul rfl rfl d16) rfl rfl
          · intro ρz wz hz hk hd
            exact sk_val (v := .int .i64 a1) (by exact xr_move rfl ((hk 1 rfl).trans rfl)) rfl rfl
          · intro ρz wz hz hk hd
            have d18 := hd 3 rfl 18 rfl
            refine sk_op (by exact opv_call rfl cal34 (ac d18 (ac rfl an)) (rickyardref01_Rest.ok fu _ a1 384 _ k28)) rfl ?_
            rintro _ wy ⟨rfl, q29⟩
            exact ⟨rfl, q29⟩
          · intro ρz wz hz hk hd
            have d17 := hd 2 rfl 17 rfl
            have d19 := hd 4 rfl 19 rfl
            exact sk_val (by exact xr_add rfl d17 d19) rfl rfl
        · intro ρ30 w31 q32 hk hd
          have e1 := (hk 1 rfl).trans rfl
          have e2 := (hk 2 rfl).trans rfl
          have e5 := (hk 5 rfl).trans rfl
          have e20 := hd 5 rfl 20 rfl
          have b2 := b2.gr q32
          have o15 := o15.gr q32
          have fB := fB.gr q32
          refine ol_val (v := .int .i64 (IntKind.i64.wrap ((IntKind.i64.wrap (384 * a0.Place)) + t27))) (by exact xr_assign rfl e20) rfl rfl rfl ?_
          refine ol_nil ?_
          obtain rfl := Option.some.inj h
          refine thn_i ?_
          exact ⟨o15, e1, e2, e5, rfl, b2, fB⟩
      · refine cw_condF rfl c26 ?_
        refine cw_skip ?_
        obtain rfl := Option.some.inj h
        refine thn_i ?_
        exact ⟨o15, rfl, rfl, rfl, rfl, b2, fB⟩
    · rintro ρ33 w34 ⟨o15, e1, e2, e5, e6, b2, fB⟩
      have h := h25
      refine cw_seq ?_
      obtain ⟨x35, j36, h⟩ := bs h
      refine cw_mid (fun ρ' w' => ρ' 4 = .bool x35 ∧ Gr w34 w') ?_ ?_
      · skip
        refine cw_region ?_
        refine ol_val (v := aggV [Seg.cell (.int .i64 a0.Place), Kd.seg (kA 48 (kI .u8)) a0.Bits]) (by exact xr_loadS (ss := [Seg.cell (.int .i64 a0.Place), Kd.seg (kA 48 (kI .u8)) a0.Bits]) rfl ag24 sz24 rfl e2 (b2.segs 0 2 rfl)) rfl rfl rfl ?_
        obtain ⟨t37, k38, j36⟩ := bs j36
        refine ol_op (by exact opv_call rfl cal36 (ac rfl an) (chart_List.ok fu _ a0 _ k38)) rfl rfl rfl ?_
        rintro u39 w43 ⟨_, o40, rfl, q42⟩
        have o40 := Own.base o40 fB.size
        have b2 := b2.gr q42
        have o15 := o15.gr q42
        have fB := fB.gr q42
        refine ol_val (v := u14) (by exact xr_move rfl e5) rfl rfl rfl ?_
        obtain ⟨t44, k45, j36⟩ := bs j36
        refine ol_op (by exact opv_call rfl cal35 (ac rfl (ac rfl an)) (rickyardref01_Ints.ok fu _ t37 u39 (o40.rd) t12 u14 (o15.rd) _ k45)) rfl rfl rfl ?_
        rintro _ w47 ⟨rfl, q46⟩
        have b2 := b2.gr q46
        have o15 := o15.gr q46
        have fB := fB.gr q46
        refine ol_val (v := .bool t44) (by exact xr_move rfl rfl) rfl rfl rfl ?_
        rcases is j36 with ⟨c48, j36⟩ | ⟨c48, j36⟩
        · skip
          refine ol_gval (v := aggV [Seg.cell (.int .i64 a0.Place), Kd.seg (kA 48 (kI .u8)) a0.Bits]) (by exact xr_loadS (ss := [Seg.cell (.int .i64 a0.Place), Kd.seg (kA 48 (kI .u8)) a0.Bits]) rfl ag24 sz24 rfl e2 (b2.segs 0 2 rfl)) rfl rfl rfl rfl rfl c48 ?_
          obtain ⟨t49, k50, j36⟩ := bs j36
          refine ol_gop (by exact opv_call rfl cal37 (ac rfl an) (chart_Count.ok fu _ a0 _ k50)) rfl rfl rfl rfl rfl c48 ?_
          rintro _ w52 ⟨rfl, q51⟩
          have b2 := b2.gr q51
          have o15 := o15.gr q51
          have fB := fB.gr q51
          refine ol_gval (v := u14) (by exact xr_move rfl e5) rfl rfl rfl rfl rfl c48 ?_
          refine ol_gval (v := .int .i64 (List.length t12 : Int)) (by exact xr_lenR rfl Try.underlying29 rfl o15.rd) rfl rfl rfl rfl rfl c48 ?_
          refine ol_gval (v := .bool (decide (t49 = (List.length t12 : Int)))) (by exact xr_eqI rfl Try.underlying3 rfl rfl rfl) rfl rfl rfl rfl rfl c48 ?_
          refine ol_val (v := .bool (decide (t49 = (List.length t12 : Int)))) (by exact xr_pickT rfl rfl c48 rfl) rfl rfl rfl ?_
          refine ol_val (v := .bool (decide (t49 = (List.length t12 : Int)))) (by exact xr_move rfl rfl) rfl rfl rfl ?_
          rcases is j36 with ⟨c53, j36⟩ | ⟨c53, j36⟩
          · skip
            refine ol_gval (v := aggV [Seg.cell (.int .i64 a0.Place), Kd.seg (kA 48 (kI .u8)) a0.Bits]) (by exact xr_loadS (ss := [Seg.cell (.int .i64 a0.Place), Kd.seg (kA 48 (kI .u8)) a0.Bits]) rfl ag24 sz24 rfl e2 (b2.segs 0 2 rfl)) rfl rfl rfl rfl rfl c53 ?_
            refine ol_gval (v := .int .i64 a1) (by exact xr_move rfl e1) rfl rfl rfl rfl rfl c53 ?_
            obtain ⟨t54, k55, j36⟩ := bs j36
            refine ol_gop (by exact opv_call rfl cal33 (ac rfl (ac rfl an)) (chart_Has.ok fu _ a0 a1 _ k55)) rfl rfl rfl rfl rfl c53 ?_
            rintro _ w57 ⟨rfl, q56⟩
            have b2 := b2.gr q56
            have o15 := o15.gr q56
            have fB := fB.gr q56
            refine ol_gval (v := u14) (by exact xr_move rfl e5) rfl rfl rfl rfl rfl c53 ?_
            refine ol_gval (v := .int .i64 a1) (by exact xr_move rfl e1) rfl rfl rfl rfl rfl c53 ?_
            obtain ⟨t58, k59, j36⟩ := bs j36
            refine ol_gop (by exact opv_call rfl cal31 (ac rfl (ac rfl an)) (rickyardref10_Has.ok fu _ t12 u14 (o15.rd) a1 _ k59)) rfl rfl rfl rfl rfl c53 ?_
            rintro _ w61 ⟨rfl, q60⟩
            have b2 := b2.gr q60
            have o15 := o15.gr q60
            have fB := fB.gr q60
            refine ol_gval (v := .bool (decide (t54 = t58))) (by exact xr_eqB rfl Try.underlying4 rfl rfl) rfl rfl rfl rfl rfl c53 ?_
            refine ol_val (v := .bool (decide (t54 = t58))) (by exact xr_pickT rfl rfl c53 rfl) rfl rfl rfl ?_
            refine ol_val (v := .bool (decide (t54 = t58))) (by exact xr_move rfl rfl) rfl rfl rfl ?_
            rcases is j36 with ⟨c62, j36⟩ | ⟨c62, j36⟩
            · skip
              refine ol_gval (v := aggV [Seg.cell (.int .i64 a0.Place), Kd.seg (kA 48 (kI .u8)) a0.Bits]) (by exact xr_loadS (ss := [Seg.cell (.int .i64 a0.Place), Kd.seg (kA 48 (kI .u8)) a0.Bits]) rfl ag24 sz24 rfl e2 (b2.segs 0 2 rfl)) rfl rfl rfl rfl rfl c62 ?_
              refine ol_gval (v := .int .i64 x23) (by exact xr_move rfl e6) rfl rfl rfl rfl rfl c62 ?_
              obtain ⟨t63, k64, j36⟩ := bs j36
              refine ol_gop (by exact opv_call rfl cal33 (ac rfl (ac rfl an)) (chart_Has.ok fu _ a0 x23 _ k64)) rfl rfl rfl rfl rfl c62 ?_
              rintro _ w66 ⟨rfl, q65⟩
              have o15 := o15.gr q65
              have fB := fB.gr q65
              refine ol_gval (v := u14) (by exact xr_move rfl e5) rfl rfl rfl rfl rfl c62 ?_
              refine ol_gval (v := .int .i64 x23) (by exact xr_move rfl e6) rfl rfl rfl rfl rfl c62 ?_
              obtain ⟨t67, k68, j36⟩ := bs j36
              refine ol_gop (by exact opv_call rfl cal31 (ac rfl (ac rfl an)) (rickyardref10_Has.ok fu _ t12 u14 (o15.rd) x23 _ k68)) rfl rfl rfl rfl rfl c62 ?_
              rintro _ w70 ⟨rfl, q69⟩
              have fB := fB.gr q69
              refine ol_gval (v := .bool (decide (t63 = t67))) (by exact xr_eqB rfl Try.underlying4 rfl rfl) rfl rfl rfl rfl rfl c62 ?_
              refine ol_val (v := .bool (decide (t63 = t67))) (by exact xr_pickT rfl rfl c62 rfl) rfl rfl rfl ?_
              refine ol_val (v := .bool (decide (t63 = t67))) (by exact xr_assign rfl rfl) rfl rfl rfl ?_
              refine ol_nil ?_
              obtain rfl := Option.some.inj j36
              refine thn_i ?_
              exact ⟨rfl, ((((((q42.gr q46).gr q51).gr q56).gr q60).gr q65).gr q69)⟩
            · skip
              refine ol_gskip rfl rfl rfl rfl rfl c62 ?_
              refine ol_gskip rfl rfl rfl rfl rfl c62 ?_
              refine ol_gskip rfl rfl rfl rfl rfl c62 ?_
              refine ol_gskip rfl rfl rfl rfl rfl c62 ?_
              refine ol_gskip rfl rfl rfl rfl rfl c62 ?_
              refine ol_gskip rfl rfl rfl rfl rfl c62 ?_
              refine ol_gskip rfl rfl rfl rfl rfl c62 ?_
              refine ol_val (v := .bool false) (by exact xr_pickF rfl rfl c62 rfl) rfl rfl rfl ?_
              refine ol_val (v := .bool false) (by exact xr_assign rfl rfl) rfl rfl rfl ?_
              refine ol_nil ?_
              obtain rfl := Option.some.inj j36
              refine thn_i ?_
              exact ⟨rfl, ((((q42.gr q46).gr q51).gr q56).gr q60)⟩
          · skip
            refine ol_gskip rfl rfl rfl rfl rfl c53 ?_
            refine ol_gskip rfl rfl rfl rfl rfl c53 ?_
            refine ol_gskip rfl rfl rfl rfl rfl c53 ?_
            refine ol_gskip rfl rfl rfl rfl rfl c53 ?_
            refine ol_gskip rfl rfl rfl rfl rfl c53 ?_
            refine ol_gskip rfl rfl rfl rfl rfl c53 ?_
            refine ol_gskip rfl rfl rfl rfl rfl c53 ?_
            refine ol_val (v := .bool false) (by exact xr_pickF rfl rfl c53 rfl) rfl rfl rfl ?_
            refine ol_val (v := .bool false) (by exact xr_move rfl rfl) rfl rfl rfl ?_
            refine ol_gskip rfl rfl rfl rfl rfl rfl ?_
            refine ol_gskip rfl rfl rfl rfl rfl rfl ?_
            refine ol_gskip rfl rfl rfl rfl rfl rfl ?_
            refine ol_gskip rfl rfl rfl rfl rfl rfl ?_
            refine ol_gskip rfl rfl rfl rfl rfl rfl ?_
            refine ol_gskip rfl rfl rfl rfl rfl rfl ?_
            refine ol_gskip rfl rfl rfl rfl rfl rfl ?_
            refine ol_val (v := .bool false) (by exact xr_pickF rfl rfl rfl rfl) rfl rfl rfl ?_
            refine ol_val (v := .bool false) (by exact xr_assign rfl rfl) rfl rfl rfl ?_
            refine ol_nil ?_
            obtain rfl := Option.some.inj j36
            refine thn_i ?_
            exact ⟨rfl, ((q42.gr q46).gr q51)⟩
        · skip
          refine ol_gskip rfl rfl rfl rfl rfl c48 ?_
          refine ol_gskip rfl rfl rfl rfl rfl c48 ?_
          refine ol_gskip rfl rfl rfl rfl rfl c48 ?_
          refine ol_gskip rfl rfl rfl rfl rfl c48 ?_
          refine ol_gskip rfl rfl rfl rfl rfl c48 ?_
          refine ol_val (v := .bool false) (by exact xr_pickF rfl rfl c48 rfl) rfl rfl rfl ?_
          refine ol_val (v := .bool false) (by exact xr_move rfl rfl) rfl rfl rfl ?_
          refine ol_gskip rfl rfl rfl rfl rfl rfl ?_
          refine ol_gskip rfl rfl rfl rfl rfl rfl ?_
          refine ol_gskip rfl rfl rfl rfl rfl rfl ?_
          refine ol_gskip rfl rfl rfl rfl rfl rfl ?_
          refine ol_gskip rfl rfl rfl rfl rfl rfl ?_
          refine ol_gskip rfl rfl rfl rfl rfl rfl ?_
          refine ol_gskip rfl rfl rfl rfl rfl rfl ?_
          refine ol_val (v := .bool false) (by exact xr_pickF rfl rfl rfl rfl) rfl rfl rfl ?_
          refine ol_val (v := .bool false) (by exact xr_move rfl rfl) rfl rfl rfl ?_
          refine ol_gskip rfl rfl rfl rfl rfl rfl ?_
          refine ol_gskip rfl rfl rfl rfl rfl rfl ?_
          refine ol_gskip rfl rfl rfl rfl rfl rfl ?_
          refine ol_gskip rfl rfl rfl rfl rfl rfl ?_
          refine ol_gskip rfl rfl rfl rfl rfl rfl ?_
          refine ol_gskip rfl rfl rfl rfl rfl rfl ?_
          refine ol_gskip rfl rfl rfl rfl rfl rfl ?_
          refine ol_val (v := .bool false) (by exact xr_pickF rfl rfl rfl rfl) rfl rfl rfl ?_
          refine ol_val (v := .bool false) (by exact xr_assign rfl rfl) rfl rfl rfl ?_
          refine ol_nil ?_
          obtain rfl := Option.some.inj j36
          refine thn_i ?_
          exact ⟨rfl, (q42.gr q46)⟩
      · skip
        rintro ρ71 w72 ⟨e4, q73⟩
        have fB := fB.gr q73
        refine cw_ret ?_
        repeat (first | with_reducible refine thn_r ?_ | with_reducible refine blk_r ?_)
        obtain rfl := Option.some.inj h
        refine fin_ret1 Try.results4 e4 ?_
        exact ⟨_, rfl, rfl, fB⟩
end Go.Proofs.Ytpdglhpohkkeiaa
