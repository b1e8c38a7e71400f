/- rickyard/rickyardlaw07.BlockOpens: its model, and that the Go function computes it: written by gen.py. -/
import Derived.Test.YtpdglhpohkkeiaaBase
import Derived.Test.YtpdglhpohkkeiaaFrickyardlaw07awake
import Derived.Test.YtpdglhpohkkeiaaFblockSeal
import Derived.Test.YtpdglhpohkkeiaaFblockOpen
import Derived.Test.YtpdglhpohkkeiaaFrickyardref07Open
import Derived.Test.YtpdglhpohkkeiaaFblockKind
set_option linter.unusedVariables false
namespace Go.Proofs.Ytpdglhpohkkeiaa
open Go Go.Xw
def rickyardlaw07_BlockOpens.f (fu : Nat) (a0 : List Int) : Option Bool := ((((rickyardlaw07_awake.f fu : Option Bool).bind fun t3 => (if (!t3) = true then some (true) else some ((decide ((List.length a0 : Int) > 200))))) : Option Bool).bind fun x1 => (if x1 = true then ((rickyardlaw07_awake.f fu : Option Bool).bind fun t12 => some (t12)) else ((block_Open.f fu a0 : Option (Int × Int × (List Int) × Bool)).bind fun t16 => ((rickyardref07_Open.f fu a0 : Option (Int × Int × (List UInt8) × Bool)).bind fun t23 => (((if (!decide (t16.2.2.2 = t23.2.2.2)) = true then some (true) else (if (!decide (t16.1 = t23.1)) = true then some (true) else (if (!decide (t16.2.1 = t23.2.1)) = true then some (true) else (if (!decide ((List.map toB t16.2.2.1) = t23.2.2.1)) = true then some (true) else ((block_Kind.f fu a0 : Option Int).bind fun t33 => some ((!decide (t33 = t23.1)))))))) : Option Bool).bind fun x27 => (if x27 = true then some (false) else (if (!t16.2.2.2) = true then some ((decide ((List.length t16.2.2.1 : Int) = 0))) else ((block_Seal.f fu t16.1 t16.2.1 t16.2.2.1 : Option ((List Int) × Bool)).bind fun t42 => some ((if t42.2 = true then (decide ((List.map toB t42.1) = (List.map toB a0))) else false))))))))))
set_option maxRecDepth 100000 in
set_option maxHeartbeats 400000 in
theorem rickyardlaw07_BlockOpens.ok (fu : Nat) (w : World) (a0 : List Int) (V0_0 : Value) (R0_0 : Rd (kI .u8) w V0_0 a0) (r : Bool) (h : rickyardlaw07_BlockOpens.f fu a0 = some r) :
    Calls Try.prog 6 (([V0_0] : List Value).toArray) w (fun e w' => ∃ v, e = .returned v ∧ v = .bool r ∧ Gr w w') := by
  unfold rickyardlaw07_BlockOpens.f at h
  have fB : Gr w w := Fr.refl _ _
  refine calls_cw Try.func6 rfl Try.ntmps6 rfl ?_
  refine cw_seq ?_
  refine cw_region ?_
  refine ol_val (v := .bool false) (by exact xr_assign rfl rfl) rfl rfl rfl ?_
  refine ol_nil ?_
  refine cw_seq ?_
  refine cw_seq ?_
  obtain ⟨x1, j2, h⟩ := bs h
  refine cw_mid (fun ρ' w' => ρ' 0 = V0_0 ∧ ρ' 19 = .bool x1 ∧ Gr w w') ?_ ?_
  · skip
    refine cw_region ?_
    obtain ⟨t3, k4, j2⟩ := bs j2
    refine ol_op (by exact opv_call rfl cal38 an (rickyardlaw07_awake.ok fu _ _ k4)) rfl rfl rfl ?_
    rintro _ w6 ⟨rfl, q5⟩
    have fB := fB.gr q5
    refine ol_val (v := .bool (!t3)) (by exact xr_not rfl rfl) rfl rfl rfl ?_
    refine ol_val (v := .bool (!t3)) (by exact xr_move rfl rfl) rfl rfl rfl ?_
    rcases is j2 with ⟨c7, j2⟩ | ⟨c7, j2⟩
    · skip
      refine ol_gskip rfl rfl rfl rfl rfl c7 ?_
      refine ol_gskip rfl rfl rfl rfl rfl c7 ?_
      refine ol_gskip rfl rfl rfl rfl rfl c7 ?_
      refine ol_val (v := .bool true) (by exact xr_pickT rfl rfl c7 rfl) rfl rfl rfl ?_
      refine ol_nil ?_
      obtain rfl := Option.some.inj j2
      refine thn_i ?_
      exact ⟨rfl, rfl, q5⟩
    · skip
      refine ol_gval (v := V0_0) (by exact xr_move rfl rfl) rfl rfl rfl rfl rfl c7 ?_
      refine ol_gval (v := .int .i64 (List.length a0 : Int)) (by exact xr_lenR rfl Try.underlying38 rfl (R0_0.gr fB)) rfl rfl rfl rfl rfl c7 ?_
      refine ol_gval (v := .bool (decide ((List.length a0 : Int) > 200))) (by exact xr_gtr rfl rfl rfl) rfl rfl rfl rfl rfl c7 ?_
      refine ol_val (v := .bool (decide ((List.length a0 : Int) > 200))) (by exact xr_pickF rfl rfl c7 rfl) rfl rfl rfl ?_
      refine ol_nil ?_
      obtain rfl := Option.some.inj j2
      refine thn_i ?_
      exact ⟨rfl, rfl, q5⟩
  · skip
    rintro ρ8 w9 ⟨e0, e19, q10⟩
    have fB := fB.gr q10
    rcases is h with ⟨c11, h⟩ | ⟨c11, h⟩
    · refine cw_condT e19 c11 ?_
      refine cw_seq ?_
      refine cw_region ?_
      obtain ⟨t12, k13, h⟩ := bs h
      refine ol_op (by exact opv_call rfl cal38 an (rickyardlaw07_awake.ok fu _ _ k13)) rfl rfl rfl ?_
      rintro _ w15 ⟨rfl, q14⟩
      have fB := fB.gr q14
      refine ol_val (v := .bool t12) (by exact xr_assign rfl rfl) rfl rfl rfl ?_
      refine ol_nil ?_
      refine cw_ret ?_
      repeat (first | with_reducible refine thn_r ?_ | with_reducible refine blk_r ?_)
      obtain rfl := Option.some.inj h
      refine fin_ret1 Try.results6 rfl ?_
      exact ⟨_, rfl, rfl, fB⟩
    · refine cw_condF e19 c11 ?_
      refine cw_skip ?_
      refine cw_seq ?_
      refine cw_region ?_
      refine ol_val (v := V0_0) (by exact xr_move rfl e0) rfl rfl rfl ?_
      obtain ⟨t16, k17, h⟩ := bs h
      refine ol_op (by exact opv_call rfl cal40 (ac rfl an) (block_Open.ok fu _ a0 V0_0 (R0_0.gr fB) _ k17)) rfl rfl rfl ?_
      rintro _ w22 ⟨u18, o19, rfl, q21⟩
      have o19 := Own.base o19 fB.size
      have fB := fB.gr q21
      refine ol_val (v := .tuple #[.int .i64 t16.1, .int .i64 t16.2.1, u18, .bool t16.2.2.2]) (by exact xr_move rfl rfl) rfl rfl rfl ?_
      refine ol_val (v := .int .i64 t16.1) (by exact xr_extract rfl rfl rfl) rfl rfl rfl ?_
      refine ol_val (v := .int .i64 t16.2.1) (by exact xr_extract rfl rfl rfl) rfl rfl rfl ?_
      refine ol_val (v := u18) (by exact xr_extract rfl rfl rfl) rfl rfl rfl ?_
      refine ol_val (v := .bool t16.2.2.2) (by exact xr_extract rfl rfl rfl) rfl rfl rfl ?_
      refine ol_val (v := .int .i64 t16.1) (by exact xr_assign rfl rfl) rfl rfl rfl ?_
      refine ol_val (v := .int .i64 t16.2.1) (by exact xr_assign rfl rfl) rfl rfl rfl ?_
      refine ol_val (v := u18) (by exact xr_assign rfl rfl) rfl rfl rfl ?_
      refine ol_val (v := .bool t16.2.2.2) (by exact xr_assign rfl rfl) rfl rfl rfl ?_
      refine ol_nil ?_
      refine cw_seq ?_
      refine cw_region ?_
      refine ol_val (v := V0_0) (by exact xr_move rfl e0) rfl rfl rfl ?_
      obtain ⟨t23, k24, h⟩ := bs h
      refine ol_op (by exact opv_call rfl cal43 (ac rfl an) (rickyardref07_Open.ok fu _ a0 V0_0 (R0_0.gr fB) _ k24)) rfl rfl rfl ?_
      rintro _ w26 ⟨rfl, q25⟩
      have o19 := o19.gr q25
      have fB := fB.gr q25
      refine ol_val (v := .tuple #[.int .i64 t23.1, .int .i64 t23.2.1, sv t23.2.2.1, .bool t23.2.2.2]) (by exact xr_move rfl rfl) rfl rfl rfl ?_
      refine ol_val (v := .int .i64 t23.1) (by exact xr_extract rfl rfl rfl) rfl rfl rfl ?_
      refine ol_val (v := .int .i64 t23.2.1) (by exact xr_extract rfl rfl rfl) rfl rfl rfl ?_
      refine ol_val (v := sv t23.2.2.1) (by exact xr_extract rfl rfl rfl) rfl rfl rfl ?_
      refine ol_val (v := .bool t23.2.2.2) (by exact xr_extract rfl rfl rfl) rfl rfl rfl ?_
      refine ol_val (v := .int .i64 t23.1) (by exact xr_assign rfl rfl) rfl rfl rfl ?_
      refine ol_val (v := .int .i64 t23.2.1) (by exact xr_assign rfl rfl) rfl rfl rfl ?_
      refine ol_val (v := sv t23.2.2.1) (by exact xr_assign rfl rfl) rfl rfl rfl ?_
      refine ol_val (v := .bool t23.2.2.2) (by exact xr_assign rfl rfl) rfl rfl rfl ?_
      refine ol_nil ?_
      refine cw_seq ?_
      refine cw_seq ?_
      obtain ⟨x27, j28, h⟩ := bs h
      refine cw_mid (fun ρ' w' => ρ' 0 = V0_0 ∧ ρ' 3 = .int .i64 t16.1 ∧ ρ' 4 = .int .i64 t16.2.1 ∧ ρ' 5 = u18 ∧ ρ' 6 = .bool t16.2.2.2 ∧ ρ' 59 = .bool x27 ∧ Gr w26 w') ?_ ?_
      · skip
        refine cw_region ?_
        refine ol_val (v := .bool t16.2.2.2) (by exact xr_move rfl rfl) rfl rfl rfl ?_
        refine ol_val (v := .bool t23.2.2.2) (by exact xr_move rfl rfl) rfl rfl rfl ?_
        refine ol_val (v := .bool (!decide (t16.2.2.2 = t23.2.2.2))) (by exact xr_neB rfl Try.underlying4 rfl rfl) rfl rfl rfl ?_
        refine ol_val (v := .bool (!decide (t16.2.2.2 = t23.2.2.2))) (by exact xr_move rfl rfl) rfl rfl rfl ?_
        rcases is j28 with ⟨c29, j28⟩ | ⟨c29, j28⟩
        · skip
          refine ol_gskip rfl rfl rfl rfl rfl c29 ?_
          refine ol_gskip rfl rfl rfl rfl rfl c29 ?_
          refine ol_gskip rfl rfl rfl rfl rfl c29 ?_
          refine ol_val (v := .bool true) (by exact xr_pickT rfl rfl c29 rfl) rfl rfl rfl ?_
          refine ol_val (v := .bool true) (by exact xr_move rfl rfl) rfl rfl rfl ?_
          refine ol_gskip rfl rfl rfl rfl rfl rfl ?_
          refine ol_gskip rfl rfl rfl rfl rfl rfl ?_
          refine ol_gskip rfl rfl rfl rfl rfl rfl ?_
          refine ol_val (v := .bool true) (by exact xr_pickT rfl rfl rfl rfl) rfl rfl rfl ?_
          refine ol_val (v := .bool true) (by exact xr_move rfl rfl) rfl rfl rfl ?_
          refine ol_gskip rfl rfl rfl rfl rfl rfl ?_
          refine ol_gskip rfl rfl rfl rfl rfl rfl ?_
          refine ol_gskip rfl rfl rfl rfl rfl rfl ?_
          refine ol_gskip rfl rfl rfl rfl rfl rfl ?_
          refine ol_val (v := .bool true) (by exact xr_pickT rfl rfl rfl rfl) rfl rfl rfl ?_
          refine ol_val (v := .bool true) (by exact xr_move rfl rfl) rfl rfl rfl ?_
          refine ol_gskip rfl rfl rfl rfl rfl rfl ?_
          refine ol_gskip rfl rfl rfl rfl rfl rfl ?_
          refine ol_gskip rfl rfl rfl rfl rfl rfl ?_
          refine ol_gskip rfl rfl rfl rfl rfl rfl ?_
          refine ol_val (v := .bool true) (by exact xr_pickT rfl rfl rfl rfl) rfl rfl rfl ?_
          refine ol_nil ?_
          obtain rfl := Option.some.inj j28
          refine thn_i ?_
          exact ⟨e0, rfl, rfl, rfl, rfl, rfl, Fr.refl _ _⟩
        · skip
          refine ol_gval (v := .int .i64 t16.1) (by exact xr_move rfl rfl) rfl rfl rfl rfl rfl c29 ?_
          refine ol_gval (v := .int .i64 t23.1) (by exact xr_move rfl rfl) rfl rfl rfl rfl rfl c29 ?_
          refine ol_gval (v := .bool (!decide (t16.1 = t23.1))) (by exact xr_neI rfl Try.underlying3 rfl rfl rfl) rfl rfl rfl rfl rfl c29 ?_
          refine ol_val (v := .bool (!decide (t16.1 = t23.1))) (by exact xr_pickF rfl rfl c29 rfl) rfl rfl rfl ?_
          refine ol_val (v := .bool (!decide (t16.1 = t23.1))) (by exact xr_move rfl rfl) rfl rfl rfl ?_
          rcases is j28 with ⟨c30, j28⟩ | ⟨c30, j28⟩
          · skip
            refine ol_gskip rfl rfl rfl rfl rfl c30 ?_
            refine ol_gskip rfl rfl rfl rfl rfl c30 ?_
            refine ol_gskip rfl rfl rfl rfl rfl c30 ?_
            refine ol_val (v := .bool true) (by exact xr_pickT rfl rfl c30 rfl) rfl rfl rfl ?_
            refine ol_val (v := .bool true) (by exact xr_move rfl rfl) rfl rfl rfl ?_
            refine ol_gskip rfl rfl rfl rfl rfl rfl ?_
            refine ol_gskip rfl rfl rfl rfl rfl rfl ?_
            refine ol_gskip rfl rfl rfl rfl rfl rfl ?_
            refine ol_gskip rfl rfl rfl rfl rfl rfl ?_
            refine ol_val (v := .bool true) (by exact xr_pickT rfl rfl rfl rfl) rfl rfl rfl ?_
            refine ol_val (v := .bool true) (by exact xr_move rfl rfl) rfl rfl rfl ?_
            refine ol_gskip rfl rfl rfl rfl rfl rfl ?_
            refine ol_gskip rfl rfl rfl rfl rfl rfl ?_
            refine ol_gskip rfl rfl rfl rfl rfl rfl ?_
            refine ol_gskip rfl rfl rfl rfl rfl rfl ?_
            refine ol_val (v := .bool true) (by exact xr_pickT rfl rfl rfl rfl) rfl rfl rfl ?_
            refine ol_nil ?_
            obtain rfl := Option.some.inj j28
            refine thn_i ?_
            exact ⟨e0, rfl, rfl, rfl, rfl, rfl, Fr.refl _ _⟩
          · skip
            refine ol_gval (v := .int .i64 t16.2.1) (by exact xr_move rfl rfl) rfl rfl rfl rfl rfl c30 ?_
            refine ol_gval (v := .int .i64 t23.2.1) (by exact xr_move rfl rfl) rfl rfl rfl rfl rfl c30 ?_
            refine ol_gval (v := .bool (!decide (t16.2.1 = t23.2.1))) (by exact xr_neI rfl Try.underlying3 rfl rfl rfl) rfl rfl rfl rfl rfl c30 ?_
            refine ol_val (v := .bool (!decide (t16.2.1 = t23.2.1))) (by exact xr_pickF rfl rfl c30 rfl) rfl rfl rfl ?_
            refine ol_val (v := .bool (!decide (t16.2.1 = t23.2.1))) (by exact xr_move rfl rfl) rfl rfl rfl ?_
            rcases is j28 with ⟨c31, j28⟩ | ⟨c31, j28⟩
            · skip
              refine ol_gskip rfl rfl rfl rfl rfl c31 ?_
              refine ol_gskip rfl rfl rfl rfl rfl c31 ?_
              refine ol_gskip rfl rfl rfl rfl rfl c31 ?_
              refine ol_gskip rfl rfl rfl rfl rfl c31 ?_
              refine ol_val (v := .bool true) (by exact xr_pickT rfl rfl c31 rfl) rfl rfl rfl ?_
              refine ol_val (v := .bool true) (by exact xr_move rfl rfl) rfl rfl rfl ?_
              refine ol_gskip rfl rfl rfl rfl rfl rfl ?_
              refine ol_gskip rfl rfl rfl rfl rfl rfl ?_
              refine ol_gskip rfl rfl rfl rfl rfl rfl ?_
              refine ol_gskip rfl rfl rfl rfl rfl rfl ?_
              refine ol_val (v := .bool true) (by exact xr_pickT rfl rfl rfl rfl) rfl rfl rfl ?_
              refine ol_nil ?_
              obtain rfl := Option.some.inj j28
              refine thn_i ?_
              exact ⟨e0, rfl, rfl, rfl, rfl, rfl, Fr.refl _ _⟩
            · skip
              refine ol_gval (v := u18) (by exact xr_move rfl rfl) rfl rfl rfl rfl rfl c31 ?_
              refine ol_gval (v := sv (List.map toB t16.2.2.1)) (by exact xr_toStr rfl Try.underlying38 Try.underlying5 Try.underlying9 rfl o19.rd) rfl rfl rfl rfl rfl c31 ?_
              refine ol_gval (v := sv t23.2.2.1) (by exact xr_move rfl rfl) rfl rfl rfl rfl rfl c31 ?_
              refine ol_gval (v := .bool (!decide ((List.map toB t16.2.2.1) = t23.2.2.1))) (by exact xr_neStr rfl Try.underlying9 rfl rfl) rfl rfl rfl rfl rfl c31 ?_
              refine ol_val (v := .bool (!decide ((List.map toB t16.2.2.1) = t23.2.2.1))) (by exact xr_pickF rfl rfl c31 rfl) rfl rfl rfl ?_
              refine ol_val (v := .bool (!decide ((List.map toB t16.2.2.1) = t23.2.2.1))) (by exact xr_move rfl rfl) rfl rfl rfl ?_
              rcases is j28 with ⟨c32, j28⟩ | ⟨c32, j28⟩
              · skip
                refine ol_gskip rfl rfl rfl rfl rfl c32 ?_
                refine ol_gskip rfl rfl rfl rfl rfl c32 ?_
                refine ol_gskip rfl rfl rfl rfl rfl c32 ?_
                refine ol_gskip rfl rfl rfl rfl rfl c32 ?_
                refine ol_val (v := .bool true) (by exact xr_pickT rfl rfl c32 rfl) rfl rfl rfl ?_
                refine ol_nil ?_
                obtain rfl := Option.some.inj j28
                refine thn_i ?_
                exact ⟨e0, rfl, rfl, rfl, rfl, rfl, Fr.refl _ _⟩
              · skip
                refine ol_gval (v := V0_0) (by exact xr_move rfl e0) rfl rfl rfl rfl rfl c32 ?_
                obtain ⟨t33, k34, j28⟩ := bs j28
                refine ol_gop (by exact opv_call rfl cal44 (ac rfl an) (block_Kind.ok fu _ a0 V0_0 (R0_0.gr fB) _ k34)) rfl rfl rfl rfl rfl c32 ?_
                rintro _ w36 ⟨rfl, q35⟩
                have o19 := o19.gr q35
                have fB := fB.gr q35
                refine ol_gval (v := .int .i64 t23.1) (by exact xr_move rfl rfl) rfl rfl rfl rfl rfl c32 ?_
                refine ol_gval (v := .bool (!decide (t33 = t23.1))) (by exact xr_neI rfl Try.underlying3 rfl rfl rfl) rfl rfl rfl rfl rfl c32 ?_
                refine ol_val (v := .bool (!decide (t33 = t23.1))) (by exact xr_pickF rfl rfl c32 rfl) rfl rfl rfl ?_
                refine ol_nil ?_
                obtain rfl := Option.some.inj j28
                refine thn_i ?_
                exact ⟨e0, rfl, rfl, rfl, rfl, rfl, q35⟩
      · skip
        rintro ρ37 w38 ⟨e0, e3, e4, e5, e6, e59, q39⟩
        have o19 := o19.gr q39
        have fB := fB.gr q39
        rcases is h with ⟨c40, h⟩ | ⟨c40, h⟩
        · refine cw_condT e59 c40 ?_
          refine cw_seq ?_
          refine cw_region ?_
          refine ol_val (v := .bool false) (by exact xr_assign rfl rfl) rfl rfl rfl ?_
          refine ol_nil ?_
          refine cw_ret ?_
          repeat (first | with_reducible refine thn_r ?_ | with_reducible refine blk_r ?_)
          obtain rfl := Option.some.inj h
          refine fin_ret1 Try.results6 rfl ?_
          exact ⟨_, rfl, rfl, fB⟩
        · refine cw_condF e59 c40 ?_
          refine cw_skip ?_
          refine cw_seq ?_
          refine cw_seq ?_
          refine cw_region ?_
          refine ol_val (v := .bool t16.2.2.2) (by exact xr_move rfl e6) rfl rfl rfl ?_
          refine ol_val (v := .bool (!t16.2.2.2)) (by exact xr_not rfl rfl) rfl rfl rfl ?_
          refine ol_nil ?_
          rcases is h with ⟨c41, h⟩ | ⟨c41, h⟩
          · refine cw_condT rfl c41 ?_
            refine cw_seq ?_
            refine cw_region ?_
            refine ol_val (v := u18) (by exact xr_move rfl e5) rfl rfl rfl ?_
            refine ol_val (v := .int .i64 (List.length t16.2.2.1 : Int)) (by exact xr_lenR rfl Try.underlying38 rfl o19.rd) rfl rfl rfl ?_
            refine ol_val (v := .bool (decide ((List.length t16.2.2.1 : Int) = 0))) (by exact xr_eqI rfl Try.underlying3 rfl rfl rfl) rfl rfl rfl ?_
            refine ol_val (v := .bool (decide ((List.length t16.2.2.1 : Int) = 0))) (by exact xr_assign rfl rfl) rfl rfl rfl ?_
            refine ol_nil ?_
            refine cw_ret ?_
            repeat (first | with_reducible refine thn_r ?_ | with_reducible refine blk_r ?_)
            obtain rfl := Option.some.inj h
            refine fin_ret1 Try.results6 rfl ?_
            exact ⟨_, rfl, rfl, fB⟩
          · refine cw_condF rfl c41 ?_
            refine cw_skip ?_
            refine cw_seq ?_
            refine cw_region ?_
            refine ol_val (v := .int .i64 t16.1) (by exact xr_move rfl e3) rfl rfl rfl ?_
            refine ol_val (v := .int .i64 t16.2.1) (by exact xr_move rfl e4) rfl rfl rfl ?_
            refine ol_val (v := u18) (by exact xr_move rfl e5) rfl rfl rfl ?_
            obtain ⟨t42, k43, h⟩ := bs h
            refine ol_op (by exact opv_call rfl cal39 (ac rfl (ac rfl (ac rfl an))) (block_Seal.ok fu _ t16.1 t16.2.1 t16.2.2.1 u18 (o19.rd) _ k43)) rfl rfl rfl ?_
            rintro _ w48 ⟨u44, o45, rfl, q47⟩
            have o45 := Own.base o45 fB.size
            have fB := fB.gr q47
            refine ol_val (v := .tuple #[u44, .bool t42.2]) (by exact xr_move rfl rfl) rfl rfl rfl ?_
            refine ol_val (v := u44) (by exact xr_extract rfl rfl rfl) rfl rfl rfl ?_
            refine ol_val (v := .bool t42.2) (by exact xr_extract rfl rfl rfl) rfl rfl rfl ?_
            refine ol_val (v := u44) (by exact xr_assign rfl rfl) rfl rfl rfl ?_
            refine ol_val (v := .bool t42.2) (by exact xr_assign rfl rfl) rfl rfl rfl ?_
            refine ol_nil ?_
            refine cw_seq ?_
            refine cw_mid (fun ρ' w' => ρ' 2 = .bool (if t42.2 = true then (decide ((List.map toB t42.1) = (List.map toB a0))) else false) ∧ w48 = w') ?_ ?_
            · skip
              refine cw_region ?_
              refine ol_val (v := .bool t42.2) (by exact xr_move rfl rfl) rfl rfl rfl ?_
              refine ol_val (v := .bool t42.2) (by exact xr_move rfl rfl) rfl rfl rfl ?_
              rcases bt t42.2 with c49 | c49
              · skip
                refine ol_gval (v := u44) (by exact xr_move rfl rfl) rfl rfl rfl rfl rfl c49 ?_
                refine ol_gval (v := sv (List.map toB t42.1)) (by exact xr_toStr rfl Try.underlying38 Try.underlying5 Try.underlying9 rfl o45.rd) rfl rfl rfl rfl rfl c49 ?_
                refine ol_gval (v := V0_0) (by exact xr_move rfl e0) rfl rfl rfl rfl rfl c49 ?_
                refine ol_gval (v := sv (List.map toB a0)) (by exact xr_toStr rfl Try.underlying38 Try.underlying5 Try.underlying9 rfl (R0_0.gr fB)) rfl rfl rfl rfl rfl c49 ?_
                refine ol_gval (v := .bool (decide ((List.map toB t42.1) = (List.map toB a0)))) (by exact xr_eqStr rfl Try.underlying9 rfl rfl) rfl rfl rfl rfl rfl c49 ?_
                refine ol_val (v := .bool (decide ((List.map toB t42.1) = (List.map toB a0)))) (by exact xr_pickT rfl rfl c49 rfl) rfl rfl rfl ?_
                refine ol_val (v := .bool (decide ((List.map toB t42.1) = (List.map toB a0)))) (by exact xr_assign rfl rfl) rfl rfl rfl ?_
                refine ol_nil ?_
                refine thn_i ?_
                exact ⟨(rfl).trans (congrArg (fun z => (.bool z : Value)) (show (decide ((List.map toB t42.1) = (List.map toB a0))) = (if t42.2 = true then (decide ((List.map toB t42.1) = (List.map toB a0))) else false) from by rw [ite_t c49])), rfl⟩
              · skip
                refine ol_gskip rfl rfl rfl rfl rfl c49 ?_
                refine ol_gskip rfl rfl rfl rfl rfl c49 ?_
                refine ol_gskip rfl rfl rfl rfl rfl c49 ?_
                refine ol_gskip rfl rfl rfl rfl rfl c49 ?_
                refine ol_gskip rfl rfl rfl rfl rfl c49 ?_
                refine ol_val (v := .bool false) (by exact xr_pickF rfl rfl c49 rfl) rfl rfl rfl ?_
                refine ol_val (v := .bool false) (by exact xr_assign rfl rfl) rfl rfl rfl ?_
                refine ol_nil ?_
                refine thn_i ?_
                exact ⟨(rfl).trans (congrArg (fun z => (.bool z : Value)) (show false = (if t42.2 = true then (decide ((List.map toB t42.1) = (List.map toB a0))) else false) from by rw [ite_f c49])), rfl⟩
            · skip
              rintro ρ50 _ ⟨e2, rfl⟩
              refine cw_ret ?_
              repeat (first | with_reducible refine thn_r ?_ | with_reducible refine blk_r ?_)
              obtain rfl := Option.some.inj h
              refine fin_ret1 Try.results6 e2 ?_
              exact ⟨_, rfl, rfl, fB⟩
end Go.Proofs.Ytpdglhpohkkeiaa
