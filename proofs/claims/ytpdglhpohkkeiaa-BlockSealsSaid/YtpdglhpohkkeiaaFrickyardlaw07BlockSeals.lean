/- rickyard/rickyardlaw07.BlockSeals: its model, and that the Go function computes it: written by gen.py. -/
import Derived.Test.YtpdglhpohkkeiaaBase
import Derived.Test.YtpdglhpohkkeiaaFrickyardlaw07awake
import Derived.Test.YtpdglhpohkkeiaaFblockSeal
import Derived.Test.YtpdglhpohkkeiaaFblockOpen
import Derived.Test.YtpdglhpohkkeiaaFrickyardref07Seal
import Derived.Test.YtpdglhpohkkeiaaFrickyardref07Fill
set_option linter.unusedVariables false
namespace Go.Proofs.Ytpdglhpohkkeiaa
open Go Go.Xw
def rickyardlaw07_BlockSeals.f (fu : Nat) (a0 : Int) (a1 : Int) (a2 : List Int) : Option Bool := ((((rickyardlaw07_awake.f fu : Option Bool).bind fun t3 => (if (!t3) = true then some (true) else some ((decide ((List.length a2 : Int) > 200))))) : Option Bool).bind fun x1 => (if x1 = true then ((rickyardlaw07_awake.f fu : Option Bool).bind fun t12 => some (t12)) else ((block_Seal.f fu a0 a1 a2 : Option ((List Int) × Bool)).bind fun t16 => (if (if (decide (a0 < 1)) = true then true else (if (decide (a0 > 255)) = true then true else (if (decide (a1 < 0)) = true then true else (if (decide (a1 > 255)) = true then true else (decide ((List.length a2 : Int) > 56)))))) = true then some ((if (!t16.2) = true then (decide ((List.length t16.1 : Int) = 0)) else false)) else ((block_Open.f fu t16.1 : Option (Int × Int × (List Int) × Bool)).bind fun t31 => (((if t16.2 = true then (if t31.2.2.2 = true then ((rickyardref07_Seal.f fu a0 a1 (List.map toB a2) : Option (List UInt8)).bind fun t42 => (if (decide ((List.map toB t16.1) = t42)) = true then (if (decide (t31.1 = a0)) = true then (if (decide (t31.2.1 = a1)) = true then ((rickyardref07_Fill.f fu (List.map toB a2) 56 : Option (List UInt8)).bind fun t48 => some ((decide ((List.map toB t31.2.2.1) = t48)))) else some (false)) else some (false)) else some (false))) else some (false)) else some (false)) : Option Bool).bind fun x38 => some (x38)))))))
set_option maxRecDepth 100000 in
set_option maxHeartbeats 400000 in
theorem rickyardlaw07_BlockSeals.ok (fu : Nat) (w : World) (a0 : Int) (a1 : Int) (a2 : List Int) (V2_0 : Value) (R2_0 : Rd (kI .u8) w V2_0 a2) (r : Bool) (h : rickyardlaw07_BlockSeals.f fu a0 a1 a2 = some r) :
    Calls Try.prog 5 (([.int .i64 a0, .int .i64 a1, V2_0] : List Value).toArray) w (fun e w' => ∃ v, e = .returned v ∧ v = .bool r ∧ Gr w w') := by
  unfold rickyardlaw07_BlockSeals.f at h
  have fB : Gr w w := Fr.refl _ _
  refine calls_cw Try.func5 rfl Try.ntmps5 rfl ?_
  refine cw_seq ?_
  refine cw_region ?_
  refine ol_val (v := .bool false) (by exact xr_assign rfl rfl) rfl rfl rfl ?_
  refine ol_nil ?_
  refine cw_seq ?_
  refine cw_seq ?_
  obtain ⟨x1, j2, h⟩ := bs h
  refine cw_mid (fun ρ' w' => ρ' 0 = .int .i64 a0 ∧ ρ' 1 = .int .i64 a1 ∧ ρ' 2 = V2_0 ∧ ρ' 19 = .bool x1 ∧ Gr w w') ?_ ?_
  · skip
    refine cw_region ?_
    obtain ⟨t3, k4, j2⟩ := bs j2
    refine ol_op (by exact opv_call rfl cal38 an (rickyardlaw07_awake.ok fu _ _ k4)) rfl rfl rfl ?_
    rintro _ w6 ⟨rfl, q5⟩
    have fB := fB.gr q5
    refine ol_val (v := .bool (!t3)) (by exact xr_not rfl rfl) rfl rfl rfl ?_
    refine ol_val (v := .bool (!t3)) (by exact xr_move rfl rfl) rfl rfl rfl ?_
    rcases is j2 with ⟨c7, j2⟩ | ⟨c7, j2⟩
    · skip
      refine ol_gskip rfl rfl rfl rfl rfl c7 ?_
      refine ol_gskip rfl rfl rfl rfl rfl c7 ?_
      refine ol_gskip rfl rfl rfl rfl rfl c7 ?_
      refine ol_val (v := .bool true) (by exact xr_pickT rfl rfl c7 rfl) rfl rfl rfl ?_
      refine ol_nil ?_
      obtain rfl := Option.some.inj j2
      refine thn_i ?_
      exact ⟨rfl, rfl, rfl, rfl, q5⟩
    · skip
      refine ol_gval (v := V2_0) (by exact xr_move rfl rfl) rfl rfl rfl rfl rfl c7 ?_
      refine ol_gval (v := .int .i64 (List.length a2 : Int)) (by exact xr_lenR rfl Try.underlying38 rfl (R2_0.gr fB)) rfl rfl rfl rfl rfl c7 ?_
      refine ol_gval (v := .bool (decide ((List.length a2 : Int) > 200))) (by exact xr_gtr rfl rfl rfl) rfl rfl rfl rfl rfl c7 ?_
      refine ol_val (v := .bool (decide ((List.length a2 : Int) > 200))) (by exact xr_pickF rfl rfl c7 rfl) rfl rfl rfl ?_
      refine ol_nil ?_
      obtain rfl := Option.some.inj j2
      refine thn_i ?_
      exact ⟨rfl, rfl, rfl, rfl, q5⟩
  · skip
    rintro ρ8 w9 ⟨e0, e1, e2, e19, q10⟩
    have fB := fB.gr q10
    rcases is h with ⟨c11, h⟩ | ⟨c11, h⟩
    · refine cw_condT e19 c11 ?_
      refine cw_seq ?_
      refine cw_region ?_
      obtain ⟨t12, k13, h⟩ := bs h
      refine ol_op (by exact opv_call rfl cal38 an (rickyardlaw07_awake.ok fu _ _ k13)) rfl rfl rfl ?_
      rintro _ w15 ⟨rfl, q14⟩
      have fB := fB.gr q14
      refine ol_val (v := .bool t12) (by exact xr_assign rfl rfl) rfl rfl rfl ?_
      refine ol_nil ?_
      refine cw_ret ?_
      repeat (first | with_reducible refine thn_r ?_ | with_reducible refine blk_r ?_)
      obtain rfl := Option.some.inj h
      refine fin_ret1 Try.results5 rfl ?_
      exact ⟨_, rfl, rfl, fB⟩
    · refine cw_condF e19 c11 ?_
      refine cw_skip ?_
      refine cw_seq ?_
      refine cw_region ?_
      refine ol_val (v := .int .i64 a0) (by exact xr_move rfl e0) rfl rfl rfl ?_
      refine ol_val (v := .int .i64 a1) (by exact xr_move rfl e1) rfl rfl rfl ?_
      refine ol_val (v := V2_0) (by exact xr_move rfl e2) rfl rfl rfl ?_
      obtain ⟨t16, k17, h⟩ := bs h
      refine ol_op (by exact opv_call rfl cal39 (ac rfl (ac rfl (ac rfl an))) (block_Seal.ok fu _ a0 a1 a2 V2_0 (R2_0.gr fB) _ k17)) rfl rfl rfl ?_
      rintro _ w22 ⟨u18, o19, rfl, q21⟩
      have o19 := Own.base o19 fB.size
      have fB := fB.gr q21
      refine ol_val (v := .tuple #[u18, .bool t16.2]) (by exact xr_move rfl rfl) rfl rfl rfl ?_
      refine ol_val (v := u18) (by exact xr_extract rfl rfl rfl) rfl rfl rfl ?_
      refine ol_val (v := .bool t16.2) (by exact xr_extract rfl rfl rfl) rfl rfl rfl ?_
      refine ol_val (v := u18) (by exact xr_assign rfl rfl) rfl rfl rfl ?_
      refine ol_val (v := .bool t16.2) (by exact xr_assign rfl rfl) rfl rfl rfl ?_
      refine ol_nil ?_
      refine cw_seq ?_
      refine cw_seq ?_
      refine cw_mid (fun ρ' w' => ρ' 0 = .int .i64 a0 ∧ ρ' 1 = .int .i64 a1 ∧ ρ' 2 = V2_0 ∧ ρ' 7 = u18 ∧ ρ' 8 = .bool t16.2 ∧ ρ' 46 = .bool (if (decide (a0 < 1)) = true then true else (if (decide (a0 > 255)) = true then true else (if (decide (a1 < 0)) = true then true else (if (decide (a1 > 255)) = true then true else (decide ((List.length a2 : Int) > 56)))))) ∧ w22 = w') ?_ ?_
      · skip
        refine cw_region ?_
        refine ol_val (v := .int .i64 a0) (by exact xr_move rfl e0) rfl rfl rfl ?_
        refine ol_val (v := .bool (decide (a0 < 1))) (by exact xr_lss rfl rfl rfl) rfl rfl rfl ?_
        refine ol_val (v := .bool (decide (a0 < 1))) (by exact xr_move rfl rfl) rfl rfl rfl ?_
        rcases bt (decide (a0 < 1)) with c23 | c23
        · skip
          refine ol_gskip rfl rfl rfl rfl rfl c23 ?_
          refine ol_gskip rfl rfl rfl rfl rfl c23 ?_
          refine ol_val (v := .bool true) (by exact xr_pickT rfl rfl c23 rfl) rfl rfl rfl ?_
          refine ol_val (v := .bool true) (by exact xr_move rfl rfl) rfl rfl rfl ?_
          refine ol_gskip rfl rfl rfl rfl rfl rfl ?_
          refine ol_gskip rfl rfl rfl rfl rfl rfl ?_
          refine ol_val (v := .bool true) (by exact xr_pickT rfl rfl rfl rfl) rfl rfl rfl ?_
          refine ol_val (v := .bool true) (by exact xr_move rfl rfl) rfl rfl rfl ?_
          refine ol_gskip rfl rfl rfl rfl rfl rfl ?_
          refine ol_gskip rfl rfl rfl rfl rfl rfl ?_
          refine ol_val (v := .bool true) (by exact xr_pickT rfl rfl rfl rfl) rfl rfl rfl ?_
          refine ol_val (v := .bool true) (by exact xr_move rfl rfl) rfl rfl rfl ?_
          refine ol_gskip rfl rfl rfl rfl rfl rfl ?_
          refine ol_gskip rfl rfl rfl rfl rfl rfl ?_
          refine ol_gskip rfl rfl rfl rfl rfl rfl ?_
          refine ol_val (v := .bool true) (by exact xr_pickT rfl rfl rfl rfl) rfl rfl rfl ?_
          refine ol_nil ?_
          refine thn_i ?_
          exact ⟨e0, e1, e2, rfl, rfl, (rfl).trans (congrArg (fun z => (.bool z : Value)) (show true = (if (decide (a0 < 1)) = true then true else (if (decide (a0 > 255)) = true then true else (if (decide (a1 < 0)) = true then true else (if (decide (a1 > 255)) = true then true else (decide ((List.length a2 : Int) > 56)))))) from by rw [ite_t c23])), rfl⟩
        · skip
          refine ol_gval (v := .int .i64 a0) (by exact xr_move rfl e0) rfl rfl rfl rfl rfl c23 ?_
          refine ol_gval (v := .bool (decide (a0 > 255))) (by exact xr_gtr rfl rfl rfl) rfl rfl rfl rfl rfl c23 ?_
          refine ol_val (v := .bool (decide (a0 > 255))) (by exact xr_pickF rfl rfl c23 rfl) rfl rfl rfl ?_
          refine ol_val (v := .bool (decide (a0 > 255))) (by exact xr_move rfl rfl) rfl rfl rfl ?_
          rcases bt (decide (a0 > 255)) with c24 | c24
          · skip
            refine ol_gskip rfl rfl rfl rfl rfl c24 ?_
            refine ol_gskip rfl rfl rfl rfl rfl c24 ?_
            refine ol_val (v := .bool true) (by exact xr_pickT rfl rfl c24 rfl) rfl rfl rfl ?_
            refine ol_val (v := .bool true) (by exact xr_move rfl rfl) rfl rfl rfl ?_
            refine ol_gskip rfl rfl rfl rfl rfl rfl ?_
            refine ol_gskip rfl rfl rfl rfl rfl rfl ?_
            refine ol_val (v := .bool true) (by exact xr_pickT rfl rfl rfl rfl) rfl rfl rfl ?_
            refine ol_val (v := .bool true) (by exact xr_move rfl rfl) rfl rfl rfl ?_
            refine ol_gskip rfl rfl rfl rfl rfl rfl ?_
            refine ol_gskip rfl rfl rfl rfl rfl rfl ?_
            refine ol_gskip rfl rfl rfl rfl rfl rfl ?_
            refine ol_val (v := .bool true) (by exact xr_pickT rfl rfl rfl rfl) rfl rfl rfl ?_
            refine ol_nil ?_
            refine thn_i ?_
            exact ⟨e0, e1, e2, rfl, rfl, (rfl).trans (congrArg (fun z => (.bool z : Value)) (show true = (if (decide (a0 < 1)) = true then true else (if (decide (a0 > 255)) = true then true else (if (decide (a1 < 0)) = true then true else (if (decide (a1 > 255)) = true then true else (decide ((List.length a2 : Int) > 56)))))) from by rw [ite_f c23, ite_t c24])), rfl⟩
          · skip
            refine ol_gval (v := .int .i64 a1) (by exact xr_move rfl e1) rfl rfl rfl rfl rfl c24 ?_
            refine ol_gval (v := .bool (decide (a1 < 0))) (by exact xr_lss rfl rfl rfl) rfl rfl rfl rfl rfl c24 ?_
            refine ol_val (v := .bool (decide (a1 < 0))) (by exact xr_pickF rfl rfl c24 rfl) rfl rfl rfl ?_
            refine ol_val (v := .bool (decide (a1 < 0))) (by exact xr_move rfl rfl) rfl rfl rfl ?_
            rcases bt (decide (a1 < 0)) with c25 | c25
            · skip
              refine ol_gskip rfl rfl rfl rfl rfl c25 ?_
              refine ol_gskip rfl rfl rfl rfl rfl c25 ?_
              refine ol_val (v := .bool true) (by exact xr_pickT rfl rfl c25 rfl) rfl rfl rfl ?_
              refine ol_val (v := .bool true) (by exact xr_move rfl rfl) rfl rfl rfl ?_
              refine ol_gskip rfl rfl rfl rfl rfl rfl ?_
              refine ol_gskip rfl rfl rfl rfl rfl rfl ?_
              refine ol_gskip rfl rfl rfl rfl rfl rfl ?_
              refine ol_val (v := .bool true) (by exact xr_pickT rfl rfl rfl rfl) rfl rfl rfl ?_
              refine ol_nil ?_
              refine thn_i ?_
              exact ⟨e0, e1, e2, rfl, rfl, (rfl).trans (congrArg (fun z => (.bool z : Value)) (show true = (if (decide (a0 < 1)) = true then true else (if (decide (a0 > 255)) = true then true else (if (decide (a1 < 0)) = true then true else (if (decide (a1 > 255)) = true then true else (decide ((List.length a2 : Int) > 56)))))) from by rw [ite_f c23, ite_f c24, ite_t c25])), rfl⟩
            · skip
              refine ol_gval (v := .int .i64 a1) (by exact xr_move rfl e1) rfl rfl rfl rfl rfl c25 ?_
              refine ol_gval (v := .bool (decide (a1 > 255))) (by exact xr_gtr rfl rfl rfl) rfl rfl rfl rfl rfl c25 ?_
              refine ol_val (v := .bool (decide (a1 > 255))) (by exact xr_pickF rfl rfl c25 rfl) rfl rfl rfl ?_
              refine ol_val (v := .bool (decide (a1 > 255))) (by exact xr_move rfl rfl) rfl rfl rfl ?_
              rcases bt (decide (a1 > 255)) with c26 | c26
              · skip
                refine ol_gskip rfl rfl rfl rfl rfl c26 ?_
                refine ol_gskip rfl rfl rfl rfl rfl c26 ?_
                refine ol_gskip rfl rfl rfl rfl rfl c26 ?_
                refine ol_val (v := .bool true) (by exact xr_pickT rfl rfl c26 rfl) rfl rfl rfl ?_
                refine ol_nil ?_
                refine thn_i ?_
                exact ⟨e0, e1, e2, rfl, rfl, (rfl).trans (congrArg (fun z => (.bool z : Value)) (show true = (if (decide (a0 < 1)) = true then true else (if (decide (a0 > 255)) = true then true else (if (decide (a1 < 0)) = true then true else (if (decide (a1 > 255)) = true then true else (decide ((List.length a2 : Int) > 56)))))) from by rw [ite_f c23, ite_f c24, ite_f c25, ite_t c26])), rfl⟩
              · skip
                refine ol_gval (v := V2_0) (by exact xr_move rfl e2) rfl rfl rfl rfl rfl c26 ?_
                refine ol_gval (v := .int .i64 (List.length a2 : Int)) (by exact xr_lenR rfl Try.underlying38 rfl (R2_0.gr fB)) rfl rfl rfl rfl rfl c26 ?_
                refine ol_gval (v := .bool (decide ((List.length a2 : Int) > 56))) (by exact xr_gtr rfl rfl rfl) rfl rfl rfl rfl rfl c26 ?_
                refine ol_val (v := .bool (decide ((List.length a2 : Int) > 56))) (by exact xr_pickF rfl rfl c26 rfl) rfl rfl rfl ?_
                refine ol_nil ?_
                refine thn_i ?_
                exact ⟨e0, e1, e2, rfl, rfl, (rfl).trans (congrArg (fun z => (.bool z : Value)) (show (decide ((List.length a2 : Int) > 56)) = (if (decide (a0 < 1)) = true then true else (if (decide (a0 > 255)) = true then true else (if (decide (a1 < 0)) = true then true else (if (decide (a1 > 255)) = true then true else (decide ((List.length a2 : Int) > 56)))))) from by rw [ite_f c23, ite_f c24, ite_f c25, ite_f c26])), rfl⟩
      · skip
        rintro ρ27 _ ⟨e0, e1, e2, e7, e8, e46, rfl⟩
        rcases is h with ⟨c28, h⟩ | ⟨c28, h⟩
        · refine cw_condT e46 c28 ?_
          refine cw_seq ?_
          refine cw_mid (fun ρ' w' => ρ' 6 = .bool (if (!t16.2) = true then (decide ((List.length t16.1 : Int) = 0)) else false) ∧ w22 = w') ?_ ?_
          · skip
            refine cw_region ?_
            refine ol_val (v := .bool t16.2) (by exact xr_move rfl e8) rfl rfl rfl ?_
            refine ol_val (v := .bool (!t16.2)) (by exact xr_not rfl rfl) rfl rfl rfl ?_
            refine ol_val (v := .bool (!t16.2)) (by exact xr_move rfl rfl) rfl rfl rfl ?_
            rcases bt (!t16.2) with c29 | c29
            · skip
              refine ol_gval (v := u18) (by exact xr_move rfl e7) rfl rfl rfl rfl rfl c29 ?_
              refine ol_gval (v := .int .i64 (List.length t16.1 : Int)) (by exact xr_lenR rfl Try.underlying38 rfl o19.rd) rfl rfl rfl rfl rfl c29 ?_
              refine ol_gval (v := .bool (decide ((List.length t16.1 : Int) = 0))) (by exact xr_eqI rfl Try.underlying3 rfl rfl rfl) rfl rfl rfl rfl rfl c29 ?_
              refine ol_val (v := .bool (decide ((List.length t16.1 : Int) = 0))) (by exact xr_pickT rfl rfl c29 rfl) rfl rfl rfl ?_
              refine ol_val (v := .bool (decide ((List.length t16.1 : Int) = 0))) (by exact xr_assign rfl rfl) rfl rfl rfl ?_
              refine ol_nil ?_
              refine thn_i ?_
              exact ⟨(rfl).trans (congrArg (fun z => (.bool z : Value)) (show (decide ((List.length t16.1 : Int) = 0)) = (if (!t16.2) = true then (decide ((List.length t16.1 : Int) = 0)) else false) from by rw [ite_t c29])), rfl⟩
            · skip
              refine ol_gskip rfl rfl rfl rfl rfl c29 ?_
              refine ol_gskip rfl rfl rfl rfl rfl c29 ?_
              refine ol_gskip rfl rfl rfl rfl rfl c29 ?_
              refine ol_val (v := .bool false) (by exact xr_pickF rfl rfl c29 rfl) rfl rfl rfl ?_
              refine ol_val (v := .bool false) (by exact xr_assign rfl rfl) rfl rfl rfl ?_
              refine ol_nil ?_
              refine thn_i ?_
              exact ⟨(rfl).trans (congrArg (fun z => (.bool z : Value)) (show false = (if (!t16.2) = true then (decide ((List.length t16.1 : Int) = 0)) else false) from by rw [ite_f c29])), rfl⟩
          · skip
            rintro ρ30 _ ⟨e6, rfl⟩
            refine cw_ret ?_
            repeat (first | with_reducible refine thn_r ?_ | with_reducible refine blk_r ?_)
            obtain rfl := Option.some.inj h
            refine fin_ret1 Try.results5 e6 ?_
            exact ⟨_, rfl, rfl, fB⟩
        · refine cw_condF e46 c28 ?_
          refine cw_skip ?_
          refine cw_seq ?_
          refine cw_region ?_
          refine ol_val (v := u18) (by exact xr_move rfl e7) rfl rfl rfl ?_
          obtain ⟨t31, k32, h⟩ := bs h
          refine ol_op (by exact opv_call rfl cal40 (ac rfl an) (block_Open.ok fu _ t16.1 u18 (o19.rd) _ k32)) rfl rfl rfl ?_
          rintro _ w37 ⟨u33, o34, rfl, q36⟩
          have o34 := Own.base o34 fB.size
          have o19 := o19.gr q36
          have fB := fB.gr q36
          refine ol_val (v := .tuple #[.int .i64 t31.1, .int .i64 t31.2.1, u33, .bool t31.2.2.2]) (by exact xr_move rfl rfl) rfl rfl rfl ?_
          refine ol_val (v := .int .i64 t31.1) (by exact xr_extract rfl rfl rfl) rfl rfl rfl ?_
          refine ol_val (v := .int .i64 t31.2.1) (by exact xr_extract rfl rfl rfl) rfl rfl rfl ?_
          refine ol_val (v := u33) (by exact xr_extract rfl rfl rfl) rfl rfl rfl ?_
          refine ol_val (v := .bool t31.2.2.2) (by exact xr_extract rfl rfl rfl) rfl rfl rfl ?_
          refine ol_val (v := .int .i64 t31.1) (by exact xr_assign rfl rfl) rfl rfl rfl ?_
          refine ol_val (v := .int .i64 t31.2.1) (by exact xr_assign rfl rfl) rfl rfl rfl ?_
          refine ol_val (v := u33) (by exact xr_assign rfl rfl) rfl rfl rfl ?_
          refine ol_val (v := .bool t31.2.2.2) (by exact xr_assign rfl rfl) rfl rfl rfl ?_
          refine ol_nil ?_
          refine cw_seq ?_
          obtain ⟨x38, j39, h⟩ := bs h
          refine cw_mid (fun ρ' w' => ρ' 6 = .bool x38 ∧ Gr w37 w') ?_ ?_
          · skip
            rcases is j39 with ⟨c40, j39⟩ | ⟨c40, j39⟩
            · skip
              rcases is j39 with ⟨c41, j39⟩ | ⟨c41, j39⟩
              · skip
                obtain ⟨t42, k43, j39⟩ := bs j39
                rcases is j39 with ⟨c45, j39⟩ | ⟨c45, j39⟩
                · skip
                  rcases is j39 with ⟨c46, j39⟩ | ⟨c46, j39⟩
                  · skip
                    rcases is j39 with ⟨c47, j39⟩ | ⟨c47, j39⟩
                    · skip
                      obtain ⟨t48, k49, j39⟩ := bs j39
                      refine cw_drawL 32 [fun vz wz => vz = (.bool t16.2 : Value), fun vz wz => vz = (.bool t16.2 : Value), fun vz wz => vz = (.bool t31.2.2.2 : Value), fun vz wz => vz = (.bool t31.2.2.2 : Value), fun vz wz => vz = (.bool t31.2.2.2 : Value), fun vz wz => vz = (u18 : Value), fun vz wz => vz = (sv (List.map toB t16.1) : Value), fun vz wz => vz = (.int .i64 a0 : Value), fun vz wz => vz = (.int .i64 a1 : Value), fun vz wz => vz = (V2_0 : Value), fun vz wz => vz = (sv (List.map toB a2) : Value), fun vz wz => vz = (sv t42 : Value), fun vz wz => vz = (.bool (decide ((List.map toB t16.1) = t42)) : Value), fun vz wz => vz = (.bool (decide ((List.map toB t16.1) = t42)) : Value), fun vz wz => vz = (.bool (decide ((List.map toB t16.1) = t42)) : Value), fun vz wz => vz = (.int .i64 t31.1 : Value), fun vz wz => vz = (.int .i64 a0 : Value), fun vz wz => vz = (.bool (decide (t31.1 = a0)) : Value), fun vz wz => vz = (.bool (decide (t31.1 = a0)) : Value), fun vz wz => vz = (.bool (decide (t31.1 = a0)) : Value), fun vz wz => vz = (.int .i64 t31.2.1 : Value), fun vz wz => vz = (.int .i64 a1 : Value), fun vz wz => vz = (.bool (decide (t31.2.1 = a1)) : Value), fun vz wz => vz = (.bool (decide (t31.2.1 = a1)) : Value), fun vz wz => vz = (.bool (decide (t31.2.1 = a1)) : Value), fun vz wz => vz = (u33 : Value), fun vz wz => vz = (sv (List.map toB t31.2.2.1) : Value), fun vz wz => vz = (V2_0 : Value), fun vz wz => vz = (sv (List.map toB a2) : Value), fun vz wz => vz = (sv t48 : Value), fun vz wz => vz = (.bool (decide ((List.map toB t31.2.2.1) = t48)) : Value), fun vz wz => vz = (.bool (decide ((List.map toB t31.2.2.1) = t48)) : Value)] mo rfl ⟨fun _ _ _ h _ => h, fun _ _ _ h _ => h, fun _ _ _ h _ => h, fun _ _ _ h _ => h, fun _ _ _ h _ => h, fun _ _ _ h _ => h, fun _ _ _ h _ => h, fun _ _ _ h _ => h, fun _ _ _ h _ => h, fun _ _ _ h _ => h, fun _ _ _ h _ => h, fun _ _ _ h _ => h, fun _ _ _ h _ => h, fun _ _ _ h _ => h, fun _ _ _ h _ => h, fun _ _ _ h _ => h, fun _ _ _ h _ => h, fun _ _ _ h _ => h, fun _ _ _ h _ => h, fun _ _ _ h _ => h, fun _ _ _ h _ => h, fun _ _ _ h _ => h, fun _ _ _ h _ => h, fun _ _ _ h _ => h, fun _ _ _ h _ => h, fun _ _ _ h _ => h, fun _ _ _ h _ => h, fun _ _ _ h _ => h, fun _ _ _ h _ => h, fun _ _ _ h _ => h, fun _ _ _ h _ => h, fun _ _ _ h _ => h, trivial⟩ ?_ ?_
                      · refine ⟨?_, ?_, ?_, ?_, ?_, ?_, ?_, ?_, ?_, ?_, ?_, ?_, ?_, ?_, ?_, ?_, ?_, ?_, ?_, ?_, ?_, ?_, ?_, ?_, ?_, ?_, ?_, ?_, ?_, ?_, ?_, ?_, trivial⟩
                        · intro ρz wz hz hk hd
                          exact sk_val (v := .bool t16.2) (by exact xr_move rfl ((hk 8 rfl).trans e8)) rfl rfl
                        · intro ρz wz hz hk hd
                          have d61 := hd 0 rfl 61 rfl
                          exact sk_val (v := .bool t16.2) (by exact xr_move rfl d61) rfl rfl
                        · intro ρz wz hz hk hd
                          have d62 := hd 1 rfl 62 rfl
                          exact sk_gval (v := .bool t31.2.2.2) (by exact xr_move rfl ((hk 12 rfl).trans rfl)) rfl rfl d62 c40 rfl
                        · intro ρz wz hz hk hd
                          have d62 := hd 1 rfl 62 rfl
                          have d63 := hd 2 rfl 63 rfl
                          exact sk_val (v := .bool t31.2.2.2) (by exact xr_pickT rfl d62 c40 d63) rfl rfl
                        · intro ρz wz hz hk hd
                          have d64 := hd 3 rfl 64 rfl
                          exact sk_val (v := .bool t31.2.2.2) (by exact xr_move rfl d64) rfl rfl
                        · intro ρz wz hz hk hd
                          have d65 := hd 4 rfl 65 rfl
                          exact sk_gval (v := u18) (by exact xr_move rfl ((hk 7 rfl).trans e7)) rfl rfl d65 c41 rfl
                        · intro ρz wz hz hk hd
                          have d66 := hd 5 rfl 66 rfl
                          have d65 := hd 4 rfl 65 rfl
                          exact sk_gval (v := sv (List.map toB t16.1)) (by exact xr_toStr rfl Try.underlying38 Try.underlying5 Try.underlying9 d66 (o19.gr hz).rd) rfl rfl d65 c41 rfl
                        · intro ρz wz hz hk hd
                          have d65 := hd 4 rfl 65 rfl
                          exact sk_gval (v := .int .i64 a0) (by exact xr_move rfl ((hk 0 rfl).trans e0)) rfl rfl d65 c41 rfl
                        · intro ρz wz hz hk hd
                          have d65 := hd 4 rfl 65 rfl
                          exact sk_gval (v := .int .i64 a1) (by exact xr_move rfl ((hk 1 rfl).trans e1)) rfl rfl d65 c41 rfl
                        · intro ρz wz hz hk hd
                          have d65 := hd 4 rfl 65 rfl
                          exact sk_gval (v := V2_0) (by exact xr_move rfl ((hk 2 rfl).trans e2)) rfl rfl d65 c41 rfl
                        · intro ρz wz hz hk hd
                          have d70 := hd 9 rfl 70 rfl
                          have d65 := hd 4 rfl 65 rfl
                          exact sk_gval (v := sv (List.map toB a2)) (by exact xr_toStr rfl Try.underlying38 Try.underlying5 Try.underlying9 d70 (R2_0.gr (fB.gr hz))) rfl rfl d65 c41 rfl
                        · intro ρz wz hz hk hd
                          have d68 := hd 7 rfl 68 rfl
                          have d69 := hd 8 rfl 69 rfl
                          have d71 := hd 10 rfl 71 rfl
                          have d65 := hd 4 rfl 65 rfl
                          refine sk_gop (by exact opv_call rfl cal41 (ac d68 (ac d69 (ac d71 an))) (rickyardref07_Seal.ok fu _ a0 a1 (List.map toB a2) _ k43)) rfl rfl d65 c41 ?_
                          rintro _ wy ⟨rfl, q44⟩
                          exact ⟨rfl, q44⟩
                        · intro ρz wz hz hk hd
                          have d67 := hd 6 rfl 67 rfl
                          have d72 := hd 11 rfl 72 rfl
                          have d65 := hd 4 rfl 65 rfl
                          exact sk_gval (v := .bool (decide ((List.map toB t16.1) = t42))) (by exact xr_eqStr rfl Try.underlying9 d67 d72) rfl rfl d65 c41 rfl
                        · intro ρz wz hz hk hd
                          have d65 := hd 4 rfl 65 rfl
                          have d73 := hd 12 rfl 73 rfl
                          exact sk_val (v := .bool (decide ((List.map toB t16.1) = t42))) (by exact xr_pickT rfl d65 c41 d73) rfl rfl
                        · intro ρz wz hz hk hd
                          have d74 := hd 13 rfl 74 rfl
                          exact sk_val (v := .bool (decide ((List.map toB t16.1) = t42))) (by exact xr_move rfl d74) rfl rfl
                        · intro ρz wz hz hk hd
                          have d75 := hd 14 rfl 75 rfl
                          exact sk_gval (v := .int .i64 t31.1) (by exact xr_move rfl ((hk 9 rfl).trans rfl)) rfl rfl d75 c45 rfl
                        · intro ρz wz hz hk hd
                          have d75 := hd 14 rfl 75 rfl
                          exact sk_gval (v := .int .i64 a0) (by exact xr_move rfl ((hk 0 rfl).trans e0)) rfl rfl d75 c45 rfl
                        · intro ρz wz hz hk hd
                          have d76 := hd 15 rfl 76 rfl
                          have d77 := hd 16 rfl 77 rfl
                          have d75 := hd 14 rfl 75 rfl
                          exact sk_gval (v := .bool (decide (t31.1 = a0))) (by exact xr_eqI rfl Try.underlying3 rfl d76 d77) rfl rfl d75 c45 rfl
                        · intro ρz wz hz hk hd
                          have d75 := hd 14 rfl 75 rfl
                          have d78 := hd 17 rfl 78 rfl
                          exact sk_val (v := .bool (decide (t31.1 = a0))) (by exact xr_pickT rfl d75 c45 d78) rfl rfl
                        · intro ρz wz hz hk hd
                          have d79 := hd 18 rfl 79 rfl
                          exact sk_val (v := .bool (decide (t31.1 = a0))) (by exact xr_move rfl d79) rfl rfl
                        · intro ρz wz hz hk hd
                          have d80 := hd 19 rfl 80 rfl
                          exact sk_gval (v := .int .i64 t31.2.1) (by exact xr_move rfl ((hk 10 rfl).trans rfl)) rfl rfl d80 c46 rfl
                        · intro ρz wz hz hk hd
                          have d80 := hd 19 rfl 80 rfl
                          exact sk_gval (v := .int .i64 a1) (by exact xr_move rfl ((hk 1 rfl).trans e1)) rfl rfl d80 c46 rfl
                        · intro ρz wz hz hk hd
                          have d81 := hd 20 rfl 81 rfl
                          have d82 := hd 21 rfl 82 rfl
                          have d80 := hd 19 rfl 80 rfl
                          exact sk_gval (v := .bool (decide (t31.2.1 = a1))) (by exact xr_eqI rfl Try.underlying3 rfl d81 d82) rfl rfl d80 c46 rfl
                        · intro ρz wz hz hk hd
                          have d80 := hd 19 rfl 80 rfl
                          have d83 := hd 22 rfl 83 rfl
                          exact sk_val (v := .bool (decide (t31.2.1 = a1))) (by exact xr_pickT rfl d80 c46 d83) rfl rfl
                        · intro ρz wz hz hk hd
                          have d84 := hd 23 rfl 84 rfl
                          exact sk_val (v := .bool (decide (t31.2.1 = a1))) (by exact xr_move rfl d84) rfl rfl
                        · intro ρz wz hz hk hd
                          have d85 := hd 24 rfl 85 rfl
                          exact sk_gval (v := u33) (by exact xr_move rfl ((hk 11 rfl).trans rfl)) rfl rfl d85 c47 rfl
                        · intro ρz wz hz hk hd
                          have d86 := hd 25 rfl 86 rfl
                          have d85 := hd 24 rfl 85 rfl
                          exact sk_gval (v := sv (List.map toB t31.2.2.1)) (by exact xr_toStr rfl Try.underlying38 Try.underlying5 Try.underlying9 d86 (o34.gr hz).rd) rfl rfl d85 c47 rfl
                        · intro ρz wz hz hk hd
                          have d85 := hd 24 rfl 85 rfl
                          exact sk_gval (v := V2_0) (by exact xr_move rfl ((hk 2 rfl).trans e2)) rfl rfl d85 c47 rfl
                        · intro ρz wz hz hk hd
                          have d88 := hd 27 rfl 88 rfl
                          have d85 := hd 24 rfl 85 rfl
                          exact sk_gval (v := sv (List.map toB a2)) (by exact xr_toStr rfl Try.underlying38 Try.underlying5 Try.underlying9 d88 (R2_0.gr (fB.gr hz))) rfl rfl d85 c47 rfl
                        · intro ρz wz hz hk hd
                          have d89 := hd 28 rfl 89 rfl
                          have d85 := hd 24 rfl 85 rfl
                          refine sk_gop (by exact opv_call rfl cal42 (ac d89 (ac rfl an)) (rickyardref07_Fill.ok fu _ (List.map toB a2) 56 _ k49)) rfl rfl d85 c47 ?_
                          rintro _ wy ⟨rfl, q50⟩
                          exact ⟨rfl, q50⟩
                        · intro ρz wz hz hk hd
                          have d87 := hd 26 rfl 87 rfl
                          have d90 := hd 29 rfl 90 rfl
                          have d85 := hd 24 rfl 85 rfl
                          exact sk_gval (v := .bool (decide ((List.map toB t31.2.2.1) = t48))) (by exact xr_eqStr rfl Try.underlying9 d87 d90) rfl rfl d85 c47 rfl
                        · intro ρz wz hz hk hd
                          have d85 := hd 24 rfl 85 rfl
                          have d91 := hd 30 rfl 91 rfl
                          exact sk_val (v := .bool (decide ((List.map toB t31.2.2.1) = t48))) (by exact xr_pickT rfl d85 c47 d91) rfl rfl
                      · intro ρ51 w52 q53 hk hd
                        have e92 := hd 31 rfl 92 rfl
                        have fB := fB.gr q53
                        refine ol_val (v := .bool (decide ((List.map toB t31.2.2.1) = t48))) (by exact xr_assign rfl e92) rfl rfl rfl ?_
                        refine ol_nil ?_
                        obtain rfl := Option.some.inj j39
                        refine thn_i ?_
                        exact ⟨rfl, q53⟩
                    · skip
                      refine cw_drawL 32 [fun vz wz => vz = (.bool t16.2 : Value), fun vz wz => vz = (.bool t16.2 : Value), fun vz wz => vz = (.bool t31.2.2.2 : Value), fun vz wz => vz = (.bool t31.2.2.2 : Value), fun vz wz => vz = (.bool t31.2.2.2 : Value), fun vz wz => vz = (u18 : Value), fun vz wz => vz = (sv (List.map toB t16.1) : Value), fun vz wz => vz = (.int .i64 a0 : Value), fun vz wz => vz = (.int .i64 a1 : Value), fun vz wz => vz = (V2_0 : Value), fun vz wz => vz = (sv (List.map toB a2) : Value), fun vz wz => vz = (sv t42 : Value), fun vz wz => vz = (.bool (decide ((List.map toB t16.1) = t42)) : Value), fun vz wz => vz = (.bool (decide ((List.map toB t16.1) = t42)) : Value), fun vz wz => vz = (.bool (decide ((List.map toB t16.1) = t42)) : Value), fun vz wz => vz = (.int .i64 t31.1 : Value), fun vz wz => vz = (.int .i64 a0 : Value), fun vz wz => vz = (.bool (decide (t31.1 = a0)) : Value), fun vz wz => vz = (.bool (decide (t31.1 = a0)) : Value), fun vz wz => vz = (.bool (decide (t31.1 = a0)) : Value), fun vz wz => vz = (.int .i64 t31.2.1 : Value), fun vz wz => vz = (.int .i64 a1 : Value), fun vz wz => vz = (.bool (decide (t31.2.1 = a1)) : Value), fun vz wz => vz = (.bool (decide (t31.2.1 = a1)) : Value), fun vz wz => vz = (.bool (decide (t31.2.1 = a1)) : Value), fun _ _ => True, fun _ _ => True, fun _ _ => True, fun _ _ => True, fun _ _ => True, fun _ _ => True, fun vz wz => vz = (.bool false : Value)] mo rfl ⟨fun _ _ _ h _ => h, fun _ _ _ h _ => h, fun _ _ _ h _ => h, fun _ _ _ h _ => h, fun _ _ _ h _ => h, fun _ _ _ h _ => h, fun _ _ _ h _ => h, fun _ _ _ h _ => h, fun _ _ _ h _ => h, fun _ _ _ h _ => h, fun _ _ _ h _ => h, fun _ _ _ h _ => h, fun _ _ _ h _ => h, fun _ _ _ h _ => h, fun _ _ _ h _ => h, fun _ _ _ h _ => h, fun _ _ _ h _ => h, fun _ _ _ h _ => h, fun _ _ _ h _ => h, fun _ _ _ h _ => h, fun _ _ _ h _ => h, fun _ _ _ h _ => h, fun _ _ _ h _ => h, fun _ _ _ h _ => h, fun _ _ _ h _ => h, fun _ _ _ h _ => h, fun _ _ _ h _ => h, fun _ _ _ h _ => h, fun _ _ _ h _ => h, fun _ _ _ h _ => h, fun _ _ _ h _ => h, fun _ _ _ h _ => h, trivial⟩ ?_ ?_
                      · refine ⟨?_, ?_, ?_, ?_, ?_, ?_, ?_, ?_, ?_, ?_, ?_, ?_, ?_, ?_, ?_, ?_, ?_, ?_, ?_, ?_, ?_, ?_, ?_, ?_, ?_, ?_, ?_, ?_, ?_, ?_, ?_, ?_, trivial⟩
                        · intro ρz wz hz hk hd
                          exact sk_val (v := .bool t16.2) (by exact xr_move rfl ((hk 8 rfl).trans e8)) rfl rfl
                        · intro ρz wz hz hk hd
                          have d61 := hd 0 rfl 61 rfl
                          exact sk_val (v := .bool t16.2) (by exact xr_move rfl d61) rfl rfl
                        · intro ρz wz hz hk hd
                          have d62 := hd 1 rfl 62 rfl
                          exact sk_gval (v := .bool t31.2.2.2) (by exact xr_move rfl ((hk 12 rfl).trans rfl)) rfl rfl d62 c40 rfl
                        · intro ρz wz hz hk hd
                          have d62 := hd 1 rfl 62 rfl
                          have d63 := hd 2 rfl 63 rfl
                          exact sk_val (v := .bool t31.2.2.2) (by exact xr_pickT rfl d62 c40 d63) rfl rfl
                        · intro ρz wz hz hk hd
                          have d64 := hd 3 rfl 64 rfl
                          exact sk_val (v := .bool t31.2.2.2) (by exact xr_move rfl d64) rfl rfl
                        · intro ρz wz hz hk hd
                          have d65 := hd 4 rfl 65 rfl
                          exact sk_gval (v := u18) (by exact xr_move rfl ((hk 7 rfl).trans e7)) rfl rfl d65 c41 rfl
                        · intro ρz wz hz hk hd
                          have d66 := hd 5 rfl 66 rfl
                          have d65 := hd 4 rfl 65 rfl
                          exact sk_gval (v := sv (List.map toB t16.1)) (by exact xr_toStr rfl Try.underlying38 Try.underlying5 Try.underlying9 d66 (o19.gr hz).rd) rfl rfl d65 c41 rfl
                        · intro ρz wz hz hk hd
                          have d65 := hd 4 rfl 65 rfl
                          exact sk_gval (v := .int .i64 a0) (by exact xr_move rfl ((hk 0 rfl).trans e0)) rfl rfl d65 c41 rfl
                        · intro ρz wz hz hk hd
                          have d65 := hd 4 rfl 65 rfl
                          exact sk_gval (v := .int .i64 a1) (by exact xr_move rfl ((hk 1 rfl).trans e1)) rfl rfl d65 c41 rfl
                        · intro ρz wz hz hk hd
                          have d65 := hd 4 rfl 65 rfl
                          exact sk_gval (v := V2_0) (by exact xr_move rfl ((hk 2 rfl).trans e2)) rfl rfl d65 c41 rfl
                        · intro ρz wz hz hk hd
                          have d70 := hd 9 rfl 70 rfl
                          have d65 := hd 4 rfl 65 rfl
                          exact sk_gval (v := sv (List.map toB a2)) (by exact xr_toStr rfl Try.underlying38 Try.underlying5 Try.underlying9 d70 (R2_0.gr (fB.gr hz))) rfl rfl d65 c41 rfl
                        · intro ρz wz hz hk hd
                          have d68 := hd 7 rfl 68 rfl
                          have d69 := hd 8 rfl 69 rfl
                          have d71 := hd 10 rfl 71 rfl
                          have d65 := hd 4 rfl 65 rfl
                          refine sk_gop (by exact opv_call rfl cal41 (ac d68 (ac d69 (ac d71 an))) (rickyardref07_Seal.ok fu _ a0 a1 (List.map toB a2) _ k43)) rfl rfl d65 c41 ?_
                          rintro _ wy ⟨rfl, q44⟩
                          exact ⟨rfl, q44⟩
                        · intro ρz wz hz hk hd
                          have d67 := hd 6 rfl 67 rfl
                          have d72 := hd 11 rfl 72 rfl
                          have d65 := hd 4 rfl 65 rfl
                          exact sk_gval (v := .bool (decide ((List.map toB t16.1) = t42))) (by exact xr_eqStr rfl Try.underlying9 d67 d72) rfl rfl d65 c41 rfl
                        · intro ρz wz hz hk hd
                          have d65 := hd 4 rfl 65 rfl
                          have d73 := hd 12 rfl 73 rfl
                          exact sk_val (v := .bool (decide ((List.map toB t16.1) = t42))) (by exact xr_pickT rfl d65 c41 d73) rfl rfl
                        · intro ρz wz hz hk hd
                          have d74 := hd 13 rfl 74 rfl
                          exact sk_val (v := .bool (decide ((List.map toB t16.1) = t42))) (by exact xr_move rfl d74) rfl rfl
                        · intro ρz wz hz hk hd
                          have d75 := hd 14 rfl 75 rfl
                          exact sk_gval (v := .int .i64 t31.1) (by exact xr_move rfl ((hk 9 rfl).trans rfl)) rfl rfl d75 c45 rfl
                        · intro ρz wz hz hk hd
                          have d75 := hd 14 rfl 75 rfl
                          exact sk_gval (v := .int .i64 a0) (by exact xr_move rfl ((hk 0 rfl).trans e0)) rfl rfl d75 c45 rfl
                        · intro ρz wz hz hk hd
                          have d76 := hd 15 rfl 76 rfl
                          have d77 := hd 16 rfl 77 rfl
                          have d75 := hd 14 rfl 75 rfl
                          exact sk_gval (v := .bool (decide (t31.1 = a0))) (by exact xr_eqI rfl Try.underlying3 rfl d76 d77) rfl rfl d75 c45 rfl
                        · intro ρz wz hz hk hd
                          have d75 := hd 14 rfl 75 rfl
                          have d78 := hd 17 rfl 78 rfl
                          exact sk_val (v := .bool (decide (t31.1 = a0))) (by exact xr_pickT rfl d75 c45 d78) rfl rfl
                        · intro ρz wz hz hk hd
                          have d79 := hd 18 rfl 79 rfl
                          exact sk_val (v := .bool (decide (t31.1 = a0))) (by exact xr_move rfl d79) rfl rfl
                        · intro ρz wz hz hk hd
                          have d80 := hd 19 rfl 80 rfl
                          exact sk_gval (v := .int .i64 t31.2.1) (by exact xr_move rfl ((hk 10 rfl).trans rfl)) rfl rfl d80 c46 rfl
                        · intro ρz wz hz hk hd
                          have d80 := hd 19 rfl 80 rfl
                          exact sk_gval (v := .int .i64 a1) (by exact xr_move rfl ((hk 1 rfl).trans e1)) rfl rfl d80 c46 rfl
                        · intro ρz wz hz hk hd
                          have d81 := hd 20 rfl 81 rfl
                          have d82 := hd 21 rfl 82 rfl
                          have d80 := hd 19 rfl 80 rfl
                          exact sk_gval (v := .bool (decide (t31.2.1 = a1))) (by exact xr_eqI rfl Try.underlying3 rfl d81 d82) rfl rfl d80 c46 rfl
                        · intro ρz wz hz hk hd
                          have d80 := hd 19 rfl 80 rfl
                          have d83 := hd 22 rfl 83 rfl
                          exact sk_val (v := .bool (decide (t31.2.1 = a1))) (by exact xr_pickT rfl d80 c46 d83) rfl rfl
                        · intro ρz wz hz hk hd
                          have d84 := hd 23 rfl 84 rfl
                          exact sk_val (v := .bool (decide (t31.2.1 = a1))) (by exact xr_move rfl d84) rfl rfl
                        · intro ρz wz hz hk hd
                          have d85 := hd 24 rfl 85 rfl
                          exact sk_skip rfl rfl d85 c47 trivial
                        · intro ρz wz hz hk hd
                          have d85 := hd 24 rfl 85 rfl
                          exact sk_skip rfl rfl d85 c47 trivial
                        · intro ρz wz hz hk hd
                          have d85 := hd 24 rfl 85 rfl
                          exact sk_skip rfl rfl d85 c47 trivial
                        · intro ρz wz hz hk hd
                          have d85 := hd 24 rfl 85 rfl
                          exact sk_skip rfl rfl d85 c47 trivial
                        · intro ρz wz hz hk hd
                          have d85 := hd 24 rfl 85 rfl
                          exact sk_skip rfl rfl d85 c47 trivial
                        · intro ρz wz hz hk hd
                          have d85 := hd 24 rfl 85 rfl
                          exact sk_skip rfl rfl d85 c47 trivial
                        · intro ρz wz hz hk hd
                          have d85 := hd 24 rfl 85 rfl
                          exact sk_val (v := .bool false) (by exact xr_pickF rfl d85 c47 rfl) rfl rfl
                      · intro ρ54 w55 q56 hk hd
                        have e92 := hd 31 rfl 92 rfl
                        have fB := fB.gr q56
                        refine ol_val (v := .bool false) (by exact xr_assign rfl e92) rfl rfl rfl ?_
                        refine ol_nil ?_
                        obtain rfl := Option.some.inj j39
                        refine thn_i ?_
                        exact ⟨rfl, q56⟩
                  · skip
                    refine cw_drawL 32 [fun vz wz => vz = (.bool t16.2 : Value), fun vz wz => vz = (.bool t16.2 : Value), fun vz wz => vz = (.bool t31.2.2.2 : Value), fun vz wz => vz = (.bool t31.2.2.2 : Value), fun vz wz => vz = (.bool t31.2.2.2 : Value), fun vz wz => vz = (u18 : Value), fun vz wz => vz = (sv (List.map toB t16.1) : Value), fun vz wz => vz = (.int .i64 a0 : Value), fun vz wz => vz = (.int .i64 a1 : Value), fun vz wz => vz = (V2_0 : Value), fun vz wz => vz = (sv (List.map toB a2) : Value), fun vz wz => vz = (sv t42 : Value), fun vz wz => vz = (.bool (decide ((List.map toB t16.1) = t42)) : Value), fun vz wz => vz = (.bool (decide ((List.map toB t16.1) = t42)) : Value), fun vz wz => vz = (.bool (decide ((List.map toB t16.1) = t42)) : Value), fun vz wz => vz = (.int .i64 t31.1 : Value), fun vz wz => vz = (.int .i64 a0 : Value), fun vz wz => vz = (.bool (decide (t31.1 = a0)) : Value), fun vz wz => vz = (.bool (decide (t31.1 = a0)) : Value), fun vz wz => vz = (.bool (decide (t31.1 = a0)) : Value), fun _ _ => True, fun _ _ => True, fun _ _ => True, fun vz wz => vz = (.bool false : Value), fun vz wz => vz = (.bool false : Value), fun _ _ => True, fun _ _ => True, fun _ _ => True, fun _ _ => True, fun _ _ => True, fun _ _ => True, fun vz wz => vz = (.bool false : Value)] mo rfl ⟨fun _ _ _ h _ => h, fun _ _ _ h _ => h, fun _ _ _ h _ => h, fun _ _ _ h _ => h, fun _ _ _ h _ => h, fun _ _ _ h _ => h, fun _ _ _ h _ => h, fun _ _ _ h _ => h, fun _ _ _ h _ => h, fun _ _ _ h _ => h, fun _ _ _ h _ => h, fun _ _ _ h _ => h, fun _ _ _ h _ => h, fun _ _ _ h _ => h, fun _ _ _ h _ => h, fun _ _ _ h _ => h, fun _ _ _ h _ => h, fun _ _ _ h _ => h, fun _ _ _ h _ => h, fun _ _ _ h _ => h, fun _ _ _ h _ => h, fun _ _ _ h _ => h, fun _ _ _ h _ => h, fun _ _ _ h _ => h, fun _ _ _ h _ => h, fun _ _ _ h _ => h, fun _ _ _ h _ => h, fun _ _ _ h _ => h, fun _ _ _ h _ => h, fun _ _ _ h _ => h, fun _ _ _ h _ => h, fun _ _ _ h _ => h, trivial⟩ ?_ ?_
                    · refine ⟨?_, ?_, ?_, ?_, ?_, ?_, ?_, ?_, ?_, ?_, ?_, ?_, ?_, ?_, ?_, ?_, ?_, ?_, ?_, ?_, ?_, ?_, ?_, ?_, ?_, ?_, ?_, ?_, ?_, ?_, ?_, ?_, trivial⟩
                      · intro ρz wz hz hk hd
                        exact sk_val (v := .bool t16.2) (by exact xr_move rfl ((hk 8 rfl).trans e8)) rfl rfl
                      · intro ρz wz hz hk hd
                        have d61 := hd 0 rfl 61 rfl
                        exact sk_val (v := .bool t16.2) (by exact xr_move rfl d61) rfl rfl
                      · intro ρz wz hz hk hd
                        have d62 := hd 1 rfl 62 rfl
                        exact sk_gval (v := .bool t31.2.2.2) (by exact xr_move rfl ((hk 12 rfl).trans rfl)) rfl rfl d62 c40 rfl
                      · intro ρz wz hz hk hd
                        have d62 := hd 1 rfl 62 rfl
                        have d63 := hd 2 rfl 63 rfl
                        exact sk_val (v := .bool t31.2.2.2) (by exact xr_pickT rfl d62 c40 d63) rfl rfl
                      · intro ρz wz hz hk hd
                        have d64 := hd 3 rfl 64 rfl
                        exact sk_val (v := .bool t31.2.2.2) (by exact xr_move rfl d64) rfl rfl
                      · intro ρz wz hz hk hd
                        have d65 := hd 4 rfl 65 rfl
                        exact sk_gval (v := u18) (by exact xr_move rfl ((hk 7 rfl).trans e7)) rfl rfl d65 c41 rfl
                      · intro ρz wz hz hk hd
                        have d66 := hd 5 rfl 66 rfl
                        have d65 := hd 4 rfl 65 rfl
                        exact sk_gval (v := sv (List.map toB t16.1)) (by exact xr_toStr rfl Try.underlying38 Try.underlying5 Try.underlying9 d66 (o19.gr hz).rd) rfl rfl d65 c41 rfl
                      · intro ρz wz hz hk hd
                        have d65 := hd 4 rfl 65 rfl
                        exact sk_gval (v := .int .i64 a0) (by exact xr_move rfl ((hk 0 rfl).trans e0)) rfl rfl d65 c41 rfl
                      · intro ρz wz hz hk hd
                        have d65 := hd 4 rfl 65 rfl
                        exact sk_gval (v := .int .i64 a1) (by exact xr_move rfl ((hk 1 rfl).trans e1)) rfl rfl d65 c41 rfl
                      · intro ρz wz hz hk hd
                        have d65 := hd 4 rfl 65 rfl
                        exact sk_gval (v := V2_0) (by exact xr_move rfl ((hk 2 rfl).trans e2)) rfl rfl d65 c41 rfl
                      · intro ρz wz hz hk hd
                        have d70 := hd 9 rfl 70 rfl
                        have d65 := hd 4 rfl 65 rfl
                        exact sk_gval (v := sv (List.map toB a2)) (by exact xr_toStr rfl Try.underlying38 Try.underlying5 Try.underlying9 d70 (R2_0.gr (fB.gr hz))) rfl rfl d65 c41 rfl
                      · intro ρz wz hz hk hd
                        have d68 := hd 7 rfl 68 rfl
                        have d69 := hd 8 rfl 69 rfl
                        have d71 := hd 10 rfl 71 rfl
                        have d65 := hd 4 rfl 65 rfl
                        refine sk_gop (by exact opv_call rfl cal41 (ac d68 (ac d69 (ac d71 an))) (rickyardref07_Seal.ok fu _ a0 a1 (List.map toB a2) _ k43)) rfl rfl d65 c41 ?_
                        rintro _ wy ⟨rfl, q44⟩
                        exact ⟨rfl, q44⟩
                      · intro ρz wz hz hk hd
                        have d67 := hd 6 rfl 67 rfl
                        have d72 := hd 11 rfl 72 rfl
                        have d65 := hd 4 rfl 65 rfl
                        exact sk_gval (v := .bool (decide ((List.map toB t16.1) = t42))) (by exact xr_eqStr rfl Try.underlying9 d67 d72) rfl rfl d65 c41 rfl
                      · intro ρz wz hz hk hd
                        have d65 := hd 4 rfl 65 rfl
                        have d73 := hd 12 rfl 73 rfl
                        exact sk_val (v := .bool (decide ((List.map toB t16.1) = t42))) (by exact xr_pickT rfl d65 c41 d73) rfl rfl
                      · intro ρz wz hz hk hd
                        have d74 := hd 13 rfl 74 rfl
                        exact sk_val (v := .bool (decide ((List.map toB t16.1) = t42))) (by exact xr_move rfl d74) rfl rfl
                      · intro ρz wz hz hk hd
                        have d75 := hd 14 rfl 75 rfl
                        exact sk_gval (v := .int .i64 t31.1) (by exact xr_move rfl ((hk 9 rfl).trans rfl)) rfl rfl d75 c45 rfl
                      · intro ρz wz hz hk hd
                        have d75 := hd 14 rfl 75 rfl
                        exact sk_gval (v := .int .i64 a0) (by exact xr_move rfl ((hk 0 rfl).trans e0)) rfl rfl d75 c45 rfl
                      · intro ρz wz hz hk hd
                        have d76 := hd 15 rfl 76 rfl
                        have d77 := hd 16 rfl 77 rfl
                        have d75 := hd 14 rfl 75 rfl
                        exact sk_gval (v := .bool (decide (t31.1 = a0))) (by exact xr_eqI rfl Try.underlying3 rfl d76 d77) rfl rfl d75 c45 rfl
                      · intro ρz wz hz hk hd
                        have d75 := hd 14 rfl 75 rfl
                        have d78 := hd 17 rfl 78 rfl
                        exact sk_val (v := .bool (decide (t31.1 = a0))) (by exact xr_pickT rfl d75 c45 d78) rfl rfl
                      · intro ρz wz hz hk hd
                        have d79 := hd 18 rfl 79 rfl
                        exact sk_val (v := .bool (decide (t31.1 = a0))) (by exact xr_move rfl d79) rfl rfl
                      · intro ρz wz hz hk hd
                        have d80 := hd 19 rfl 80 rfl
                        exact sk_skip rfl rfl d80 c46 trivial
                      · intro ρz wz hz hk hd
                        have d80 := hd 19 rfl 80 rfl
                        exact sk_skip rfl rfl d80 c46 trivial
                      · intro ρz wz hz hk hd
                        have d80 := hd 19 rfl 80 rfl
                        exact sk_skip rfl rfl d80 c46 trivial
                      · intro ρz wz hz hk hd
                        have d80 := hd 19 rfl 80 rfl
                        exact sk_val (v := .bool false) (by exact xr_pickF rfl d80 c46 rfl) rfl rfl
                      · intro ρz wz hz hk hd
                        have d84 := hd 23 rfl 84 rfl
                        exact sk_val (v := .bool false) (by exact xr_move rfl d84) rfl rfl
                      · intro ρz wz hz hk hd
                        have d85 := hd 24 rfl 85 rfl
                        exact sk_skip rfl rfl d85 rfl trivial
                      · intro ρz wz hz hk hd
                        have d85 := hd 24 rfl 85 rfl
                        exact sk_skip rfl rfl d85 rfl trivial
                      · intro ρz wz hz hk hd
                        have d85 := hd 24 rfl 85 rfl
                        exact sk_skip rfl rfl d85 rfl trivial
                      · intro ρz wz hz hk hd
                        have d85 := hd 24 rfl 85 rfl
                        exact sk_skip rfl rfl d85 rfl trivial
                      · intro ρz wz hz hk hd
                        have d85 := hd 24 rfl 85 rfl
                        exact sk_skip rfl rfl d85 rfl trivial
                      · intro ρz wz hz hk hd
                        have d85 := hd 24 rfl 85 rfl
                        exact sk_skip rfl rfl d85 rfl trivial
                      · intro ρz wz hz hk hd
                        have d85 := hd 24 rfl 85 rfl
                        exact sk_val (v := .bool false) (by exact xr_pickF rfl d85 rfl rfl) rfl rfl
                    · intro ρ57 w58 q59 hk hd
                      have e92 := hd 31 rfl 92 rfl
                      have fB := fB.gr q59
                      refine ol_val (v := .bool false) (by exact xr_assign rfl e92) rfl rfl rfl ?_
                      refine ol_nil ?_
                      obtain rfl := Option.some.inj j39
                      refine thn_i ?_
                      exact ⟨rfl, q59⟩
                · skip
                  refine cw_drawL 32 [fun vz wz => vz = (.bool t16.2 : Value), fun vz wz => vz = (.bool t16.2 : Value), fun vz wz => vz = (.bool t31.2.2.2 : Value), fun vz wz => vz = (.bool t31.2.2.2 : Value), fun vz wz => vz = (.bool t31.2.2.2 : Value), fun vz wz => vz = (u18 : Value), fun vz wz => vz = (sv (List.map toB t16.1) : Value), fun vz wz => vz = (.int .i64 a0 : Value), fun vz wz => vz = (.int .i64 a1 : Value), fun vz wz => vz = (V2_0 : Value), fun vz wz => vz = (sv (List.map toB a2) : Value), fun vz wz => vz = (sv t42 : Value), fun vz wz => vz = (.bool (decide ((List.map toB t16.1) = t42)) : Value), fun vz wz => vz = (.bool (decide ((List.map toB t16.1) = t42)) : Value), fun vz wz => vz = (.bool (decide ((List.map toB t16.1) = t42)) : Value), fun _ _ => True, fun _ _ => True, fun _ _ => True, fun vz wz => vz = (.bool false : Value), fun vz wz => vz = (.bool false : Value), fun _ _ => True, fun _ _ => True, fun _ _ => True, fun vz wz => vz = (.bool false : Value), fun vz wz => vz = (.bool false : Value), fun _ _ => True, fun _ _ => True, fun _ _ => True, fun _ _ => True, fun _ _ => True, fun _ _ => True, fun vz wz => vz = (.bool false : Value)] mo rfl ⟨fun _ _ _ h _ => h, fun _ _ _ h _ => h, fun _ _ _ h _ => h, fun _ _ _ h _ => h, fun _ _ _ h _ => h, fun _ _ _ h _ => h, fun _ _ _ h _ => h, fun _ _ _ h _ => h, fun _ _ _ h _ => h, fun _ _ _ h _ => h, fun _ _ _ h _ => h, fun _ _ _ h _ => h, fun _ _ _ h _ => h, fun _ _ _ h _ => h, fun _ _ _ h _ => h, fun _ _ _ h _ => h, fun _ _ _ h _ => h, fun _ _ _ h _ => h, fun _ _ _ h _ => h, fun _ _ _ h _ => h, fun _ _ _ h _ => h, fun _ _ _ h _ => h, fun _ _ _ h _ => h, fun _ _ _ h _ => h, fun _ _ _ h _ => h, fun _ _ _ h _ => h, fun _ _ _ h _ => h, fun _ _ _ h _ => h, fun _ _ _ h _ => h, fun _ _ _ h _ => h, fun _ _ _ h _ => h, fun _ _ _ h _ => h, trivial⟩ ?_ ?_
                  · refine ⟨?_, ?_, ?_, ?_, ?_, ?_, ?_, ?_, ?_, ?_, ?_, ?_, ?_, ?_, ?_, ?_, ?_, ?_, ?_, ?_, ?_, ?_, ?_, ?_, ?_, ?_, ?_, ?_, ?_, ?_, ?_, ?_, trivial⟩
                    · intro ρz wz hz hk hd
                      exact sk_val (v := .bool t16.2) (by exact xr_move rfl ((hk 8 rfl).trans e8)) rfl rfl
                    · intro ρz wz hz hk hd
                      have d61 := hd 0 rfl 61 rfl
                      exact sk_val (v := .bool t16.2) (by exact xr_move rfl d61) rfl rfl
                    · intro ρz wz hz hk hd
                      have d62 := hd 1 rfl 62 rfl
                      exact sk_gval (v := .bool t31.2.2.2) (by exact xr_move rfl ((hk 12 rfl).trans rfl)) rfl rfl d62 c40 rfl
                    · intro ρz wz hz hk hd
                      have d62 := hd 1 rfl 62 rfl
                      have d63 := hd 2 rfl 63 rfl
                      exact sk_val (v := .bool t31.2.2.2) (by exact xr_pickT rfl d62 c40 d63) rfl rfl
                    · intro ρz wz hz hk hd
                      have d64 := hd 3 rfl 64 rfl
                      exact sk_val (v := .bool t31.2.2.2) (by exact xr_move rfl d64) rfl rfl
                    · intro ρz wz hz hk hd
                      have d65 := hd 4 rfl 65 rfl
                      exact sk_gval (v := u18) (by exact xr_move rfl ((hk 7 rfl).trans e7)) rfl rfl d65 c41 rfl
                    · intro ρz wz hz hk hd
                      have d66 := hd 5 rfl 66 rfl
                      have d65 := hd 4 rfl 65 rfl
                      exact sk_gval (v := sv (List.map toB t16.1)) (by exact xr_toStr rfl Try.underlying38 Try.underlying5 Try.underlying9 d66 (o19.gr hz).rd) rfl rfl d65 c41 rfl
                    · intro ρz wz hz hk hd
                      have d65 := hd 4 rfl 65 rfl
                      exact sk_gval (v := .int .i64 a0) (by exact xr_move rfl ((hk 0 rfl).trans e0)) rfl rfl d65 c41 rfl
                    · intro ρz wz hz hk hd
                      have d65 := hd 4 rfl 65 rfl
                      exact sk_gval (v := .int .i64 a1) (by exact xr_move rfl ((hk 1 rfl).trans e1)) rfl rfl d65 c41 rfl
                    · intro ρz wz hz hk hd
                      have d65 := hd 4 rfl 65 rfl
                      exact sk_gval (v := V2_0) (by exact xr_move rfl ((hk 2 rfl).trans e2)) rfl rfl d65 c41 rfl
                    · intro ρz wz hz hk hd
                      have d70 := hd 9 rfl 70 rfl
                      have d65 := hd 4 rfl 65 rfl
                      exact sk_gval (v := sv (List.map toB a2)) (by exact xr_toStr rfl Try.underlying38 Try.underlying5 Try.underlying9 d70 (R2_0.gr (fB.gr hz))) rfl rfl d65 c41 rfl
                    · intro ρz wz hz hk hd
                      have d68 := hd 7 rfl 68 rfl
                      have d69 := hd 8 rfl 69 rfl
                      have d71 := hd 10 rfl 71 rfl
                      have d65 := hd 4 rfl 65 rfl
                      refine sk_gop (by exact opv_call rfl cal41 (ac d68 (ac d69 (ac d71 an))) (rickyardref07_Seal.ok fu _ a0 a1 (List.map toB a2) _ k43)) rfl rfl d65 c41 ?_
                      rintro _ wy ⟨rfl, q44⟩
                      exact ⟨rfl, q44⟩
                    · intro ρz wz hz hk hd
                      have d67 := hd 6 rfl 67 rfl
                      have d72 := hd 11 rfl 72 rfl
                      have d65 := hd 4 rfl 65 rfl
                      exact sk_gval (v := .bool (decide ((List.map toB t16.1) = t42))) (by exact xr_eqStr rfl Try.underlying9 d67 d72) rfl rfl d65 c41 rfl
                    · intro ρz wz hz hk hd
                      have d65 := hd 4 rfl 65 rfl
                      have d73 := hd 12 rfl 73 rfl
                      exact sk_val (v := .bool (decide ((List.map toB t16.1) = t42))) (by exact xr_pickT rfl d65 c41 d73) rfl rfl
                    · intro ρz wz hz hk hd
                      have d74 := hd 13 rfl 74 rfl
                      exact sk_val (v := .bool (decide ((List.map toB t16.1) = t42))) (by exact xr_move rfl d74) rfl rfl
                    · intro ρz wz hz hk hd
                      have d75 := hd 14 rfl 75 rfl
                      exact sk_skip rfl rfl d75 c45 trivial
                    · intro ρz wz hz hk hd
                      have d75 := hd 14 rfl 75 rfl
                      exact sk_skip rfl rfl d75 c45 trivial
                    · intro ρz wz hz hk hd
                      have d75 := hd 14 rfl 75 rfl
                      exact sk_skip rfl rfl d75 c45 trivial
                    · intro ρz wz hz hk hd
                      have d75 := hd 14 rfl 75 rfl
                      exact sk_val (v := .bool false) (by exact xr_pickF rfl d75 c45 rfl) rfl rfl
                    · intro ρz wz hz hk hd
                      have d79 := hd 18 rfl 79 rfl
                      exact sk_val (v := .bool false) (by exact xr_move rfl d79) rfl rfl
                    · intro ρz wz hz hk hd
                      have d80 := hd 19 rfl 80 rfl
                      exact sk_skip rfl rfl d80 rfl trivial
                    · intro ρz wz hz hk hd
                      have d80 := hd 19 rfl 80 rfl
                      exact sk_skip rfl rfl d80 rfl trivial
                    · intro ρz wz hz hk hd
                      have d80 := hd 19 rfl 80 rfl
                      exact sk_skip rfl rfl d80 rfl trivial
                    · intro ρz wz hz hk hd
                      have d80 := hd 19 rfl 80 rfl
                      exact sk_val (v := .bool false) (by exact xr_pickF rfl d80 rfl rfl) rfl rfl
                    · intro ρz wz hz hk hd
                      have d84 := hd 23 rfl 84 rfl
                      exact sk_val (v := .bool false) (by exact xr_move rfl d84) rfl rfl
                    · intro ρz wz hz hk hd
                      have d85 := hd 24 rfl 85 rfl
                      exact sk_skip rfl rfl d85 rfl trivial
                    · intro ρz wz hz hk hd
                      have d85 := hd 24 rfl 85 rfl
                      exact sk_skip rfl rfl d85 rfl trivial
                    · intro ρz wz hz hk hd
                      have d85 := hd 24 rfl 85 rfl
                      exact sk_skip rfl rfl d85 rfl trivial
                    · intro ρz wz hz hk hd
                      have d85 := hd 24 rfl 85 rfl
                      exact sk_skip rfl rfl d85 rfl trivial
                    · intro ρz wz hz hk hd
                      have d85 := hd 24 rfl 85 rfl
                      exact sk_skip rfl rfl d85 rfl trivial
                    · intro ρz wz hz hk hd
                      have d85 := hd 24 rfl 85 rfl
                      exact sk_skip rfl rfl d85 rfl trivial
                    · intro ρz wz hz hk hd
                      have d85 := hd 24 rfl 85 rfl
                      exact sk_val (v := .bool false) (by exact xr_pickF rfl d85 rfl rfl) rfl rfl
                  · intro ρ60 w61 q62 hk hd
                    have e92 := hd 31 rfl 92 rfl
                    have fB := fB.gr q62
                    refine ol_val (v := .bool false) (by exact xr_assign rfl e92) rfl rfl rfl ?_
                    refine ol_nil ?_
                    obtain rfl := Option.some.inj j39
                    refine thn_i ?_
                    exact ⟨rfl, q62⟩
              · skip
                refine cw_drawL 32 [fun vz wz => vz = (.bool t16.2 : Value), fun vz wz => vz = (.bool t16.2 : Value), fun vz wz => vz = (.bool t31.2.2.2 : Value), fun vz wz => vz = (.bool t31.2.2.2 : Value), fun vz wz => vz = (.bool t31.2.2.2 : Value), fun _ _ => True, fun _ _ => True, fun _ _ => True, fun _ _ => True, fun _ _ => True, fun _ _ => True, fun _ _ => True, fun _ _ => True, fun vz wz => vz = (.bool false : Value), fun vz wz => vz = (.bool false : Value), fun _ _ => True, fun _ _ => True, fun _ _ => True, fun vz wz => vz = (.bool false : Value), fun vz wz => vz = (.bool false : Value), fun _ _ => True, fun _ _ => True, fun _ _ => True, fun vz wz => vz = (.bool false : Value), fun vz wz => vz = (.bool false : Value), fun _ _ => True, fun _ _ => True, fun _ _ => True, fun _ _ => True, fun _ _ => True, fun _ _ => True, fun vz wz => vz = (.bool false : Value)] mo rfl ⟨fun _ _ _ h _ => h, fun _ _ _ h _ => h, fun _ _ _ h _ => h, fun _ _ _ h _ => h, fun _ _ _ h _ => h, fun _ _ _ h _ => h, fun _ _ _ h _ => h, fun _ _ _ h _ => h, fun _ _ _ h _ => h, fun _ _ _ h _ => h, fun _ _ _ h _ => h, fun _ _ _ h _ => h, fun _ _ _ h _ => h, fun _ _ _ h _ => h, fun _ _ _ h _ => h, fun _ _ _ h _ => h, fun _ _ _ h _ => h, fun _ _ _ h _ => h, fun _ _ _ h _ => h, fun _ _ _ h _ => h, fun _ _ _ h _ => h, fun _ _ _ h _ => h, fun _ _ _ h _ => h, fun _ _ _ h _ => h, fun _ _ _ h _ => h, fun _ _ _ h _ => h, fun _ _ _ h _ => h, fun _ _ _ h _ => h, fun _ _ _ h _ => h, fun _ _ _ h _ => h, fun _ _ _ h _ => h, fun _ _ _ h _ => h, trivial⟩ ?_ ?_
                · refine ⟨?_, ?_, ?_, ?_, ?_, ?_, ?_, ?_, ?_, ?_, ?_, ?_, ?_, ?_, ?_, ?_, ?_, ?_, ?_, ?_, ?_, ?_, ?_, ?_, ?_, ?_, ?_, ?_, ?_, ?_, ?_, ?_, trivial⟩
                  · intro ρz wz hz hk hd
                    exact sk_val (v := .bool t16.2) (by exact xr_move rfl ((hk 8 rfl).trans e8)) rfl rfl
                  · intro ρz wz hz hk hd
                    have d61 := hd 0 rfl 61 rfl
                    exact sk_val (v := .bool t16.2) (by exact xr_move rfl d61) rfl rfl
                  · intro ρz wz hz hk hd
                    have d62 := hd 1 rfl 62 rfl
                    exact sk_gval (v := .bool t31.2.2.2) (by exact xr_move rfl ((hk 12 rfl).trans rfl)) rfl rfl d62 c40 rfl
                  · intro ρz wz hz hk hd
                    have d62 := hd 1 rfl 62 rfl
                    have d63 := hd 2 rfl 63 rfl
                    exact sk_val (v := .bool t31.2.2.2) (by exact xr_pickT rfl d62 c40 d63) rfl rfl
                  · intro ρz wz hz hk hd
                    have d64 := hd 3 rfl 64 rfl
                    exact sk_val (v := .bool t31.2.2.2) (by exact xr_move rfl d64) rfl rfl
                  · intro ρz wz hz hk hd
                    have d65 := hd 4 rfl 65 rfl
                    exact sk_skip rfl rfl d65 c41 trivial
                  · intro ρz wz hz hk hd
                    have d65 := hd 4 rfl 65 rfl
                    exact sk_skip rfl rfl d65 c41 trivial
                  · intro ρz wz hz hk hd
                    have d65 := hd 4 rfl 65 rfl
                    exact sk_skip rfl rfl d65 c41 trivial
                  · intro ρz wz hz hk hd
                    have d65 := hd 4 rfl 65 rfl
                    exact sk_skip rfl rfl d65 c41 trivial
                  · intro ρz wz hz hk hd
                    have d65 := hd 4 rfl 65 rfl
                    exact sk_skip rfl rfl d65 c41 trivial
                  · intro ρz wz hz hk hd
                    have d65 := hd 4 rfl 65 rfl
                    exact sk_skip rfl rfl d65 c41 trivial
                  · intro ρz wz hz hk hd
                    have d65 := hd 4 rfl 65 rfl
                    exact sk_skip rfl rfl d65 c41 trivial
                  · intro ρz wz hz hk hd
                    have d65 := hd 4 rfl 65 rfl
                    exact sk_skip rfl rfl d65 c41 trivial
                  · intro ρz wz hz hk hd
                    have d65 := hd 4 rfl 65 rfl
                    exact sk_val (v := .bool false) (by exact xr_pickF rfl d65 c41 rfl) rfl rfl
                  · intro ρz wz hz hk hd
                    have d74 := hd 13 rfl 74 rfl
                    exact sk_val (v := .bool false) (by exact xr_move rfl d74) rfl rfl
                  · intro ρz wz hz hk hd
                    have d75 := hd 14 rfl 75 rfl
                    exact sk_skip rfl rfl d75 rfl trivial
                  · intro ρz wz hz hk hd
                    have d75 := hd 14 rfl 75 rfl
                    exact sk_skip rfl rfl d75 rfl trivial
                  · intro ρz wz hz hk hd
                    have d75 := hd 14 rfl 75 rfl
                    exact sk_skip rfl rfl d75 rfl trivial
                  · intro ρz wz hz hk hd
                    have d75 := hd 14 rfl 75 rfl
                    exact sk_val (v := .bool false) (by exact xr_pickF rfl d75 rfl rfl) rfl rfl
                  · intro ρz wz hz hk hd
                    have d79 := hd 18 rfl 79 rfl
                    exact sk_val (v := .bool false) (by exact xr_move rfl d79) rfl rfl
                  · intro ρz wz hz hk hd
                    have d80 := hd 19 rfl 80 rfl
                    exact sk_skip rfl rfl d80 rfl trivial
                  · intro ρz wz hz hk hd
                    have d80 := hd 19 rfl 80 rfl
                    exact sk_skip rfl rfl d80 rfl trivial
                  · intro ρz wz hz hk hd
                    have d80 := hd 19 rfl 80 rfl
                    exact sk_skip rfl rfl d80 rfl trivial
                  · intro ρz wz hz hk hd
                    have d80 := hd 19 rfl 80 rfl
                    exact sk_val (v := .bool false) (by exact xr_pickF rfl d80 rfl rfl) rfl rfl
                  · intro ρz wz hz hk hd
                    have d84 := hd 23 rfl 84 rfl
                    exact sk_val (v := .bool false) (by exact xr_move rfl d84) rfl rfl
                  · intro ρz wz hz hk hd
                    have d85 := hd 24 rfl 85 rfl
                    exact sk_skip rfl rfl d85 rfl trivial
                  · intro ρz wz hz hk hd
                    have d85 := hd 24 rfl 85 rfl
                    exact sk_skip rfl rfl d85 rfl trivial
                  · intro ρz wz hz hk hd
                    have d85 := hd 24 rfl 85 rfl
                    exact sk_skip rfl rfl d85 rfl trivial
                  · intro ρz wz hz hk hd
                    have d85 := hd 24 rfl 85 rfl
                    exact sk_skip rfl rfl d85 rfl trivial
                  · intro ρz wz hz hk hd
                    have d85 := hd 24 rfl 85 rfl
                    exact sk_skip rfl rfl d85 rfl trivial
                  · intro ρz wz hz hk hd
                    have d85 := hd 24 rfl 85 rfl
                    exact sk_skip rfl rfl d85 rfl trivial
                  · intro ρz wz hz hk hd
                    have d85 := hd 24 rfl 85 rfl
                    exact sk_val (v := .bool false) (by exact xr_pickF rfl d85 rfl rfl) rfl rfl
                · intro ρ63 w64 q65 hk hd
                  have e92 := hd 31 rfl 92 rfl
                  have fB := fB.gr q65
                  refine ol_val (v := .bool false) (by exact xr_assign rfl e92) rfl rfl rfl ?_
                  refine ol_nil ?_
                  obtain rfl := Option.some.inj j39
                  refine thn_i ?_
                  exact ⟨rfl, q65⟩
            · skip
              refine cw_drawL 32 [fun vz wz => vz = (.bool t16.2 : Value), fun vz wz => vz = (.bool t16.2 : Value), fun _ _ => True, fun vz wz => vz = (.bool false : Value), fun vz wz => vz = (.bool false : Value), fun _ _ => True, fun _ _ => True, fun _ _ => True, fun _ _ => True, fun _ _ => True, fun _ _ => True, fun _ _ => True, fun _ _ => True, fun vz wz => vz = (.bool false : Value), fun vz wz => vz = (.bool false : Value), fun _ _ => True, fun _ _ => True, fun _ _ => True, fun vz wz => vz = (.bool false : Value), fun vz wz => vz = (.bool false : Value), fun _ _ => True, fun _ _ => True, fun _ _ => True, fun vz wz => vz = (.bool false : Value), fun vz wz => vz = (.bool false : Value), fun _ _ => True, fun _ _ => True, fun _ _ => True, fun _ _ => True, fun _ _ => True, fun _ _ => True, fun vz wz => vz = (.bool false : Value)] mo rfl ⟨fun _ _ _ h _ => h, fun _ _ _ h _ => h, fun _ _ _ h _ => h, fun _ _ _ h _ => h, fun _ _ _ h _ => h, fun _ _ _ h _ => h, fun _ _ _ h _ => h, fun _ _ _ h _ => h, fun _ _ _ h _ => h, fun _ _ _ h _ => h, fun _ _ _ h _ => h, fun _ _ _ h _ => h, fun _ _ _ h _ => h, fun _ _ _ h _ => h, fun _ _ _ h _ => h, fun _ _ _ h _ => h, fun _ _ _ h _ => h, fun _ _ _ h _ => h, fun _ _ _ h _ => h, fun _ _ _ h _ => h, fun _ _ _ h _ => h, fun _ _ _ h _ => h, fun _ _ _ h _ => h, fun _ _ _ h _ => h, fun _ _ _ h _ => h, fun _ _ _ h _ => h, fun _ _ _ h _ => h, fun _ _ _ h _ => h, fun _ _ _ h _ => h, fun _ _ _ h _ => h, fun _ _ _ h _ => h, fun _ _ _ h _ => h, trivial⟩ ?_ ?_
              · refine ⟨?_, ?_, ?_, ?_, ?_, ?_, ?_, ?_, ?_, ?_, ?_, ?_, ?_, ?_, ?_, ?_, ?_, ?_, ?_, ?_, ?_, ?_, ?_, ?_, ?_, ?_, ?_, ?_, ?_, ?_, ?_, ?_, trivial⟩
                · intro ρz wz hz hk hd
                  exact sk_val (v := .bool t16.2) (by exact xr_move rfl ((hk 8 rfl).trans e8)) rfl rfl
                · intro ρz wz hz hk hd
                  have d61 := hd 0 rfl 61 rfl
                  exact sk_val (v := .bool t16.2) (by exact xr_move rfl d61) rfl rfl
                · intro ρz wz hz hk hd
                  have d62 := hd 1 rfl 62 rfl
                  exact sk_skip rfl rfl d62 c40 trivial
                · intro ρz wz hz hk hd
                  have d62 := hd 1 rfl 62 rfl
                  exact sk_val (v := .bool false) (by exact xr_pickF rfl d62 c40 rfl) rfl rfl
                · intro ρz wz hz hk hd
                  have d64 := hd 3 rfl 64 rfl
                  exact sk_val (v := .bool false) (by exact xr_move rfl d64) rfl rfl
                · intro ρz wz hz hk hd
                  have d65 := hd 4 rfl 65 rfl
                  exact sk_skip rfl rfl d65 rfl trivial
                · intro ρz wz hz hk hd
                  have d65 := hd 4 rfl 65 rfl
                  exact sk_skip rfl rfl d65 rfl trivial
                · intro ρz wz hz hk hd
                  have d65 := hd 4 rfl 65 rfl
                  exact sk_skip rfl rfl d65 rfl trivial
                · intro ρz wz hz hk hd
                  have d65 := hd 4 rfl 65 rfl
                  exact sk_skip rfl rfl d65 rfl trivial
                · intro ρz wz hz hk hd
                  have d65 := hd 4 rfl 65 rfl
                  exact sk_skip rfl rfl d65 rfl trivial
                · intro ρz wz hz hk hd
                  have d65 := hd 4 rfl 65 rfl
                  exact sk_skip rfl rfl d65 rfl trivial
                · intro ρz wz hz hk hd
                  have d65 := hd 4 rfl 65 rfl
                  exact sk_skip rfl rfl d65 rfl trivial
                · intro ρz wz hz hk hd
                  have d65 := hd 4 rfl 65 rfl
                  exact sk_skip rfl rfl d65 rfl trivial
                · intro ρz wz hz hk hd
                  have d65 := hd 4 rfl 65 rfl
                  exact sk_val (v := .bool false) (by exact xr_pickF rfl d65 rfl rfl) rfl rfl
                · intro ρz wz hz hk hd
                  have d74 := hd 13 rfl 74 rfl
                  exact sk_val (v := .bool false) (by exact xr_move rfl d74) rfl rfl
                · intro ρz wz hz hk hd
                  have d75 := hd 14 rfl 75 rfl
                  exact sk_skip rfl rfl d75 rfl trivial
                · intro ρz wz hz hk hd
                  have d75 := hd 14 rfl 75 rfl
                  exact sk_skip rfl rfl d75 rfl trivial
                · intro ρz wz hz hk hd
                  have d75 := hd 14 rfl 75 rfl
                  exact sk_skip rfl rfl d75 rfl trivial
                · intro ρz wz hz hk hd
                  have d75 := hd 14 rfl 75 rfl
                  exact sk_val (v := .bool false) (by exact xr_pickF rfl d75 rfl rfl) rfl rfl
                · intro ρz wz hz hk hd
                  have d79 := hd 18 rfl 79 rfl
                  exact sk_val (v := .bool false) (by exact xr_move rfl d79) rfl rfl
                · intro ρz wz hz hk hd
                  have d80 := hd 19 rfl 80 rfl
                  exact sk_skip rfl rfl d80 rfl trivial
                · intro ρz wz hz hk hd
                  have d80 := hd 19 rfl 80 rfl
                  exact sk_skip rfl rfl d80 rfl trivial
                · intro ρz wz hz hk hd
                  have d80 := hd 19 rfl 80 rfl
                  exact sk_skip rfl rfl d80 rfl trivial
                · intro ρz wz hz hk hd
                  have d80 := hd 19 rfl 80 rfl
                  exact sk_val (v := .bool false) (by exact xr_pickF rfl d80 rfl rfl) rfl rfl
                · intro ρz wz hz hk hd
                  have d84 := hd 23 rfl 84 rfl
                  exact sk_val (v := .bool false) (by exact xr_move rfl d84) rfl rfl
                · intro ρz wz hz hk hd
                  have d85 := hd 24 rfl 85 rfl
                  exact sk_skip rfl rfl d85 rfl trivial
                · intro ρz wz hz hk hd
                  have d85 := hd 24 rfl 85 rfl
                  exact sk_skip rfl rfl d85 rfl trivial
                · intro ρz wz hz hk hd
                  have d85 := hd 24 rfl 85 rfl
                  exact sk_skip rfl rfl d85 rfl trivial
                · intro ρz wz hz hk hd
                  have d85 := hd 24 rfl 85 rfl
                  exact sk_skip rfl rfl d85 rfl trivial
                · intro ρz wz hz hk hd
                  have d85 := hd 24 rfl 85 rfl
                  exact sk_skip rfl rfl d85 rfl trivial
                · intro ρz wz hz hk hd
                  have d85 := hd 24 rfl 85 rfl
                  exact sk_skip rfl rfl d85 rfl trivial
                · intro ρz wz hz hk hd
                  have d85 := hd 24 rfl 85 rfl
                  exact sk_val (v := .bool false) (by exact xr_pickF rfl d85 rfl rfl) rfl rfl
              · intro ρ66 w67 q68 hk hd
                have e92 := hd 31 rfl 92 rfl
                have fB := fB.gr q68
                refine ol_val (v := .bool false) (by exact xr_assign rfl e92) rfl rfl rfl ?_
                refine ol_nil ?_
                obtain rfl := Option.some.inj j39
                refine thn_i ?_
                exact ⟨rfl, q68⟩
          · skip
            rintro ρ69 w70 ⟨e6, q71⟩
            have fB := fB.gr q71
            refine cw_ret ?_
            repeat (first | with_reducible refine thn_r ?_ | with_reducible refine blk_r ?_)
            obtain rfl := Option.some.inj h
            refine fin_ret1 Try.results5 e6 ?_
            exact ⟨_, rfl, rfl, fB⟩
end Go.Proofs.Ytpdglhpohkkeiaa
