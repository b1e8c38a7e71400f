/- rickyard/rickyardlaw07.awake: its model, and that the Go function computes it: written by gen.py. -/
import Derived.Test.YtpdglhpohkkeiaaBase
import Derived.Test.YtpdglhpohkkeiaaFblockSeal
import Derived.Test.YtpdglhpohkkeiaaFblockKind
set_option linter.unusedVariables false
namespace Go.Proofs.Ytpdglhpohkkeiaa
open Go Go.Xw
def rickyardlaw07_awake.f (fu : Nat) : Option Bool := ((block_Seal.f fu 1 2 [3] : Option ((List Int) × Bool)).bind fun t7 => (((if t7.2 = true then (if (decide ((List.length t7.1 : Int) = 64)) = true then ((block_Kind.f fu t7.1 : Option Int).bind fun t18 => (if (decide (t18 = 1)) = true then ((block_Kind.f fu (List.replicate (Int.toNat 64) (0 : Int)) : Option Int).bind fun t29 => some ((decide (t29 = 0)))) else some (false))) else some (false)) else some (false)) : Option Bool).bind fun x14 => some (x14)))
set_option maxRecDepth 100000 in
set_option maxHeartbeats 400000 in
theorem rickyardlaw07_awake.ok (fu : Nat) (w : World)  (r : Bool) (h : rickyardlaw07_awake.f fu = some r) :
    Calls Try.prog 38 (([] : List Value).toArray) w (fun e w' => ∃ v, e = .returned v ∧ v = .bool r ∧ Gr w w') := by
  unfold rickyardlaw07_awake.f at h
  have fB : Gr w w := Fr.refl _ _
  refine calls_cw Try.func38 rfl Try.ntmps38 rfl ?_
  refine cw_seq ?_
  refine cw_region ?_
  refine ol_val (v := .bool false) (by exact xr_assign rfl rfl) rfl rfl rfl ?_
  refine ol_nil ?_
  refine cw_seq ?_
  refine cw_region ?_
  refine ol_op (by exact opv_buildSlice (K := (kI .u8)) (xs := [3]) (vals := [.int .u8 3]) rfl Try.underlying38 el5 rfl rfl ⟨rfl, rfl, trivial⟩ rfl rfl rfl fB.size) rfl rfl rfl ?_
  rintro v1 w6 ⟨o3, q2, z4⟩
  have fB := fB.gr q2
  obtain ⟨t7, k8, h⟩ := bs h
  refine ol_op (by exact opv_call rfl cal39 (ac rfl (ac rfl (ac rfl an))) (block_Seal.ok fu _ 1 2 [3] v1 (o3.rd) _ k8)) rfl rfl rfl ?_
  rintro _ w13 ⟨u9, o10, rfl, q12⟩
  have o10 := Own.base o10 fB.size
  have fB := fB.gr q12
  refine ol_val (v := .tuple #[u9, .bool t7.2]) (by exact xr_move rfl rfl) rfl rfl rfl ?_
  refine ol_val (v := u9) (by exact xr_extract rfl rfl rfl) rfl rfl rfl ?_
  refine ol_val (v := .bool t7.2) (by exact xr_extract rfl rfl rfl) rfl rfl rfl ?_
  refine ol_val (v := u9) (by exact xr_assign rfl rfl) rfl rfl rfl ?_
  refine ol_val (v := .bool t7.2) (by exact xr_assign rfl rfl) rfl rfl rfl ?_
  refine ol_nil ?_
  refine cw_seq ?_
  obtain ⟨x14, j15, h⟩ := bs h
  refine cw_mid (fun ρ' w' => ρ' 0 = .bool x14 ∧ Gr w13 w') ?_ ?_
  · skip
    refine cw_region ?_
    refine ol_val (v := .bool t7.2) (by exact xr_move rfl rfl) rfl rfl rfl ?_
    refine ol_val (v := .bool t7.2) (by exact xr_move rfl rfl) rfl rfl rfl ?_
    rcases is j15 with ⟨c16, j15⟩ | ⟨c16, j15⟩
    · skip
      refine ol_gval (v := u9) (by exact xr_move rfl rfl) rfl rfl rfl rfl rfl c16 ?_
      refine ol_gval (v := .int .i64 (List.length t7.1 : Int)) (by exact xr_lenR rfl Try.underlying38 rfl o10.rd) rfl rfl rfl rfl rfl c16 ?_
      refine ol_gval (v := .bool (decide ((List.length t7.1 : Int) = 64))) (by exact xr_eqI rfl Try.underlying3 rfl rfl rfl) rfl rfl rfl rfl rfl c16 ?_
      refine ol_val (v := .bool (decide ((List.length t7.1 : Int) = 64))) (by exact xr_pickT rfl rfl c16 rfl) rfl rfl rfl ?_
      refine ol_val (v := .bool (decide ((List.length t7.1 : Int) = 64))) (by exact xr_move rfl rfl) rfl rfl rfl ?_
      rcases is j15 with ⟨c17, j15⟩ | ⟨c17, j15⟩
      · skip
        refine ol_gval (v := u9) (by exact xr_move rfl rfl) rfl rfl rfl rfl rfl c17 ?_
        obtain ⟨t18, k19, j15⟩ := bs j15
        refine ol_gop (by exact opv_call rfl cal44 (ac rfl an) (block_Kind.ok fu _ t7.1 u9 (o10.rd) _ k19)) rfl rfl rfl rfl rfl c17 ?_
        rintro _ w21 ⟨rfl, q20⟩
        have fB := fB.gr q20
        refine ol_gval (v := .bool (decide (t18 = 1))) (by exact xr_eqI rfl Try.underlying3 rfl rfl rfl) rfl rfl rfl rfl rfl c17 ?_
        refine ol_val (v := .bool (decide (t18 = 1))) (by exact xr_pickT rfl rfl c17 rfl) rfl rfl rfl ?_
        refine ol_val (v := .bool (decide (t18 = 1))) (by exact xr_move rfl rfl) rfl rfl rfl ?_
        rcases is j15 with ⟨c22, j15⟩ | ⟨c22, j15⟩
        · skip
          refine ol_gop (by exact opv_make (K := (kI .u8)) (z := (0 : Int)) rfl Try.underlying38 el5 rfl rfl rfl (by decide) (by decide) rfl fB.size) rfl rfl rfl rfl rfl c22 ?_
          rintro v23 w28 ⟨o25, q24, z26⟩
          have fB := fB.gr q24
          obtain ⟨t29, k30, j15⟩ := bs j15
          refine ol_gop (by exact opv_call rfl cal44 (ac rfl an) (block_Kind.ok fu _ (List.replicate (Int.toNat 64) (0 : Int)) v23 (o25.rd) _ k30)) rfl rfl rfl rfl rfl c22 ?_
          rintro _ w32 ⟨rfl, q31⟩
          have fB := fB.gr q31
          refine ol_gval (v := .bool (decide (t29 = 0))) (by exact xr_eqI rfl Try.underlying3 rfl rfl rfl) rfl rfl rfl rfl rfl c22 ?_
          refine ol_val (v := .bool (decide (t29 = 0))) (by exact xr_pickT rfl rfl c22 rfl) rfl rfl rfl ?_
          refine ol_val (v := .bool (decide (t29 = 0))) (by exact xr_assign rfl rfl) rfl rfl rfl ?_
          refine ol_nil ?_
          obtain rfl := Option.some.inj j15
          refine thn_i ?_
          exact ⟨rfl, ((q20.gr q24).gr q31)⟩
        · skip
          refine ol_gskip rfl rfl rfl rfl rfl c22 ?_
          refine ol_gskip rfl rfl rfl rfl rfl c22 ?_
          refine ol_gskip rfl rfl rfl rfl rfl c22 ?_
          refine ol_val (v := .bool false) (by exact xr_pickF rfl rfl c22 rfl) rfl rfl rfl ?_
          refine ol_val (v := .bool false) (by exact xr_assign rfl rfl) rfl rfl rfl ?_
          refine ol_nil ?_
          obtain rfl := Option.some.inj j15
          refine thn_i ?_
          exact ⟨rfl, q20⟩
      · skip
        refine ol_gskip rfl rfl rfl rfl rfl c17 ?_
        refine ol_gskip rfl rfl rfl rfl rfl c17 ?_
        refine ol_gskip rfl rfl rfl rfl rfl c17 ?_
        refine ol_val (v := .bool false) (by exact xr_pickF rfl rfl c17 rfl) rfl rfl rfl ?_
        refine ol_val (v := .bool false) (by exact xr_move rfl rfl) rfl rfl rfl ?_
        refine ol_gskip rfl rfl rfl rfl rfl rfl ?_
        refine ol_gskip rfl rfl rfl rfl rfl rfl ?_
        refine ol_gskip rfl rfl rfl rfl rfl rfl ?_
        refine ol_val (v := .bool false) (by exact xr_pickF rfl rfl rfl rfl) rfl rfl rfl ?_
        refine ol_val (v := .bool false) (by exact xr_assign rfl rfl) rfl rfl rfl ?_
        refine ol_nil ?_
        obtain rfl := Option.some.inj j15
        refine thn_i ?_
        exact ⟨rfl, Fr.refl _ _⟩
    · skip
      refine ol_gskip rfl rfl rfl rfl rfl c16 ?_
      refine ol_gskip rfl rfl rfl rfl rfl c16 ?_
      refine ol_gskip rfl rfl rfl rfl rfl c16 ?_
      refine ol_val (v := .bool false) (by exact xr_pickF rfl rfl c16 rfl) rfl rfl rfl ?_
      refine ol_val (v := .bool false) (by exact xr_move rfl rfl) rfl rfl rfl ?_
      refine ol_gskip rfl rfl rfl rfl rfl rfl ?_
      refine ol_gskip rfl rfl rfl rfl rfl rfl ?_
      refine ol_gskip rfl rfl rfl rfl rfl rfl ?_
      refine ol_val (v := .bool false) (by exact xr_pickF rfl rfl rfl rfl) rfl rfl rfl ?_
      refine ol_val (v := .bool false) (by exact xr_move rfl rfl) rfl rfl rfl ?_
      refine ol_gskip rfl rfl rfl rfl rfl rfl ?_
      refine ol_gskip rfl rfl rfl rfl rfl rfl ?_
      refine ol_gskip rfl rfl rfl rfl rfl rfl ?_
      refine ol_val (v := .bool false) (by exact xr_pickF rfl rfl rfl rfl) rfl rfl rfl ?_
      refine ol_val (v := .bool false) (by exact xr_assign rfl rfl) rfl rfl rfl ?_
      refine ol_nil ?_
      obtain rfl := Option.some.inj j15
      refine thn_i ?_
      exact ⟨rfl, Fr.refl _ _⟩
  · skip
    rintro ρ33 w34 ⟨e0, q35⟩
    have fB := fB.gr q35
    refine cw_ret ?_
    repeat (first | with_reducible refine thn_r ?_ | with_reducible refine blk_r ?_)
    obtain rfl := Option.some.inj h
    refine fin_ret1 Try.results38 e0 ?_
    exact ⟨_, rfl, rfl, fB⟩
end Go.Proofs.Ytpdglhpohkkeiaa
