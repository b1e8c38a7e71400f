/- LabelQueues: texts merged, part 4 of 7. The last part proves that the law LabelQueues holds for every input. -/
import Derived.Test.YtjhajfkfhdnciaaPkLabelQueues3
/- rickyard/rickyardref04.First: its model, and that the Go function computes it: written by gen.py. -/
set_option linter.unusedVariables false
namespace Go.Proofs.Ytjhajfkfhdnciaa
open Go Go.Xw
def rickyardref04_First.f (fu : Nat) (a0 : List UInt8) : Option (Int × Int) := (if (0 : Int) < (List.length a0 : Int) then (if (decide ((ofB (List.getD a0 (Int.toNat 0) 0)) < 128)) = true then some ((IntKind.i64.wrap (ofB (List.getD a0 (Int.toNat 0) 0))), 1) else (((if (decide ((ofB (List.getD a0 (Int.toNat 0) 0)) ≥ 194)) = true then (if (decide ((ofB (List.getD a0 (Int.toNat 0) 0)) ≤ 223)) = true then ((rickyardref04_follows.f fu a0 1 128 191 : Option Bool).bind fun t7 => some (t7)) else some (false)) else some (false)) : Option Bool).bind fun x3 => (if x3 = true then (if (1 : Int) < (List.length a0 : Int) then some ((IntKind.i64.wrap ((IntKind.i64.wrap ((IntKind.i64.wrap (IntKind.u8.wrap ((ofB (List.getD a0 (Int.toNat 0) 0)) - 192))) * 64)) + (IntKind.i64.wrap (IntKind.u8.wrap ((ofB (List.getD a0 (Int.toNat 1) 0)) - 128))))), 2) else none) else (((if (if (decide ((ofB (List.getD a0 (Int.toNat 0) 0)) ≥ 224)) = true then (decide ((ofB (List.getD a0 (Int.toNat 0) 0)) ≤ 239)) else false) = true then (((if (decide ((ofB (List.getD a0 (Int.toNat 0) 0)) = 224)) = true then some (160) else some (128)) : Option Int).bind fun x23 => (((if (decide ((ofB (List.getD a0 (Int.toNat 0) 0)) = 237)) = true then some (159) else some (191)) : Option Int).bind fun x29 => ((((rickyardref04_follows.f fu a0 1 x23 x29 : Option Bool).bind fun t37 => (if t37 = true then ((rickyardref04_follows.f fu a0 2 128 191 : Option Bool).bind fun t42 => some (t42)) else some (false))) : Option Bool).bind fun x35 => (if x35 = true then (if (1 : Int) < (List.length a0 : Int) then (if (2 : Int) < (List.length a0 : Int) then some (Sum.inl ((IntKind.i64.wrap ((IntKind.i64.wrap ((IntKind.i64.wrap ((IntKind.i64.wrap (IntKind.u8.wrap ((ofB (List.getD a0 (Int.toNat 0) 0)) - 224))) * 4096)) + (IntKind.i64.wrap ((IntKind.i64.wrap (IntKind.u8.wrap ((ofB (List.getD a0 (Int.toNat 1) 0)) - 128))) * 64)))) + (IntKind.i64.wrap (IntKind.u8.wrap ((ofB (List.getD a0 (Int.toNat 2) 0)) - 128))))), 3)) else none) else none) else some (Sum.inr ()))))) else (((if (if (decide ((ofB (List.getD a0 (Int.toNat 0) 0)) ≥ 240)) = true then (decide ((ofB (List.getD a0 (Int.toNat 0) 0)) ≤ 244)) else false) = true then (((if (decide ((ofB (List.getD a0 (Int.toNat 0) 0)) = 240)) = true then some (144) else some (128)) : Option Int).bind fun x62 => (((if (decide ((ofB (List.getD a0 (Int.toNat 0) 0)) = 244)) = true then some (143) else some (191)) : Option Int).bind fun x68 => ((((rickyardref04_follows.f fu a0 1 x62 x68 : Option Bool).bind fun t76 => (if t76 = true then ((rickyardref04_follows.f fu a0 2 128 191 : Option Bool).bind fun t81 => (if t81 = true then ((rickyardref04_follows.f fu a0 3 128 191 : Option Bool).bind fun t86 => some (t86)) else some (false))) else some (false))) : Option Bool).bind fun x74 => (if x74 = true then (if (1 : Int) < (List.length a0 : Int) then (if (2 : Int) < (List.length a0 : Int) then (if (3 : Int) < (List.length a0 : Int) then some (Sum.inl (Sum.inl ((IntKind.i64.wrap ((IntKind.i64.wrap ((IntKind.i64.wrap ((IntKind.i64.wrap ((IntKind.i64.wrap (IntKind.u8.wrap ((ofB (List.getD a0 (Int.toNat 0) 0)) - 240))) * 262144)) + (IntKind.i64.wrap ((IntKind.i64.wrap (IntKind.u8.wrap ((ofB (List.getD a0 (Int.toNat 1) 0)) - 128))) * 4096)))) + (IntKind.i64.wrap ((IntKind.i64.wrap (IntKind.u8.wrap ((ofB (List.getD a0 (Int.toNat 2) 0)) - 128))) * 64)))) + (IntKind.i64.wrap (IntKind.u8.wrap ((ofB (List.getD a0 (Int.toNat 3) 0)) - 128))))), 4))) else none) else none) else none) else some (Sum.inr ()))))) else some (Sum.inr ())) : Option (Sum (Sum (Int × Int) Unit) Unit)).bind fun x57 => match x57 with | Sum.inl p => some p | Sum.inr x60 => some (Sum.inr ()))) : Option (Sum (Int × Int) Unit)).bind fun x18 => match x18 with | Sum.inl p => some p | Sum.inr x21 => some (65533, 1))))) else none)
set_option maxRecDepth 100000 in
set_option maxHeartbeats 400000 in
theorem rickyardref04_First.ok (fu : Nat) (w : World) (a0 : List UInt8) (r : Int × Int) (h : rickyardref04_First.f fu a0 = some r) :
    Calls Try.prog 147 (([sv a0] : List Value).toArray) w (fun e w' => ∃ v, e = .returned v ∧ v = .tuple #[.int .i64 r.1, .int .i64 r.2] ∧ Gr w w') := by
  unfold rickyardref04_First.f at h
  have fB : Gr w w := Fr.refl _ _
  refine calls_cw Try.func147 rfl Try.ntmps147 rfl ?_
  refine cw_seq ?_
  refine cw_region ?_
  refine ol_val (v := .int .i64 0) (by exact xr_assign rfl rfl) rfl rfl rfl ?_
  refine ol_val (v := .int .i64 0) (by exact xr_assign rfl rfl) rfl rfl rfl ?_
  refine ol_nil ?_
  refine cw_seq ?_
  refine cw_region ?_
  refine ol_val (v := sv a0) (by exact xr_move rfl rfl) rfl rfl rfl ?_
  obtain ⟨g1, h⟩ := gs h
  refine ol_val (v := .int .u8 (ofB (List.getD a0 (Int.toNat 0) 0))) (by exact xr_indexStr rfl Try.underlying9 rfl rfl (by decide) g1) rfl rfl rfl ?_
  refine ol_val (v := .int .u8 (ofB (List.getD a0 (Int.toNat 0) 0))) (by exact xr_assign rfl rfl) rfl rfl rfl ?_
  refine ol_nil ?_
  refine cw_seq ?_
  refine cw_region ?_
  refine ol_val (v := .int .u8 128) (by exact xr_assign rfl rfl) rfl rfl rfl ?_
  refine ol_val (v := .int .u8 191) (by exact xr_assign rfl rfl) rfl rfl rfl ?_
  refine ol_nil ?_
  refine cw_seq ?_
  refine cw_block ?_
  refine cw_seq ?_
  refine cw_region ?_
  refine ol_val (v := .int .u8 (ofB (List.getD a0 (Int.toNat 0) 0))) (by exact xr_move rfl rfl) rfl rfl rfl ?_
  refine ol_val (v := .bool (decide ((ofB (List.getD a0 (Int.toNat 0) 0)) < 128))) (by exact xr_lss rfl rfl rfl) rfl rfl rfl ?_
  refine ol_val (v := .bool (decide ((ofB (List.getD a0 (Int.toNat 0) 0)) < 128))) (by exact xr_assign rfl rfl) rfl rfl rfl ?_
  refine ol_nil ?_
  rcases is h with ⟨c2, h⟩ | ⟨c2, h⟩
  · refine cw_condT rfl c2 ?_
    refine cw_seq ?_
    refine cw_region ?_
    refine ol_val (v := .int .u8 (ofB (List.getD a0 (Int.toNat 0) 0))) (by exact xr_move rfl rfl) rfl rfl rfl ?_
    refine ol_val (v := .int .i64 (IntKind.i64.wrap (ofB (List.getD a0 (Int.toNat 0) 0)))) (by exact xr_conv rfl Try.underlying5 Try.underlying3 rfl) rfl rfl rfl ?_
    refine ol_val (v := .int .i64 (IntKind.i64.wrap (ofB (List.getD a0 (Int.toNat 0) 0)))) (by exact xr_assign rfl rfl) rfl rfl rfl ?_
    refine ol_val (v := .int .i64 1) (by exact xr_assign rfl rfl) rfl rfl rfl ?_
    refine ol_nil ?_
    refine cw_ret ?_
    repeat (first | with_reducible refine thn_r ?_ | with_reducible refine blk_r ?_)
    obtain rfl := Option.some.inj h
    refine fin_ret2 Try.results147 rfl rfl ?_
    exact ⟨_, rfl, rfl, fB⟩
  · refine cw_condF rfl c2 ?_
    refine cw_seq ?_
    obtain ⟨x3, j4, h⟩ := bs h
    refine cw_mid (fun ρ' w' => ρ' 0 = sv a0 ∧ ρ' 4 = .int .u8 (ofB (List.getD a0 (Int.toNat 0) 0)) ∧ ρ' 5 = .int .u8 128 ∧ ρ' 6 = .int .u8 191 ∧ ρ' 14 = .bool x3 ∧ Gr w w') ?_ ?_
    · skip
      refine cw_region ?_
      refine ol_val (v := .int .u8 (ofB (List.getD a0 (Int.toNat 0) 0))) (by exact xr_move rfl rfl) rfl rfl rfl ?_
      refine ol_val (v := .bool (decide ((ofB (List.getD a0 (Int.toNat 0) 0)) ≥ 194))) (by exact xr_geq rfl rfl rfl) rfl rfl rfl ?_
      refine ol_val (v := .bool (decide ((ofB (List.getD a0 (Int.toNat 0) 0)) ≥ 194))) (by exact xr_move rfl rfl) rfl rfl rfl ?_
      rcases is j4 with ⟨c5, j4⟩ | ⟨c5, j4⟩
      · skip
        refine ol_gval (v := .int .u8 (ofB (List.getD a0 (Int.toNat 0) 0))) (by exact xr_move rfl rfl) rfl rfl rfl rfl rfl c5 ?_
        refine ol_gval (v := .bool (decide ((ofB (List.getD a0 (Int.toNat 0) 0)) ≤ 223))) (by exact xr_leq rfl rfl rfl) rfl rfl rfl rfl rfl c5 ?_
        refine ol_val (v := .bool (decide ((ofB (List.getD a0 (Int.toNat 0) 0)) ≤ 223))) (by exact xr_pickT rfl rfl c5 rfl) rfl rfl rfl ?_
        refine ol_val (v := .bool (decide ((ofB (List.getD a0 (Int.toNat 0) 0)) ≤ 223))) (by exact xr_move rfl rfl) rfl rfl rfl ?_
        rcases is j4 with ⟨c6, j4⟩ | ⟨c6, j4⟩
        · skip
          refine ol_gval (v := sv a0) (by exact xr_move rfl rfl) rfl rfl rfl rfl rfl c6 ?_
          refine ol_gval (v := .int .u8 128) (by exact xr_move rfl rfl) rfl rfl rfl rfl rfl c6 ?_
          refine ol_gval (v := .int .u8 191) (by exact xr_move rfl rfl) rfl rfl rfl rfl rfl c6 ?_
          obtain ⟨t7, k8, j4⟩ := bs j4
          refine ol_gop (by exact opv_call rfl cal149 (ac rfl (ac rfl (ac rfl (ac rfl an)))) (rickyardref04_follows.ok fu _ a0 1 128 191 _ k8)) rfl rfl rfl rfl rfl c6 ?_
          rintro _ w10 ⟨rfl, q9⟩
          have fB := fB.gr q9
          refine ol_val (v := .bool t7) (by exact xr_pickT rfl rfl c6 rfl) rfl rfl rfl ?_
          refine ol_val (v := .bool t7) (by exact xr_assign rfl rfl) rfl rfl rfl ?_
          refine ol_nil ?_
          obtain rfl := Option.some.inj j4
          refine thn_i ?_
          exact ⟨rfl, rfl, rfl, rfl, rfl, q9⟩
        · skip
          refine ol_gskip rfl rfl rfl rfl rfl c6 ?_
          refine ol_gskip rfl rfl rfl rfl rfl c6 ?_
          refine ol_gskip rfl rfl rfl rfl rfl c6 ?_
          refine ol_gskip rfl rfl rfl rfl rfl c6 ?_
          refine ol_val (v := .bool false) (by exact xr_pickF rfl rfl c6 rfl) rfl rfl rfl ?_
          refine ol_val (v := .bool false) (by exact xr_assign rfl rfl) rfl rfl rfl ?_
          refine ol_nil ?_
          obtain rfl := Option.some.inj j4
          refine thn_i ?_
          exact ⟨rfl, rfl, rfl, rfl, rfl, Fr.refl _ _⟩
      · skip
        refine ol_gskip rfl rfl rfl rfl rfl c5 ?_
        refine ol_gskip rfl rfl rfl rfl rfl c5 ?_
        refine ol_val (v := .bool false) (by exact xr_pickF rfl rfl c5 rfl) rfl rfl rfl ?_
        refine ol_val (v := .bool false) (by exact xr_move rfl rfl) rfl rfl rfl ?_
        refine ol_gskip rfl rfl rfl rfl rfl rfl ?_
        refine ol_gskip rfl rfl rfl rfl rfl rfl ?_
        refine ol_gskip rfl rfl rfl rfl rfl rfl ?_
        refine ol_gskip rfl rfl rfl rfl rfl rfl ?_
        refine ol_val (v := .bool false) (by exact xr_pickF rfl rfl rfl rfl) rfl rfl rfl ?_
        refine ol_val (v := .bool false) (by exact xr_assign rfl rfl) rfl rfl rfl ?_
        refine ol_nil ?_
        obtain rfl := Option.some.inj j4
        refine thn_i ?_
        exact ⟨rfl, rfl, rfl, rfl, rfl, Fr.refl _ _⟩
    · skip
      rintro ρ11 w12 ⟨e0, e4, e5, e6, e14, q13⟩
      have fB := fB.gr q13
      rcases is h with ⟨c14, h⟩ | ⟨c14, h⟩
      · refine cw_condT e14 c14 ?_
        refine cw_seq ?_
        refine cw_region ?_
        refine ol_val (v := .int .u8 (ofB (List.getD a0 (Int.toNat 0) 0))) (by exact xr_move rfl e4) rfl rfl rfl ?_
        refine ol_val (v := .int .u8 (IntKind.u8.wrap ((ofB (List.getD a0 (Int.toNat 0) 0)) - 192))) (by exact xr_sub rfl rfl rfl) rfl rfl rfl ?_
        refine ol_val (v := .int .i64 (IntKind.i64.wrap (IntKind.u8.wrap ((ofB (List.getD a0 (Int.toNat 0) 0)) - 192)))) (by exact xr_conv rfl Try.underlying5 Try.underlying3 rfl) rfl rfl rfl ?_
        refine ol_val (v := .int .i64 (IntKind.i64.wrap ((IntKind.i64.wrap (IntKind.u8.wrap ((ofB (List.getD a0 (Int.toNat 0) 0)) - 192))) * 64))) (by exact xr_mul rfl rfl rfl) rfl rfl rfl ?_
        refine ol_val (v := sv a0) (by exact xr_move rfl e0) rfl rfl rfl ?_
        obtain ⟨g15, h⟩ := gs h
        refine ol_val (v := .int .u8 (ofB (List.getD a0 (Int.toNat 1) 0))) (by exact xr_indexStr rfl Try.underlying9 rfl rfl (by decide) g15) rfl rfl rfl ?_
        refine ol_val (v := .int .u8 (IntKind.u8.wrap ((ofB (List.getD a0 (Int.toNat 1) 0)) - 128))) (by exact xr_sub rfl rfl rfl) rfl rfl rfl ?_
        refine ol_val (v := .int .i64 (IntKind.i64.wrap (IntKind.u8.wrap ((ofB (List.getD a0 (Int.toNat 1) 0)) - 128)))) (by exact xr_conv rfl Try.underlying5 Try.underlying3 rfl) rfl rfl rfl ?_
        refine ol_val (v := .int .i64 (IntKind.i64.wrap ((IntKind.i64.wrap ((IntKind.i64.wrap (IntKind.u8.wrap ((ofB (List.getD a0 (Int.toNat 0) 0)) - 192))) * 64)) + (IntKind.i64.wrap (IntKind.u8.wrap ((ofB (List.getD a0 (Int.toNat 1) 0)) - 128)))))) (by exact xr_add rfl rfl rfl) rfl rfl rfl ?_
        refine ol_val (v := .int .i64 (IntKind.i64.wrap ((IntKind.i64.wrap ((IntKind.i64.wrap (IntKind.u8.wrap ((ofB (List.getD a0 (Int.toNat 0) 0)) - 192))) * 64)) + (IntKind.i64.wrap (IntKind.u8.wrap ((ofB (List.getD a0 (Int.toNat 1) 0)) - 128)))))) (by exact xr_assign rfl rfl) rfl rfl rfl ?_
        refine ol_val (v := .int .i64 2) (by exact xr_assign rfl rfl) rfl rfl rfl ?_
        refine ol_nil ?_
        refine cw_ret ?_
        repeat (first | with_reducible refine thn_r ?_ | with_reducible refine blk_r ?_)
        obtain rfl := Option.some.inj h
        refine fin_ret2 Try.results147 rfl rfl ?_
        exact ⟨_, rfl, rfl, fB⟩
      · refine cw_condF e14 c14 ?_
        refine cw_seq ?_
        refine cw_mid (fun ρ' w' => ρ' 0 = sv a0 ∧ ρ' 4 = .int .u8 (ofB (List.getD a0 (Int.toNat 0) 0)) ∧ ρ' 5 = .int .u8 128 ∧ ρ' 6 = .int .u8 191 ∧ ρ' 36 = .bool (if (decide ((ofB (List.getD a0 (Int.toNat 0) 0)) ≥ 224)) = true then (decide ((ofB (List.getD a0 (Int.toNat 0) 0)) ≤ 239)) else false) ∧ w12 = w') ?_ ?_
        · skip
          refine cw_region ?_
          refine ol_val (v := .int .u8 (ofB (List.getD a0 (Int.toNat 0) 0))) (by exact xr_move rfl e4) rfl rfl rfl ?_
          refine ol_val (v := .bool (decide ((ofB (List.getD a0 (Int.toNat 0) 0)) ≥ 224))) (by exact xr_geq rfl rfl rfl) rfl rfl rfl ?_
          refine ol_val (v := .bool (decide ((ofB (List.getD a0 (Int.toNat 0) 0)) ≥ 224))) (by exact xr_move rfl rfl) rfl rfl rfl ?_
          rcases bt (decide ((ofB (List.getD a0 (Int.toNat 0) 0)) ≥ 224)) with c16 | c16
          · skip
            refine ol_gval (v := .int .u8 (ofB (List.getD a0 (Int.toNat 0) 0))) (by exact xr_move rfl e4) rfl rfl rfl rfl rfl c16 ?_
            refine ol_gval (v := .bool (decide ((ofB (List.getD a0 (Int.toNat 0) 0)) ≤ 239))) (by exact xr_leq rfl rfl rfl) rfl rfl rfl rfl rfl c16 ?_
            refine ol_val (v := .bool (decide ((ofB (List.getD a0 (Int.toNat 0) 0)) ≤ 239))) (by exact xr_pickT rfl rfl c16 rfl) rfl rfl rfl ?_
            refine ol_val (v := .bool (decide ((ofB (List.getD a0 (Int.toNat 0) 0)) ≤ 239))) (by exact xr_assign rfl rfl) rfl rfl rfl ?_
            refine ol_nil ?_
            refine thn_i ?_
            exact ⟨e0, e4, e5, e6, (rfl).trans (congrArg (fun z => (.bool z : Value)) (show (decide ((ofB (List.getD a0 (Int.toNat 0) 0)) ≤ 239)) = (if (decide ((ofB (List.getD a0 (Int.toNat 0) 0)) ≥ 224)) = true then (decide ((ofB (List.getD a0 (Int.toNat 0) 0)) ≤ 239)) else false) from by rw [ite_t c16])), rfl⟩
          · skip
            refine ol_gskip rfl rfl rfl rfl rfl c16 ?_
            refine ol_gskip rfl rfl rfl rfl rfl c16 ?_
            refine ol_val (v := .bool false) (by exact xr_pickF rfl rfl c16 rfl) rfl rfl rfl ?_
            refine ol_val (v := .bool false) (by exact xr_assign rfl rfl) rfl rfl rfl ?_
            refine ol_nil ?_
            refine thn_i ?_
            exact ⟨e0, e4, e5, e6, (rfl).trans (congrArg (fun z => (.bool z : Value)) (show false = (if (decide ((ofB (List.getD a0 (Int.toNat 0) 0)) ≥ 224)) = true then (decide ((ofB (List.getD a0 (Int.toNat 0) 0)) ≤ 239)) else false) from by rw [ite_f c16])), rfl⟩
        · skip
          rintro ρ17 _ ⟨e0, e4, e5, e6, e36, rfl⟩
          obtain ⟨x18, j19, h20⟩ := bs h
          refine cw_mid (fun ρ' w' => ∃ x21, x18 = Sum.inr x21 ∧ Gr w w') ?_ ?_
          · have h := j19
            rcases is h with ⟨c22, h⟩ | ⟨c22, h⟩
            · refine cw_condT e36 c22 ?_
              refine cw_seq ?_
              refine cw_seq ?_
              refine cw_region ?_
              refine ol_val (v := .int .u8 (ofB (List.getD a0 (Int.toNat 0) 0))) (by exact xr_move rfl e4) rfl rfl rfl ?_
              refine ol_val (v := .bool (decide ((ofB (List.getD a0 (Int.toNat 0) 0)) = 224))) (by exact xr_eqI rfl Try.underlying5 rfl rfl rfl) rfl rfl rfl ?_
              refine ol_nil ?_
              obtain ⟨x23, j24, h25⟩ := bs h
              refine cw_mid (fun ρ' w' => ρ' 0 = sv a0 ∧ ρ' 4 = .int .u8 (ofB (List.getD a0 (Int.toNat 0) 0)) ∧ ρ' 5 = .int .u8 x23 ∧ ρ' 6 = .int .u8 191 ∧ Gr w w') ?_ ?_
              · have h := j24
                rcases is h with ⟨c26, h⟩ | ⟨c26, h⟩
                · refine cw_condT rfl c26 ?_
                  refine cw_region ?_
                  refine ol_val (v := .int .u8 160) (by exact xr_assign rfl rfl) rfl rfl rfl ?_
                  refine ol_nil ?_
                  obtain rfl := Option.some.inj h
                  refine thn_i ?_
                  exact ⟨e0, e4, rfl, e6, fB⟩
                · refine cw_condF rfl c26 ?_
                  refine cw_skip ?_
                  obtain rfl := Option.some.inj h
                  refine thn_i ?_
                  exact ⟨e0, e4, e5, e6, fB⟩
              · rintro ρ27 w28 ⟨e0, e4, e5, e6, fB⟩
                have h := h25
                refine cw_seq ?_
                refine cw_seq ?_
                refine cw_region ?_
                refine ol_val (v := .int .u8 (ofB (List.getD a0 (Int.toNat 0) 0))) (by exact xr_move rfl e4) rfl rfl rfl ?_
                refine ol_val (v := .bool (decide ((ofB (List.getD a0 (Int.toNat 0) 0)) = 237))) (by exact xr_eqI rfl Try.underlying5 rfl rfl rfl) rfl rfl rfl ?_
                refine ol_nil ?_
                obtain ⟨x29, j30, h31⟩ := bs h
                refine cw_mid (fun ρ' w' => ρ' 0 = sv a0 ∧ ρ' 4 = .int .u8 (ofB (List.getD a0 (Int.toNat 0) 0)) ∧ ρ' 5 = .int .u8 x23 ∧ ρ' 6 = .int .u8 x29 ∧ Gr w w') ?_ ?_
                · have h := j30
                  rcases is h with ⟨c32, h⟩ | ⟨c32, h⟩
                  · refine cw_condT rfl c32 ?_
                    refine cw_region ?_
                    refine ol_val (v := .int .u8 159) (by exact xr_assign rfl rfl) rfl rfl rfl ?_
                    refine ol_nil ?_
                    obtain rfl := Option.some.inj h
                    refine thn_i ?_
                    exact ⟨e0, e4, e5, rfl, fB⟩
                  · refine cw_condF rfl c32 ?_
                    refine cw_skip ?_
                    obtain rfl := Option.some.inj h
                    refine thn_i ?_
                    exact ⟨e0, e4, e5, e6, fB⟩
                · rintro ρ33 w34 ⟨e0, e4, e5, e6, fB⟩
                  have h := h31
                  refine cw_seq ?_
                  obtain ⟨x35, j36, h⟩ := bs h
                  refine cw_mid (fun ρ' w' => ρ' 0 = sv a0 ∧ ρ' 4 = .int .u8 (ofB (List.getD a0 (Int.toNat 0) 0)) ∧ ρ' 54 = .bool x35 ∧ Gr w34 w') ?_ ?_
                  · skip
                    refine cw_region ?_
                    refine ol_val (v := sv a0) (by exact xr_move rfl e0) rfl rfl rfl ?_
                    refine ol_val (v := .int .u8 x23) (by exact xr_move rfl e5) rfl rfl rfl ?_
                    refine ol_val (v := .int .u8 x29) (by exact xr_move rfl e6) rfl rfl rfl ?_
                    obtain ⟨t37, k38, j36⟩ := bs j36
                    refine ol_op (by exact opv_call rfl cal149 (ac rfl (ac rfl (ac rfl (ac rfl an)))) (rickyardref04_follows.ok fu _ a0 1 x23 x29 _ k38)) rfl rfl rfl ?_
                    rintro _ w40 ⟨rfl, q39⟩
                    have fB := fB.gr q39
                    refine ol_val (v := .bool t37) (by exact xr_move rfl rfl) rfl rfl rfl ?_
                    rcases is j36 with ⟨c41, j36⟩ | ⟨c41, j36⟩
                    · skip
                      refine ol_gval (v := sv a0) (by exact xr_move rfl e0) rfl rfl rfl rfl rfl c41 ?_
                      obtain ⟨t42, k43, j36⟩ := bs j36
                      refine ol_gop (by exact opv_call rfl cal149 (ac rfl (ac rfl (ac rfl (ac rfl an)))) (rickyardref04_follows.ok fu _ a0 2 128 191 _ k43)) rfl rfl rfl rfl rfl c41 ?_
                      rintro _ w45 ⟨rfl, q44⟩
                      have fB := fB.gr q44
                      refine ol_val (v := .bool t42) (by exact xr_pickT rfl rfl c41 rfl) rfl rfl rfl ?_
                      refine ol_nil ?_
                      obtain rfl := Option.some.inj j36
                      refine thn_i ?_
                      exact ⟨e0, e4, rfl, (q39.gr q44)⟩
                    · skip
                      refine ol_gskip rfl rfl rfl rfl rfl c41 ?_
                      refine ol_gskip rfl rfl rfl rfl rfl c41 ?_
                      refine ol_val (v := .bool false) (by exact xr_pickF rfl rfl c41 rfl) rfl rfl rfl ?_
                      refine ol_nil ?_
                      obtain rfl := Option.some.inj j36
                      refine thn_i ?_
                      exact ⟨e0, e4, rfl, q39⟩
                  · skip
                    rintro ρ46 w47 ⟨e0, e4, e54, q48⟩
                    have fB := fB.gr q48
                    rcases is h with ⟨c49, h⟩ | ⟨c49, h⟩
                    · refine cw_condT e54 c49 ?_
                      refine cw_seq ?_
                      obtain ⟨g50, h⟩ := gs h
                      obtain ⟨g51, h⟩ := gs h
                      refine cw_drawL 14 [fun vz wz => vz = (.int .u8 (ofB (List.getD a0 (Int.toNat 0) 0)) : Value), fun vz wz => vz = (.int .u8 (IntKind.u8.wrap ((ofB (List.getD a0 (Int.toNat 0) 0)) - 224)) : Value), fun vz wz => vz = (.int .i64 (IntKind.i64.wrap (IntKind.u8.wrap ((ofB (List.getD a0 (Int.toNat 0) 0)) - 224))) : Value), fun vz wz => vz = (.int .i64 (IntKind.i64.wrap ((IntKind.i64.wrap (IntKind.u8.wrap ((ofB (List.getD a0 (Int.toNat 0) 0)) - 224))) * 4096)) : Value), fun vz wz => vz = (sv a0 : Value), fun vz wz => vz = (.int .u8 (ofB (List.getD a0 (Int.toNat 1) 0)) : Value), fun vz wz => vz = (.int .u8 (IntKind.u8.wrap ((ofB (List.getD a0 (Int.toNat 1) 0)) - 128)) : Value), fun vz wz => vz = (.int .i64 (IntKind.i64.wrap (IntKind.u8.wrap ((ofB (List.getD a0 (Int.toNat 1) 0)) - 128))) : Value), fun vz wz => vz = (.int .i64 (IntKind.i64.wrap ((IntKind.i64.wrap (IntKind.u8.wrap ((ofB (List.getD a0 (Int.toNat 1) 0)) - 128))) * 64)) : Value), fun vz wz => vz = (.int .i64 (IntKind.i64.wrap ((IntKind.i64.wrap ((IntKind.i64.wrap (IntKind.u8.wrap ((ofB (List.getD a0 (Int.toNat 0) 0)) - 224))) * 4096)) + (IntKind.i64.wrap ((IntKind.i64.wrap (IntKind.u8.wrap ((ofB (List.getD a0 (Int.toNat 1) 0)) - 128))) * 64)))) : Value), fun vz wz => vz = (sv a0 : Value), fun vz wz => vz = (.int .u8 (ofB (List.getD a0 (Int.toNat 2) 0)) : Value), fun vz wz => vz = (.int .u8 (IntKind.u8.wrap ((ofB (List.getD a0 (Int.toNat 2) 0)) - 128)) : Value), fun vz wz => vz = (.int .i64 (IntKind.i64.wrap (IntKind.u8.wrap ((ofB (List.getD a0 (Int.toNat 2) 0)) - 128))) : Value)] mo rfl ⟨fun _ _ _ h _ => h, fun _ _ _ h _ => h, fun _ _ _ h _ => h, fun _ _ _ h _ => h, fun _ _ _ h _ => h, fun _ _ _ h _ => h, fun _ _ _ h _ => h, fun _ _ _ h _ => h, fun _ _ _ h _ => h, fun _ _ _ h _ => h, fun _ _ _ h _ => h, fun _ _ _ h _ => h, fun _ _ _ h _ => h, fun _ _ _ h _ => h, trivial⟩ ?_ ?_
                      · refine ⟨?_, ?_, ?_, ?_, ?_, ?_, ?_, ?_, ?_, ?_, ?_, ?_, ?_, ?_, trivial⟩
                        · intro ρz wz hz hk hd
                          exact sk_val (v := .int .u8 (ofB (List.getD a0 (Int.toNat 0) 0))) (by exact xr_move rfl ((hk 4 rfl).trans e4)) rfl rfl
                        · intro ρz wz hz hk hd
                          have d55 := hd 0 rfl 55 rfl
                          exact sk_val (by exact xr_sub rfl d55 rfl) rfl rfl
                        · intro ρz wz hz hk hd
                          have d56 := hd 1 rfl 56 rfl
                          exact sk_val (by exact xr_conv rfl Try.underlying5 Try.underlying3 d56) rfl rfl
                        · intro ρz wz hz hk hd
                          have d57 := hd 2 rfl 57 rfl
                          exact sk_val (by exact xr_mul rfl d57 rfl) rfl rfl
                        · intro ρz wz hz hk hd
                          exact sk_val (v := sv a0) (by exact xr_move rfl ((hk 0 rfl).trans e0)) rfl rfl
                        · intro ρz wz hz hk hd
                          have d59 := hd 4 rfl 59 rfl
                          exact sk_val (v := .int .u8 (ofB (List.getD a0 (Int.toNat 1) 0))) (by exact xr_indexStr rfl Try.underlying9 d59 rfl (by decide) g50) rfl rfl
                        · intro ρz wz hz hk hd
                          have d60 := hd 5 rfl 60 rfl
                          exact sk_val (by exact xr_sub rfl d60 rfl) rfl rfl
                        · intro ρz wz hz hk hd
                          have d61 := hd 6 rfl 61 rfl
                          exact sk_val (by exact xr_conv rfl Try.underlying5 Try.underlying3 d61) rfl rfl
                        · intro ρz wz hz hk hd
                          have d62 := hd 7 rfl 62 rfl
                          exact sk_val (by exact xr_mul rfl d62 rfl) rfl rfl
                        · intro ρz wz hz hk hd
                          have d58 := hd 3 rfl 58 rfl
                          have d63 := hd 8 rfl 63 rfl
                          exact sk_val (by exact xr_add rfl d58 d63) rfl rfl
                        · intro ρz wz hz hk hd
                          exact sk_val (v := sv a0) (by exact xr_move rfl ((hk 0 rfl).trans e0)) rfl rfl
                        · intro ρz wz hz hk hd
                          have d65 := hd 10 rfl 65 rfl
                          exact sk_val (v := .int .u8 (ofB (List.getD a0 (Int.toNat 2) 0))) (by exact xr_indexStr rfl Try.underlying9 d65 rfl (by decide) g51) rfl rfl
                        · intro ρz wz hz hk hd
                          have d66 := hd 11 rfl 66 rfl
                          exact sk_val (by exact xr_sub rfl d66 rfl) rfl rfl
                        · intro ρz wz hz hk hd
                          have d67 := hd 12 rfl 67 rfl
                          exact sk_val (by exact xr_conv rfl Try.underlying5 Try.underlying3 d67) rfl rfl
                      · intro ρ52 w53 q54 hk hd
                        have e64 := hd 9 rfl 64 rfl
                        have e68 := hd 13 rfl 68 rfl
                        have fB := fB.gr q54
                        refine ol_val (v := .int .i64 (IntKind.i64.wrap ((IntKind.i64.wrap ((IntKind.i64.wrap ((IntKind.i64.wrap (IntKind.u8.wrap ((ofB (List.getD a0 (Int.toNat 0) 0)) - 224))) * 4096)) + (IntKind.i64.wrap ((IntKind.i64.wrap (IntKind.u8.wrap ((ofB (List.getD a0 (Int.toNat 1) 0)) - 128))) * 64)))) + (IntKind.i64.wrap (IntKind.u8.wrap ((ofB (List.getD a0 (Int.toNat 2) 0)) - 128)))))) (by exact xr_add rfl e64 e68) rfl rfl rfl ?_
                        refine ol_val (v := .int .i64 (IntKind.i64.wrap ((IntKind.i64.wrap ((IntKind.i64.wrap ((IntKind.i64.wrap (IntKind.u8.wrap ((ofB (List.getD a0 (Int.toNat 0) 0)) - 224))) * 4096)) + (IntKind.i64.wrap ((IntKind.i64.wrap (IntKind.u8.wrap ((ofB (List.getD a0 (Int.toNat 1) 0)) - 128))) * 64)))) + (IntKind.i64.wrap (IntKind.u8.wrap ((ofB (List.getD a0 (Int.toNat 2) 0)) - 128)))))) (by exact xr_assign rfl rfl) rfl rfl rfl ?_
                        refine ol_val (v := .int .i64 3) (by exact xr_assign rfl rfl) rfl rfl rfl ?_
                        refine ol_nil ?_
                        refine cw_ret ?_
                        repeat (first | with_reducible refine thn_r ?_ | with_reducible refine blk_r ?_)
                        obtain rfl := Option.some.inj h
                        have h := h20
                        obtain rfl := Option.some.inj h
                        refine fin_ret2 Try.results147 rfl rfl ?_
                        exact ⟨_, rfl, rfl, fB⟩
                    · refine cw_condF e54 c49 ?_
                      refine cw_skip ?_
                      obtain rfl := Option.some.inj h
                      refine thn_i ?_
                      exact ⟨_, rfl, fB⟩
            · refine cw_condF e36 c22 ?_
              refine cw_seq ?_
              refine cw_mid (fun ρ' w' => ρ' 0 = sv a0 ∧ ρ' 4 = .int .u8 (ofB (List.getD a0 (Int.toNat 0) 0)) ∧ ρ' 5 = .int .u8 128 ∧ ρ' 6 = .int .u8 191 ∧ ρ' 70 = .bool (if (decide ((ofB (List.getD a0 (Int.toNat 0) 0)) ≥ 240)) = true then (decide ((ofB (List.getD a0 (Int.toNat 0) 0)) ≤ 244)) else false) ∧ w12 = w') ?_ ?_
              · skip
                refine cw_region ?_
                refine ol_val (v := .int .u8 (ofB (List.getD a0 (Int.toNat 0) 0))) (by exact xr_move rfl e4) rfl rfl rfl ?_
                refine ol_val (v := .bool (decide ((ofB (List.getD a0 (Int.toNat 0) 0)) ≥ 240))) (by exact xr_geq rfl rfl rfl) rfl rfl rfl ?_
                refine ol_val (v := .bool (decide ((ofB (List.getD a0 (Int.toNat 0) 0)) ≥ 240))) (by exact xr_move rfl rfl) rfl rfl rfl ?_
                rcases bt (decide ((ofB (List.getD a0 (Int.toNat 0) 0)) ≥ 240)) with c55 | c55
                · skip
                  refine ol_gval (v := .int .u8 (ofB (List.getD a0 (Int.toNat 0) 0))) (by exact xr_move rfl e4) rfl rfl rfl rfl rfl c55 ?_
                  refine ol_gval (v := .bool (decide ((ofB (List.getD a0 (Int.toNat 0) 0)) ≤ 244))) (by exact xr_leq rfl rfl rfl) rfl rfl rfl rfl rfl c55 ?_
                  refine ol_val (v := .bool (decide ((ofB (List.getD a0 (Int.toNat 0) 0)) ≤ 244))) (by exact xr_pickT rfl rfl c55 rfl) rfl rfl rfl ?_
                  refine ol_val (v := .bool (decide ((ofB (List.getD a0 (Int.toNat 0) 0)) ≤ 244))) (by exact xr_assign rfl rfl) rfl rfl rfl ?_
                  refine ol_nil ?_
                  refine thn_i ?_
                  exact ⟨e0, e4, e5, e6, (rfl).trans (congrArg (fun z => (.bool z : Value)) (show (decide ((ofB (List.getD a0 (Int.toNat 0) 0)) ≤ 244)) = (if (decide ((ofB (List.getD a0 (Int.toNat 0) 0)) ≥ 240)) = true then (decide ((ofB (List.getD a0 (Int.toNat 0) 0)) ≤ 244)) else false) from by rw [ite_t c55])), rfl⟩
                · skip
                  refine ol_gskip rfl rfl rfl rfl rfl c55 ?_
                  refine ol_gskip rfl rfl rfl rfl rfl c55 ?_
                  refine ol_val (v := .bool false) (by exact xr_pickF rfl rfl c55 rfl) rfl rfl rfl ?_
                  refine ol_val (v := .bool false) (by exact xr_assign rfl rfl) rfl rfl rfl ?_
                  refine ol_nil ?_
                  refine thn_i ?_
                  exact ⟨e0, e4, e5, e6, (rfl).trans (congrArg (fun z => (.bool z : Value)) (show false = (if (decide ((ofB (List.getD a0 (Int.toNat 0) 0)) ≥ 240)) = true then (decide ((ofB (List.getD a0 (Int.toNat 0) 0)) ≤ 244)) else false) from by rw [ite_f c55])), rfl⟩
              · skip
                rintro ρ56 _ ⟨e0, e4, e5, e6, e70, rfl⟩
                obtain ⟨x57, j58, h59⟩ := bs h
                refine cw_mid (fun ρ' w' => ∃ x60, x57 = Sum.inr x60 ∧ Gr w w') ?_ ?_
                · have h := j58
                  rcases is h with ⟨c61, h⟩ | ⟨c61, h⟩
                  · refine cw_condT e70 c61 ?_
                    refine cw_seq ?_
                    refine cw_seq ?_
                    refine cw_region ?_
                    refine ol_val (v := .int .u8 (ofB (List.getD a0 (Int.toNat 0) 0))) (by exact xr_move rfl e4) rfl rfl rfl ?_
                    refine ol_val (v := .bool (decide ((ofB (List.getD a0 (Int.toNat 0) 0)) = 240))) (by exact xr_eqI rfl Try.underlying5 rfl rfl rfl) rfl rfl rfl ?_
                    refine ol_nil ?_
                    obtain ⟨x62, j63, h64⟩ := bs h
                    refine cw_mid (fun ρ' w' => ρ' 0 = sv a0 ∧ ρ' 4 = .int .u8 (ofB (List.getD a0 (Int.toNat 0) 0)) ∧ ρ' 5 = .int .u8 x62 ∧ ρ' 6 = .int .u8 191 ∧ Gr w w') ?_ ?_
                    · have h := j63
                      rcases is h with ⟨c65, h⟩ | ⟨c65, h⟩
                      · refine cw_condT rfl c65 ?_
                        refine cw_region ?_
                        refine ol_val (v := .int .u8 144) (by exact xr_assign rfl rfl) rfl rfl rfl ?_
                        refine ol_nil ?_
                        obtain rfl := Option.some.inj h
                        refine thn_i ?_
                        exact ⟨e0, e4, rfl, e6, fB⟩
                      · refine cw_condF rfl c65 ?_
                        refine cw_skip ?_
                        obtain rfl := Option.some.inj h
                        refine thn_i ?_
                        exact ⟨e0, e4, e5, e6, fB⟩
                    · rintro ρ66 w67 ⟨e0, e4, e5, e6, fB⟩
                      have h := h64
                      refine cw_seq ?_
                      refine cw_seq ?_
                      refine cw_region ?_
                      refine ol_val (v := .int .u8 (ofB (List.getD a0 (Int.toNat 0) 0))) (by exact xr_move rfl e4) rfl rfl rfl ?_
                      refine ol_val (v := .bool (decide ((ofB (List.getD a0 (Int.toNat 0) 0)) = 244))) (by exact xr_eqI rfl Try.underlying5 rfl rfl rfl) rfl rfl rfl ?_
                      refine ol_nil ?_
                      obtain ⟨x68, j69, h70⟩ := bs h
                      refine cw_mid (fun ρ' w' => ρ' 0 = sv a0 ∧ ρ' 4 = .int .u8 (ofB (List.getD a0 (Int.toNat 0) 0)) ∧ ρ' 5 = .int .u8 x62 ∧ ρ' 6 = .int .u8 x68 ∧ Gr w w') ?_ ?_
                      · have h := j69
                        rcases is h with ⟨c71, h⟩ | ⟨c71, h⟩
                        · refine cw_condT rfl c71 ?_
                          refine cw_region ?_
                          refine ol_val (v := .int .u8 143) (by exact xr_assign rfl rfl) rfl rfl rfl ?_
                          refine ol_nil ?_
                          obtain rfl := Option.some.inj h
                          refine thn_i ?_
                          exact ⟨e0, e4, e5, rfl, fB⟩
                        · refine cw_condF rfl c71 ?_
                          refine cw_skip ?_
                          obtain rfl := Option.some.inj h
                          refine thn_i ?_
                          exact ⟨e0, e4, e5, e6, fB⟩
                      · rintro ρ72 w73 ⟨e0, e4, e5, e6, fB⟩
                        have h := h70
                        refine cw_seq ?_
                        obtain ⟨x74, j75, h⟩ := bs h
                        refine cw_mid (fun ρ' w' => ρ' 0 = sv a0 ∧ ρ' 4 = .int .u8 (ofB (List.getD a0 (Int.toNat 0) 0)) ∧ ρ' 92 = .bool x74 ∧ Gr w73 w') ?_ ?_
                        · skip
                          refine cw_region ?_
                          refine ol_val (v := sv a0) (by exact xr_move rfl e0) rfl rfl rfl ?_
                          refine ol_val (v := .int .u8 x62) (by exact xr_move rfl e5) rfl rfl rfl ?_
                          refine ol_val (v := .int .u8 x68) (by exact xr_move rfl e6) rfl rfl rfl ?_
                          obtain ⟨t76, k77, j75⟩ := bs j75
                          refine ol_op (by exact opv_call rfl cal149 (ac rfl (ac rfl (ac rfl (ac rfl an)))) (rickyardref04_follows.ok fu _ a0 1 x62 x68 _ k77)) rfl rfl rfl ?_
                          rintro _ w79 ⟨rfl, q78⟩
                          have fB := fB.gr q78
                          refine ol_val (v := .bool t76) (by exact xr_move rfl rfl) rfl rfl rfl ?_
                          rcases is j75 with ⟨c80, j75⟩ | ⟨c80, j75⟩
                          · skip
                            refine ol_gval (v := sv a0) (by exact xr_move rfl e0) rfl rfl rfl rfl rfl c80 ?_
                            obtain ⟨t81, k82, j75⟩ := bs j75
                            refine ol_gop (by exact opv_call rfl cal149 (ac rfl (ac rfl (ac rfl (ac rfl an)))) (rickyardref04_follows.ok fu _ a0 2 128 191 _ k82)) rfl rfl rfl rfl rfl c80 ?_
                            rintro _ w84 ⟨rfl, q83⟩
                            have fB := fB.gr q83
                            refine ol_val (v := .bool t81) (by exact xr_pickT rfl rfl c80 rfl) rfl rfl rfl ?_
                            refine ol_val (v := .bool t81) (by exact xr_move rfl rfl) rfl rfl rfl ?_
                            rcases is j75 with ⟨c85, j75⟩ | ⟨c85, j75⟩
                            · skip
                              refine ol_gval (v := sv a0) (by exact xr_move rfl e0) rfl rfl rfl rfl rfl c85 ?_
                              obtain ⟨t86, k87, j75⟩ := bs j75
                              refine ol_gop (by exact opv_call rfl cal149 (ac rfl (ac rfl (ac rfl (ac rfl an)))) (rickyardref04_follows.ok fu _ a0 3 128 191 _ k87)) rfl rfl rfl rfl rfl c85 ?_
                              rintro _ w89 ⟨rfl, q88⟩
                              have fB := fB.gr q88
                              refine ol_val (v := .bool t86) (by exact xr_pickT rfl rfl c85 rfl) rfl rfl rfl ?_
                              refine ol_nil ?_
                              obtain rfl := Option.some.inj j75
                              refine thn_i ?_
                              exact ⟨e0, e4, rfl, ((q78.gr q83).gr q88)⟩
                            · skip
                              refine ol_gskip rfl rfl rfl rfl rfl c85 ?_
                              refine ol_gskip rfl rfl rfl rfl rfl c85 ?_
                              refine ol_val (v := .bool false) (by exact xr_pickF rfl rfl c85 rfl) rfl rfl rfl ?_
                              refine ol_nil ?_
                              obtain rfl := Option.some.inj j75
                              refine thn_i ?_
                              exact ⟨e0, e4, rfl, (q78.gr q83)⟩
                          · skip
                            refine ol_gskip rfl rfl rfl rfl rfl c80 ?_
                            refine ol_gskip rfl rfl rfl rfl rfl c80 ?_
                            refine ol_val (v := .bool false) (by exact xr_pickF rfl rfl c80 rfl) rfl rfl rfl ?_
                            refine ol_val (v := .bool false) (by exact xr_move rfl rfl) rfl rfl rfl ?_
                            refine ol_gskip rfl rfl rfl rfl rfl rfl ?_
                            refine ol_gskip rfl rfl rfl rfl rfl rfl ?_
                            refine ol_val (v := .bool false) (by exact xr_pickF rfl rfl rfl rfl) rfl rfl rfl ?_
                            refine ol_nil ?_
                            obtain rfl := Option.some.inj j75
                            refine thn_i ?_
                            exact ⟨e0, e4, rfl, q78⟩
                        · skip
                          rintro ρ90 w91 ⟨e0, e4, e92, q92⟩
                          have fB := fB.gr q92
                          rcases is h with ⟨c93, h⟩ | ⟨c93, h⟩
                          · refine cw_condT e92 c93 ?_
                            refine cw_seq ?_
                            obtain ⟨g94, h⟩ := gs h
                            obtain ⟨g95, h⟩ := gs h
                            obtain ⟨g96, h⟩ := gs h
                            refine cw_drawL 20 [fun vz wz => vz = (.int .u8 (ofB (List.getD a0 (Int.toNat 0) 0)) : Value), fun vz wz => vz = (.int .u8 (IntKind.u8.wrap ((ofB (List.getD a0 (Int.toNat 0) 0)) - 240)) : Value), fun vz wz => vz = (.int .i64 (IntKind.i64.wrap (IntKind.u8.wrap ((ofB (List.getD a0 (Int.toNat 0) 0)) - 240))) : Value), fun vz wz => vz = (.int .i64 (IntKind.i64.wrap ((IntKind.i64.wrap (IntKind.u8.wrap ((ofB (List.getD a0 (Int.toNat 0) 0)) - 240))) * 262144)) : Value), fun vz wz => vz = (sv a0 : Value), fun vz wz => vz = (.int .u8 (ofB (List.getD a0 (Int.toNat 1) 0)) : Value), fun vz wz => vz = (.int .u8 (IntKind.u8.wrap ((ofB (List.getD a0 (Int.toNat 1) 0)) - 128)) : Value), fun vz wz => vz = (.int .i64 (IntKind.i64.wrap (IntKind.u8.wrap ((ofB (List.getD a0 (Int.toNat 1) 0)) - 128))) : Value), fun vz wz => vz = (.int .i64 (IntKind.i64.wrap ((IntKind.i64.wrap (IntKind.u8.wrap ((ofB (List.getD a0 (Int.toNat 1) 0)) - 128))) * 4096)) : Value), fun vz wz => vz = (.int .i64 (IntKind.i64.wrap ((IntKind.i64.wrap ((IntKind.i64.wrap (IntKind.u8.wrap ((ofB (List.getD a0 (Int.toNat 0) 0)) - 240))) * 262144)) + (IntKind.i64.wrap ((IntKind.i64.wrap (IntKind.u8.wrap ((ofB (List.getD a0 (Int.toNat 1) 0)) - 128))) * 4096)))) : Value), fun vz wz => vz = (sv a0 : Value), fun vz wz => vz = (.int .u8 (ofB (List.getD a0 (Int.toNat 2) 0)) : Value), fun vz wz => vz = (.int .u8 (IntKind.u8.wrap ((ofB (List.getD a0 (Int.toNat 2) 0)) - 128)) : Value), fun vz wz => vz = (.int .i64 (IntKind.i64.wrap (IntKind.u8.wrap ((ofB (List.getD a0 (Int.toNat 2) 0)) - 128))) : Value), fun vz wz => vz = (.int .i64 (IntKind.i64.wrap ((IntKind.i64.wrap (IntKind.u8.wrap ((ofB (List.getD a0 (Int.toNat 2) 0)) - 128))) * 64)) : Value), fun vz wz => vz = (.int .i64 (IntKind.i64.wrap ((IntKind.i64.wrap ((IntKind.i64.wrap ((IntKind.i64.wrap (IntKind.u8.wrap ((ofB (List.getD a0 (Int.toNat 0) 0)) - 240))) * 262144)) + (IntKind.i64.wrap ((IntKind.i64.wrap (IntKind.u8.wrap ((ofB (List.getD a0 (Int.toNat 1) 0)) - 128))) * 4096)))) + (IntKind.i64.wrap ((IntKind.i64.wrap (IntKind.u8.wrap ((ofB (List.getD a0 (Int.toNat 2) 0)) - 128))) * 64)))) : Value), fun vz wz => vz = (sv a0 : Value), fun vz wz => vz = (.int .u8 (ofB (List.getD a0 (Int.toNat 3) 0)) : Value), fun vz wz => vz = (.int .u8 (IntKind.u8.wrap ((ofB (List.getD a0 (Int.toNat 3) 0)) - 128)) : Value), fun vz wz => vz = (.int .i64 (IntKind.i64.wrap (IntKind.u8.wrap ((ofB (List.getD a0 (Int.toNat 3) 0)) - 128))) : Value)] mo rfl ⟨fun _ _ _ h _ => h, fun _ _ _ h _ => h, fun _ _ _ h _ => h, fun _ _ _ h _ => h, fun _ _ _ h _ => h, fun _ _ _ h _ => h, fun _ _ _ h _ => h, fun _ _ _ h _ => h, fun _ _ _ h _ => h, fun _ _ _ h _ => h, fun _ _ _ h _ => h, fun _ _ _ h _ => h, fun _ _ _ h _ => h, fun _ _ _ h _ => h, fun _ _ _ h _ => h, fun _ _ _ h _ => h, fun _ _ _ h _ => h, fun _ _ _ h _ => h, fun _ _ _ h _ => h, fun _ _ _ h _ => h, trivial⟩ ?_ ?_
                            · refine ⟨?_, ?_, ?_, ?_, ?_, ?_, ?_, ?_, ?_, ?_, ?_, ?_, ?_, ?_, ?_, ?_, ?_, ?_, ?_, ?_, trivial⟩
                              · intro ρz wz hz hk hd
                                exact sk_val (v := .int .u8 (ofB (List.getD a0 (Int.toNat 0) 0))) (by exact xr_move rfl ((hk 4 rfl).trans e4)) rfl rfl
                              · intro ρz wz hz hk hd
                                have d93 := hd 0 rfl 93 rfl
                                exact sk_val (by exact xr_sub rfl d93 rfl) rfl rfl
                              · intro ρz wz hz hk hd
                                have d94 := hd 1 rfl 94 rfl
                                exact sk_val (by exact xr_conv rfl Try.underlying5 Try.underlying3 d94) rfl rfl
                              · intro ρz wz hz hk hd
                                have d95 := hd 2 rfl 95 rfl
                                exact sk_val (by exact xr_mul rfl d95 rfl) rfl rfl
                              · intro ρz wz hz hk hd
                                exact sk_val (v := sv a0) (by exact xr_move rfl ((hk 0 rfl).trans e0)) rfl rfl
                              · intro ρz wz hz hk hd
                                have d97 := hd 4 rfl 97 rfl
                                exact sk_val (v := .int .u8 (ofB (List.getD a0 (Int.toNat 1) 0))) (by exact xr_indexStr rfl Try.underlying9 d97 rfl (by decide) g94) rfl rfl
                              · intro ρz wz hz hk hd
                                have d98 := hd 5 rfl 98 rfl
                                exact sk_val (by exact xr_sub rfl d98 rfl) rfl rfl
                              · intro ρz wz hz hk hd
                                have d99 := hd 6 rfl 99 rfl
                                exact sk_val (by exact xr_conv rfl Try.underlying5 Try.underlying3 d99) rfl rfl
                              · intro ρz wz hz hk hd
                                have d100 := hd 7 rfl 100 rfl
                                exact sk_val (by exact xr_mul rfl d100 rfl) rfl rfl
                              · intro ρz wz hz hk hd
                                have d96 := hd 3 rfl 96 rfl
                                have d101 := hd 8 rfl 101 rfl
                                exact sk_val (by exact xr_add rfl d96 d101) rfl rfl
                              · intro ρz wz hz hk hd
                                exact sk_val (v := sv a0) (by exact xr_move rfl ((hk 0 rfl).trans e0)) rfl rfl
                              · intro ρz wz hz hk hd
                                have d103 := hd 10 rfl 103 rfl
                                exact sk_val (v := .int .u8 (ofB (List.getD a0 (Int.toNat 2) 0))) (by exact xr_indexStr rfl Try.underlying9 d103 rfl (by decide) g95) rfl rfl
                              · intro ρz wz hz hk hd
                                have d104 := hd 11 rfl 104 rfl
                                exact sk_val (by exact xr_sub rfl d104 rfl) rfl rfl
                              · intro ρz wz hz hk hd
                                have d105 := hd 12 rfl 105 rfl
                                exact sk_val (by exact xr_conv rfl Try.underlying5 Try.underlying3 d105) rfl rfl
                              · intro ρz wz hz hk hd
                                have d106 := hd 13 rfl 106 rfl
                                exact sk_val (by exact xr_mul rfl d106 rfl) rfl rfl
                              · intro ρz wz hz hk hd
                                have d102 := hd 9 rfl 102 rfl
                                have d107 := hd 14 rfl 107 rfl
                                exact sk_val (by exact xr_add rfl d102 d107) rfl rfl
                              · intro ρz wz hz hk hd
                                exact sk_val (v := sv a0) (by exact xr_move rfl ((hk 0 rfl).trans e0)) rfl rfl
                              · intro ρz wz hz hk hd
                                have d109 := hd 16 rfl 109 rfl
                                exact sk_val (v := .int .u8 (ofB (List.getD a0 (Int.toNat 3) 0))) (by exact xr_indexStr rfl Try.underlying9 d109 rfl (by decide) g96) rfl rfl
                              · intro ρz wz hz hk hd
                                have d110 := hd 17 rfl 110 rfl
                                exact sk_val (by exact xr_sub rfl d110 rfl) rfl rfl
                              · intro ρz wz hz hk hd
                                have d111 := hd 18 rfl 111 rfl
                                exact sk_val (by exact xr_conv rfl Try.underlying5 Try.underlying3 d111) rfl rfl
                            · intro ρ97 w98 q99 hk hd
                              have e108 := hd 15 rfl 108 rfl
                              have e112 := hd 19 rfl 112 rfl
                              have fB := fB.gr q99
                              refine ol_val (v := .int .i64 (IntKind.i64.wrap ((IntKind.i64.wrap ((IntKind.i64.wrap ((IntKind.i64.wrap ((IntKind.i64.wrap (IntKind.u8.wrap ((ofB (List.getD a0 (Int.toNat 0) 0)) - 240))) * 262144)) + (IntKind.i64.wrap ((IntKind.i64.wrap (IntKind.u8.wrap ((ofB (List.getD a0 (Int.toNat 1) 0)) - 128))) * 4096)))) + (IntKind.i64.wrap ((IntKind.i64.wrap (IntKind.u8.wrap ((ofB (List.getD a0 (Int.toNat 2) 0)) - 128))) * 64)))) + (IntKind.i64.wrap (IntKind.u8.wrap ((ofB (List.getD a0 (Int.toNat 3) 0)) - 128)))))) (by exact xr_add rfl e108 e112) rfl rfl rfl ?_
                              refine ol_val (v := .int .i64 (IntKind.i64.wrap ((IntKind.i64.wrap ((IntKind.i64.wrap ((IntKind.i64.wrap ((IntKind.i64.wrap (IntKind.u8.wrap ((ofB (List.getD a0 (Int.toNat 0) 0)) - 240))) * 262144)) + (IntKind.i64.wrap ((IntKind.i64.wrap (IntKind.u8.wrap ((ofB (List.getD a0 (Int.toNat 1) 0)) - 128))) * 4096)))) + (IntKind.i64.wrap ((IntKind.i64.wrap (IntKind.u8.wrap ((ofB (List.getD a0 (Int.toNat 2) 0)) - 128))) * 64)))) + (IntKind.i64.wrap (IntKind.u8.wrap ((ofB (List.getD a0 (Int.toNat 3) 0)) - 128)))))) (by exact xr_assign rfl rfl) rfl rfl rfl ?_
                              refine ol_val (v := .int .i64 4) (by exact xr_assign rfl rfl) rfl rfl rfl ?_
                              refine ol_nil ?_
                              refine cw_ret ?_
                              repeat (first | with_reducible refine thn_r ?_ | with_reducible refine blk_r ?_)
                              obtain rfl := Option.some.inj h
                              have h := h59
                              obtain rfl := Option.some.inj h
                              have h := h20
                              obtain rfl := Option.some.inj h
                              refine fin_ret2 Try.results147 rfl rfl ?_
                              exact ⟨_, rfl, rfl, fB⟩
                          · refine cw_condF e92 c93 ?_
                            refine cw_skip ?_
                            obtain rfl := Option.some.inj h
                            refine thn_i ?_
                            exact ⟨_, rfl, fB⟩
                  · refine cw_condF e70 c61 ?_
                    refine cw_skip ?_
                    obtain rfl := Option.some.inj h
                    refine thn_i ?_
                    exact ⟨_, rfl, fB⟩
                · rintro ρ100 w101 ⟨x60, rfl, fB⟩
                  have h := h59
                  obtain rfl := Option.some.inj h
                  refine thn_i ?_
                  exact ⟨_, rfl, fB⟩
          · rintro ρ102 w103 ⟨x21, rfl, fB⟩
            have h := h20
            refine blk_i ?_
            refine cw_seq ?_
            refine cw_region ?_
            refine ol_val (v := .int .i64 65533) (by exact xr_assign rfl rfl) rfl rfl rfl ?_
            refine ol_val (v := .int .i64 1) (by exact xr_assign rfl rfl) rfl rfl rfl ?_
            refine ol_nil ?_
            refine cw_ret ?_
            repeat (first | with_reducible refine thn_r ?_ | with_reducible refine blk_r ?_)
            obtain rfl := Option.some.inj h
            refine fin_ret2 Try.results147 rfl rfl ?_
            exact ⟨_, rfl, rfl, fB⟩
end Go.Proofs.Ytjhajfkfhdnciaa

/- rickyard/rickyardref04.Runes: its model, and that the Go function computes it: written by gen.py. -/
set_option linter.unusedVariables false
namespace Go.Proofs.Ytjhajfkfhdnciaa
open Go Go.Xw
def rickyardref04_Runes.s0 (fu : Nat) : ((List UInt8) × (List Int)) → Option (Sum (List Int) ((List UInt8) × (List Int))) := fun s4 => (if (decide ((List.length s4.1 : Int) > 0)) = true then ((rickyardref04_First.f fu s4.1 : Option (Int × Int)).bind fun t18 => (if List.length s4.2 + List.length [t18.1] ≤ LIM then (if 0 ≤ t18.2 ∧ t18.2 ≤ (List.length s4.1 : Int) then some (Sum.inr ((cut s4.1 t18.2 (List.length s4.1 : Int)), (s4.2 ++ [t18.1]))) else none) else none)) else some (Sum.inl (s4.2)))
def rickyardref04_Runes.f (fu : Nat) (a0 : List UInt8) : Option (List Int) := ((loopM (rickyardref04_Runes.s0 fu) fu (a0, [])).bind fun e5 => some (e5))
set_option maxRecDepth 100000 in
set_option maxHeartbeats 400000 in
theorem rickyardref04_Runes.ok (fu : Nat) (w : World) (a0 : List UInt8) (r : (List Int)) (h : rickyardref04_Runes.f fu a0 = some r) :
    Calls Try.prog 139 (([sv a0] : List Value).toArray) w (fun e w' => ∃ v, e = .returned v ∧ ∃ u1 : Value, ∃ o2 : Own (kI .i64) 3 w' w.heap.size u1 r, v = u1 ∧ Gr w w') := by
  unfold rickyardref04_Runes.f at h
  have fB : Gr w w := Fr.refl _ _
  refine calls_cw Try.func139 rfl Try.ntmps139 rfl ?_
  refine cw_seq ?_
  refine cw_region ?_
  refine ol_val (v := .slice none 0 0) (by exact xr_assign rfl rfl) rfl rfl rfl ?_
  refine ol_nil ?_
  refine cw_seq ?_
  refine cw_region ?_
  refine ol_val (v := .slice none 0 0) (by exact xr_assign rfl rfl) rfl rfl rfl ?_
  refine ol_nil ?_
  refine cw_seq ?_
  obtain ⟨e5, l6, h7⟩ := bs h
  refine cw_mid (fun ρ' w' => ∃ v8 : Value, ∃ o9 : Own (kI .i64) 3 w' w.heap.size v8 e5, ρ' 3 = v8 ∧ Gr w w') ?_ ?_
  · refine cw_block ?_
    refine cw_round (fun (s4 : (List UInt8) × (List Int)) ρ' w' => ∃ v11 : Value, ∃ o12 : Own (kI .i64) 3 w' w.heap.size v11 s4.2, ρ' 0 = sv s4.1 ∧ ρ' 3 = v11 ∧ Gr w w') l6 ?_ ?_
    · skip
      exact ⟨(.slice none 0 0), Own.nil _ _ _ _, rfl, rfl, fB⟩
    · rintro s4 x16 ρ14 w15 ⟨v11, o12, e0, e3, fB⟩ h
      unfold rickyardref04_Runes.s0 at h
      refine cw_seq ?_
      refine cw_seq ?_
      refine cw_region ?_
      refine ol_val (v := sv s4.1) (by exact xr_move rfl e0) rfl rfl rfl ?_
      refine ol_val (v := .int .i64 (List.length s4.1 : Int)) (by exact xr_lenStr rfl Try.underlying9 rfl) rfl rfl rfl ?_
      refine ol_val (v := .bool (decide ((List.length s4.1 : Int) > 0))) (by exact xr_gtr rfl rfl rfl) rfl rfl rfl ?_
      refine ol_nil ?_
      rcases is h with ⟨c17, h⟩ | ⟨c17, h⟩
      · refine cw_condT rfl c17 ?_
        refine cw_skip ?_
        refine cw_block ?_
        refine cw_seq ?_
        refine cw_region ?_
        refine ol_val (v := sv s4.1) (by exact xr_move rfl e0) rfl rfl rfl ?_
        obtain ⟨t18, k19, h⟩ := bs h
        refine ol_op (by exact opv_call rfl cal147 (ac rfl an) (rickyardref04_First.ok fu _ s4.1 _ k19)) rfl rfl rfl ?_
        rintro _ w21 ⟨rfl, q20⟩
        have o12 := o12.gr q20
        have fB := fB.gr q20
        refine ol_val (v := .tuple #[.int .i64 t18.1, .int .i64 t18.2]) (by exact xr_move rfl rfl) rfl rfl rfl ?_
        refine ol_val (v := .int .i64 t18.1) (by exact xr_extract rfl rfl rfl) rfl rfl rfl ?_
        refine ol_val (v := .int .i64 t18.2) (by exact xr_extract rfl rfl rfl) rfl rfl rfl ?_
        refine ol_val (v := .int .i64 t18.1) (by exact xr_assign rfl rfl) rfl rfl rfl ?_
        refine ol_val (v := .int .i64 t18.2) (by exact xr_assign rfl rfl) rfl rfl rfl ?_
        refine ol_nil ?_
        refine cw_seq ?_
        refine cw_region ?_
        refine ol_val (v := v11) (by exact xr_move rfl e3) rfl rfl rfl ?_
        refine ol_val (v := .int .i64 t18.1) (by exact xr_move rfl rfl) rfl rfl rfl ?_
        refine ol_op (by exact opv_buildSlice (K := (kI .i64)) (xs := [t18.1]) (vals := [.int .i64 t18.1]) rfl Try.underlying45 el3 rfl rfl ⟨rfl, rfl, trivial⟩ rfl rfl rfl fB.size) rfl rfl rfl ?_
        rintro v22 w27 ⟨o24, q23, z25⟩
        have a28 := OffV.new o12 z25
        have o12 := o12.gr q23
        have fB := fB.gr q23
        obtain ⟨g33, h⟩ := gs h
        have f35 := o12.geO
        refine ol_op (by exact opv_append (K := (kI .i64)) rfl Try.underlying45 el3 rfl rfl rfl rfl rfl o12 o24.rd g33 fB.size) rfl rfl rfl ?_
        rintro v29 w36 ⟨o30, q31, n32⟩
        have fB := fB.wrO q31 f35
        refine ol_val (v := v29) (by exact xr_assign rfl rfl) rfl rfl rfl ?_
        refine ol_nil ?_
        refine cw_region ?_
        refine ol_val (v := sv s4.1) (by exact xr_move rfl e0) rfl rfl rfl ?_
        refine ol_val (v := .int .i64 t18.2) (by exact xr_move rfl rfl) rfl rfl rfl ?_
        obtain ⟨g37, h⟩ := gs h
        refine ol_val (v := sv (cut s4.1 t18.2 (List.length s4.1 : Int))) (by exact xr_str_l rfl Try.underlying9 rfl rfl g37.1 g37.2) rfl rfl rfl ?_
        refine ol_val (v := sv (cut s4.1 t18.2 (List.length s4.1 : Int))) (by exact xr_assign rfl rfl) rfl rfl rfl ?_
        refine ol_nil ?_
        refine blk_i ?_
        obtain rfl := Option.some.inj h
        refine lp_in ?_
        exact ⟨v29, o30, rfl, rfl, fB⟩
      · refine cw_condF rfl c17 ?_
        refine cw_exit ?_
        repeat (first | with_reducible refine thn_e ?_ | with_reducible refine blk_e rfl ?_)
        obtain rfl := Option.some.inj h
        refine lp_exit ?_
        rintro rfl
        refine thn_x ?_
        exact ⟨v11, o12, e3, fB⟩
  · rintro ρ38 w39 ⟨v8, o9, e3, fB⟩
    have h := h7
    refine cw_seq ?_
    refine cw_region ?_
    refine ol_val (v := v8) (by exact xr_move rfl e3) rfl rfl rfl ?_
    refine ol_val (v := v8) (by exact xr_assign rfl rfl) rfl rfl rfl ?_
    refine ol_nil ?_
    refine cw_ret ?_
    repeat (first | with_reducible refine thn_r ?_ | with_reducible refine blk_r ?_)
    obtain rfl := Option.some.inj h
    refine fin_ret1 Try.results139 rfl ?_
    exact ⟨_, rfl, v8, o9, rfl, fB⟩
end Go.Proofs.Ytjhajfkfhdnciaa

/- rickyard/rickyardref04.Of: its model, and that the Go function computes it: written by gen.py. -/
set_option linter.unusedVariables false
namespace Go.Proofs.Ytjhajfkfhdnciaa
open Go Go.Xw
def rickyardref04_Of.f (fu : Nat) (a0 : Int) : Option Bool := some ((if (decide (a0 ≥ 97)) = true then (if (decide (a0 ≤ 122)) = true then true else (if (decide (a0 ≥ 65)) = true then (if (decide (a0 ≤ 90)) = true then true else (if (decide (a0 ≥ 48)) = true then (if (decide (a0 ≤ 57)) = true then true else (if (decide (a0 = 45)) = true then true else (if (decide (a0 = 95)) = true then true else (if (decide (a0 ≥ 161)) = true then (decide (a0 ≤ 65519)) else false)))) else (if (decide (a0 = 45)) = true then true else (if (decide (a0 = 95)) = true then true else (if (decide (a0 ≥ 161)) = true then (decide (a0 ≤ 65519)) else false))))) else (if (decide (a0 ≥ 48)) = true then (if (decide (a0 ≤ 57)) = true then true else (if (decide (a0 = 45)) = true then true else (if (decide (a0 = 95)) = true then true else (if (decide (a0 ≥ 161)) = true then (decide (a0 ≤ 65519)) else false)))) else (if (decide (a0 = 45)) = true then true else (if (decide (a0 = 95)) = true then true else (if (decide (a0 ≥ 161)) = true then (decide (a0 ≤ 65519)) else false)))))) else (if (decide (a0 ≥ 65)) = true then (if (decide (a0 ≤ 90)) = true then true else (if (decide (a0 ≥ 48)) = true then (if (decide (a0 ≤ 57)) = true then true else (if (decide (a0 = 45)) = true then true else (if (decide (a0 = 95)) = true then true else (if (decide (a0 ≥ 161)) = true then (decide (a0 ≤ 65519)) else false)))) else (if (decide (a0 = 45)) = true then true else (if (decide (a0 = 95)) = true then true else (if (decide (a0 ≥ 161)) = true then (decide (a0 ≤ 65519)) else false))))) else (if (decide (a0 ≥ 48)) = true then (if (decide (a0 ≤ 57)) = true then true else (if (decide (a0 = 45)) = true then true else (if (decide (a0 = 95)) = true then true else (if (decide (a0 ≥ 161)) = true then (decide (a0 ≤ 65519)) else false)))) else (if (decide (a0 = 45)) = true then true else (if (decide (a0 = 95)) = true then true else (if (decide (a0 ≥ 161)) = true then (decide (a0 ≤ 65519)) else false)))))))
set_option maxRecDepth 100000 in
set_option maxHeartbeats 400000 in
theorem rickyardref04_Of.ok (fu : Nat) (w : World) (a0 : Int) (r : Bool) (h : rickyardref04_Of.f fu a0 = some r) :
    Calls Try.prog 140 (([.int .i64 a0] : List Value).toArray) w (fun e w' => ∃ v, e = .returned v ∧ v = .bool r ∧ Gr w w') := by
  unfold rickyardref04_Of.f at h
  have fB : Gr w w := Fr.refl _ _
  refine calls_cw Try.func140 rfl Try.ntmps140 rfl ?_
  refine cw_seq ?_
  refine cw_region ?_
  refine ol_val (v := .bool false) (by exact xr_assign rfl rfl) rfl rfl rfl ?_
  refine ol_nil ?_
  refine cw_seq ?_
  refine cw_mid (fun ρ' w' => ρ' 2 = .bool (if (decide (a0 ≥ 97)) = true then (if (decide (a0 ≤ 122)) = true then true else (if (decide (a0 ≥ 65)) = true then (if (decide (a0 ≤ 90)) = true then true else (if (decide (a0 ≥ 48)) = true then (if (decide (a0 ≤ 57)) = true then true else (if (decide (a0 = 45)) = true then true else (if (decide (a0 = 95)) = true then true else (if (decide (a0 ≥ 161)) = true then (decide (a0 ≤ 65519)) else false)))) else (if (decide (a0 = 45)) = true then true else (if (decide (a0 = 95)) = true then true else (if (decide (a0 ≥ 161)) = true then (decide (a0 ≤ 65519)) else false))))) else (if (decide (a0 ≥ 48)) = true then (if (decide (a0 ≤ 57)) = true then true else (if (decide (a0 = 45)) = true then true else (if (decide (a0 = 95)) = true then true else (if (decide (a0 ≥ 161)) = true then (decide (a0 ≤ 65519)) else false)))) else (if (decide (a0 = 45)) = true then true else (if (decide (a0 = 95)) = true then true else (if (decide (a0 ≥ 161)) = true then (decide (a0 ≤ 65519)) else false)))))) else (if (decide (a0 ≥ 65)) = true then (if (decide (a0 ≤ 90)) = true then true else (if (decide (a0 ≥ 48)) = true then (if (decide (a0 ≤ 57)) = true then true else (if (decide (a0 = 45)) = true then true else (if (decide (a0 = 95)) = true then true else (if (decide (a0 ≥ 161)) = true then (decide (a0 ≤ 65519)) else false)))) else (if (decide (a0 = 45)) = true then true else (if (decide (a0 = 95)) = true then true else (if (decide (a0 ≥ 161)) = true then (decide (a0 ≤ 65519)) else false))))) else (if (decide (a0 ≥ 48)) = true then (if (decide (a0 ≤ 57)) = true then true else (if (decide (a0 = 45)) = true then true else (if (decide (a0 = 95)) = true then true else (if (decide (a0 ≥ 161)) = true then (decide (a0 ≤ 65519)) else false)))) else (if (decide (a0 = 45)) = true then true else (if (decide (a0 = 95)) = true then true else (if (decide (a0 ≥ 161)) = true then (decide (a0 ≤ 65519)) else false)))))) ∧ w = w') ?_ ?_
  · skip
    refine cw_region ?_
    refine ol_val (v := .int .i64 a0) (by exact xr_move rfl rfl) rfl rfl rfl ?_
    refine ol_val (v := .bool (decide (a0 ≥ 97))) (by exact xr_geq rfl rfl rfl) rfl rfl rfl ?_
    refine ol_val (v := .bool (decide (a0 ≥ 97))) (by exact xr_move rfl rfl) rfl rfl rfl ?_
    rcases bt (decide (a0 ≥ 97)) with c1 | c1
    · skip
      refine ol_gval (v := .int .i64 a0) (by exact xr_move rfl rfl) rfl rfl rfl rfl rfl c1 ?_
      refine ol_gval (v := .bool (decide (a0 ≤ 122))) (by exact xr_leq rfl rfl rfl) rfl rfl rfl rfl rfl c1 ?_
      refine ol_val (v := .bool (decide (a0 ≤ 122))) (by exact xr_pickT rfl rfl c1 rfl) rfl rfl rfl ?_
      refine ol_val (v := .bool (decide (a0 ≤ 122))) (by exact xr_move rfl rfl) rfl rfl rfl ?_
      rcases bt (decide (a0 ≤ 122)) with c2 | c2
      · skip
        refine ol_gskip rfl rfl rfl rfl rfl c2 ?_
        refine ol_gskip rfl rfl rfl rfl rfl c2 ?_
        refine ol_gskip rfl rfl rfl rfl rfl c2 ?_
        refine ol_uskip rfl rfl rfl rfl rfl ?_
        refine ol_uskip rfl rfl rfl rfl rfl ?_
        refine ol_gskip rfl rfl rfl rfl rfl c2 ?_
        refine ol_val (v := .bool true) (by exact xr_pickT rfl rfl c2 rfl) rfl rfl rfl ?_
        refine ol_val (v := .bool true) (by exact xr_move rfl rfl) rfl rfl rfl ?_
        refine ol_gskip rfl rfl rfl rfl rfl rfl ?_
        refine ol_gskip rfl rfl rfl rfl rfl rfl ?_
        refine ol_gskip rfl rfl rfl rfl rfl rfl ?_
        refine ol_uskip rfl rfl rfl rfl rfl ?_
        refine ol_uskip rfl rfl rfl rfl rfl ?_
        refine ol_gskip rfl rfl rfl rfl rfl rfl ?_
        refine ol_val (v := .bool true) (by exact xr_pickT rfl rfl rfl rfl) rfl rfl rfl ?_
        refine ol_val (v := .bool true) (by exact xr_move rfl rfl) rfl rfl rfl ?_
        refine ol_gskip rfl rfl rfl rfl rfl rfl ?_
        refine ol_gskip rfl rfl rfl rfl rfl rfl ?_
        refine ol_val (v := .bool true) (by exact xr_pickT rfl rfl rfl rfl) rfl rfl rfl ?_
        refine ol_val (v := .bool true) (by exact xr_move rfl rfl) rfl rfl rfl ?_
        refine ol_gskip rfl rfl rfl rfl rfl rfl ?_
        refine ol_gskip rfl rfl rfl rfl rfl rfl ?_
        refine ol_val (v := .bool true) (by exact xr_pickT rfl rfl rfl rfl) rfl rfl rfl ?_
        refine ol_val (v := .bool true) (by exact xr_move rfl rfl) rfl rfl rfl ?_
        refine ol_gskip rfl rfl rfl rfl rfl rfl ?_
        refine ol_gskip rfl rfl rfl rfl rfl rfl ?_
        refine ol_gskip rfl rfl rfl rfl rfl rfl ?_
        refine ol_uskip rfl rfl rfl rfl rfl ?_
        refine ol_uskip rfl rfl rfl rfl rfl ?_
        refine ol_gskip rfl rfl rfl rfl rfl rfl ?_
        refine ol_val (v := .bool true) (by exact xr_pickT rfl rfl rfl rfl) rfl rfl rfl ?_
        refine ol_val (v := .bool true) (by exact xr_assign rfl rfl) rfl rfl rfl ?_
        refine ol_nil ?_
        refine thn_i ?_
        exact ⟨(rfl).trans (congrArg (fun z => (.bool z : Value)) (show true = (if (decide (a0 ≥ 97)) = true then (if (decide (a0 ≤ 122)) = true then true else (if (decide (a0 ≥ 65)) = true then (if (decide (a0 ≤ 90)) = true then true else (if (decide (a0 ≥ 48)) = true then (if (decide (a0 ≤ 57)) = true then true else (if (decide (a0 = 45)) = true then true else (if (decide (a0 = 95)) = true then true else (if (decide (a0 ≥ 161)) = true then (decide (a0 ≤ 65519)) else false)))) else (if (decide (a0 = 45)) = true then true else (if (decide (a0 = 95)) = true then true else (if (decide (a0 ≥ 161)) = true then (decide (a0 ≤ 65519)) else false))))) else (if (decide (a0 ≥ 48)) = true then (if (decide (a0 ≤ 57)) = true then true else (if (decide (a0 = 45)) = true then true else (if (decide (a0 = 95)) = true then true else (if (decide (a0 ≥ 161)) = true then (decide (a0 ≤ 65519)) else false)))) else (if (decide (a0 = 45)) = true then true else (if (decide (a0 = 95)) = true then true else (if (decide (a0 ≥ 161)) = true then (decide (a0 ≤ 65519)) else false)))))) else (if (decide (a0 ≥ 65)) = true then (if (decide (a0 ≤ 90)) = true then true else (if (decide (a0 ≥ 48)) = true then (if (decide (a0 ≤ 57)) = true then true else (if (decide (a0 = 45)) = true then true else (if (decide (a0 = 95)) = true then true else (if (decide (a0 ≥ 161)) = true then (decide (a0 ≤ 65519)) else false)))) else (if (decide (a0 = 45)) = true then true else (if (decide (a0 = 95)) = true then true else (if (decide (a0 ≥ 161)) = true then (decide (a0 ≤ 65519)) else false))))) else (if (decide (a0 ≥ 48)) = true then (if (decide (a0 ≤ 57)) = true then true else (if (decide (a0 = 45)) = true then true else (if (decide (a0 = 95)) = true then true else (if (decide (a0 ≥ 161)) = true then (decide (a0 ≤ 65519)) else false)))) else (if (decide (a0 = 45)) = true then true else (if (decide (a0 = 95)) = true then true else (if (decide (a0 ≥ 161)) = true then (decide (a0 ≤ 65519)) else false)))))) from by rw [ite_t c1, ite_t c2])), rfl⟩
      · skip
        refine ol_gval (v := .int .i64 a0) (by exact xr_move rfl rfl) rfl rfl rfl rfl rfl c2 ?_
        refine ol_gval (v := .bool (decide (a0 ≥ 65))) (by exact xr_geq rfl rfl rfl) rfl rfl rfl rfl rfl c2 ?_
        refine ol_gval (v := .bool (decide (a0 ≥ 65))) (by exact xr_move rfl rfl) rfl rfl rfl rfl rfl c2 ?_
        rcases bt (decide (a0 ≥ 65)) with c3 | c3
        · skip
          refine ol_gval (v := .int .i64 a0) (by exact xr_move rfl rfl) rfl rfl rfl rfl rfl c3 ?_
          refine ol_gval (v := .bool (decide (a0 ≤ 90))) (by exact xr_leq rfl rfl rfl) rfl rfl rfl rfl rfl c3 ?_
          refine ol_gval (v := .bool (decide (a0 ≤ 90))) (by exact xr_pickT rfl rfl c3 rfl) rfl rfl rfl rfl rfl c2 ?_
          refine ol_val (v := .bool (decide (a0 ≤ 90))) (by exact xr_pickF rfl rfl c2 rfl) rfl rfl rfl ?_
          refine ol_val (v := .bool (decide (a0 ≤ 90))) (by exact xr_move rfl rfl) rfl rfl rfl ?_
          rcases bt (decide (a0 ≤ 90)) with c4 | c4
          · skip
            refine ol_gskip rfl rfl rfl rfl rfl c4 ?_
            refine ol_gskip rfl rfl rfl rfl rfl c4 ?_
            refine ol_gskip rfl rfl rfl rfl rfl c4 ?_
            refine ol_uskip rfl rfl rfl rfl rfl ?_
            refine ol_uskip rfl rfl rfl rfl rfl ?_
            refine ol_gskip rfl rfl rfl rfl rfl c4 ?_
            refine ol_val (v := .bool true) (by exact xr_pickT rfl rfl c4 rfl) rfl rfl rfl ?_
            refine ol_val (v := .bool true) (by exact xr_move rfl rfl) rfl rfl rfl ?_
            refine ol_gskip rfl rfl rfl rfl rfl rfl ?_
            refine ol_gskip rfl rfl rfl rfl rfl rfl ?_
            refine ol_val (v := .bool true) (by exact xr_pickT rfl rfl rfl rfl) rfl rfl rfl ?_
            refine ol_val (v := .bool true) (by exact xr_move rfl rfl) rfl rfl rfl ?_
            refine ol_gskip rfl rfl rfl rfl rfl rfl ?_
            refine ol_gskip rfl rfl rfl rfl rfl rfl ?_
            refine ol_val (v := .bool true) (by exact xr_pickT rfl rfl rfl rfl) rfl rfl rfl ?_
            refine ol_val (v := .bool true) (by exact xr_move rfl rfl) rfl rfl rfl ?_
            refine ol_gskip rfl rfl rfl rfl rfl rfl ?_
            refine ol_gskip rfl rfl rfl rfl rfl rfl ?_
            refine ol_gskip rfl rfl rfl rfl rfl rfl ?_
            refine ol_uskip rfl rfl rfl rfl rfl ?_
            refine ol_uskip rfl rfl rfl rfl rfl ?_
            refine ol_gskip rfl rfl rfl rfl rfl rfl ?_
            refine ol_val (v := .bool true) (by exact xr_pickT rfl rfl rfl rfl) rfl rfl rfl ?_
            refine ol_val (v := .bool true) (by exact xr_assign rfl rfl) rfl rfl rfl ?_
            refine ol_nil ?_
            refine thn_i ?_
            exact ⟨(rfl).trans (congrArg (fun z => (.bool z : Value)) (show true = (if (decide (a0 ≥ 97)) = true then (if (decide (a0 ≤ 122)) = true then true else (if (decide (a0 ≥ 65)) = true then (if (decide (a0 ≤ 90)) = true then true else (if (decide (a0 ≥ 48)) = true then (if (decide (a0 ≤ 57)) = true then true else (if (decide (a0 = 45)) = true then true else (if (decide (a0 = 95)) = true then true else (if (decide (a0 ≥ 161)) = true then (decide (a0 ≤ 65519)) else false)))) else (if (decide (a0 = 45)) = true then true else (if (decide (a0 = 95)) = true then true else (if (decide (a0 ≥ 161)) = true then (decide (a0 ≤ 65519)) else false))))) else (if (decide (a0 ≥ 48)) = true then (if (decide (a0 ≤ 57)) = true then true else (if (decide (a0 = 45)) = true then true else (if (decide (a0 = 95)) = true then true else (if (decide (a0 ≥ 161)) = true then (decide (a0 ≤ 65519)) else false)))) else (if (decide (a0 = 45)) = true then true else (if (decide (a0 = 95)) = true then true else (if (decide (a0 ≥ 161)) = true then (decide (a0 ≤ 65519)) else false)))))) else (if (decide (a0 ≥ 65)) = true then (if (decide (a0 ≤ 90)) = true then true else (if (decide (a0 ≥ 48)) = true then (if (decide (a0 ≤ 57)) = true then true else (if (decide (a0 = 45)) = true then true else (if (decide (a0 = 95)) = true then true else (if (decide (a0 ≥ 161)) = true then (decide (a0 ≤ 65519)) else false)))) else (if (decide (a0 = 45)) = true then true else (if (decide (a0 = 95)) = true then true else (if (decide (a0 ≥ 161)) = true then (decide (a0 ≤ 65519)) else false))))) else (if (decide (a0 ≥ 48)) = true then (if (decide (a0 ≤ 57)) = true then true else (if (decide (a0 = 45)) = true then true else (if (decide (a0 = 95)) = true then true else (if (decide (a0 ≥ 161)) = true then (decide (a0 ≤ 65519)) else false)))) else (if (decide (a0 = 45)) = true then true else (if (decide (a0 = 95)) = true then true else (if (decide (a0 ≥ 161)) = true then (decide (a0 ≤ 65519)) else false)))))) from by rw [ite_t c1, ite_f c2, ite_t c3, ite_t c4])), rfl⟩
          · skip
            refine ol_gval (v := .int .i64 a0) (by exact xr_move rfl rfl) rfl rfl rfl rfl rfl c4 ?_
            refine ol_gval (v := .bool (decide (a0 ≥ 48))) (by exact xr_geq rfl rfl rfl) rfl rfl rfl rfl rfl c4 ?_
            refine ol_gval (v := .bool (decide (a0 ≥ 48))) (by exact xr_move rfl rfl) rfl rfl rfl rfl rfl c4 ?_
            rcases bt (decide (a0 ≥ 48)) with c5 | c5
            · skip
              refine ol_gval (v := .int .i64 a0) (by exact xr_move rfl rfl) rfl rfl rfl rfl rfl c5 ?_
              refine ol_gval (v := .bool (decide (a0 ≤ 57))) (by exact xr_leq rfl rfl rfl) rfl rfl rfl rfl rfl c5 ?_
              refine ol_gval (v := .bool (decide (a0 ≤ 57))) (by exact xr_pickT rfl rfl c5 rfl) rfl rfl rfl rfl rfl c4 ?_
              refine ol_val (v := .bool (decide (a0 ≤ 57))) (by exact xr_pickF rfl rfl c4 rfl) rfl rfl rfl ?_
              refine ol_val (v := .bool (decide (a0 ≤ 57))) (by exact xr_move rfl rfl) rfl rfl rfl ?_
              rcases bt (decide (a0 ≤ 57)) with c6 | c6
              · skip
                refine ol_gskip rfl rfl rfl rfl rfl c6 ?_
                refine ol_gskip rfl rfl rfl rfl rfl c6 ?_
                refine ol_val (v := .bool true) (by exact xr_pickT rfl rfl c6 rfl) rfl rfl rfl ?_
                refine ol_val (v := .bool true) (by exact xr_move rfl rfl) rfl rfl rfl ?_
                refine ol_gskip rfl rfl rfl rfl rfl rfl ?_
                refine ol_gskip rfl rfl rfl rfl rfl rfl ?_
                refine ol_val (v := .bool true) (by exact xr_pickT rfl rfl rfl rfl) rfl rfl rfl ?_
                refine ol_val (v := .bool true) (by exact xr_move rfl rfl) rfl rfl rfl ?_
                refine ol_gskip rfl rfl rfl rfl rfl rfl ?_
                refine ol_gskip rfl rfl rfl rfl rfl rfl ?_
                refine ol_gskip rfl rfl rfl rfl rfl rfl ?_
                refine ol_uskip rfl rfl rfl rfl rfl ?_
                refine ol_uskip rfl rfl rfl rfl rfl ?_
                refine ol_gskip rfl rfl rfl rfl rfl rfl ?_
                refine ol_val (v := .bool true) (by exact xr_pickT rfl rfl rfl rfl) rfl rfl rfl ?_
                refine ol_val (v := .bool true) (by exact xr_assign rfl rfl) rfl rfl rfl ?_
                refine ol_nil ?_
                refine thn_i ?_
                exact ⟨(rfl).trans (congrArg (fun z => (.bool z : Value)) (show true = (if (decide (a0 ≥ 97)) = true then (if (decide (a0 ≤ 122)) = true then true else (if (decide (a0 ≥ 65)) = true then (if (decide (a0 ≤ 90)) = true then true else (if (decide (a0 ≥ 48)) = true then (if (decide (a0 ≤ 57)) = true then true else (if (decide (a0 = 45)) = true then true else (if (decide (a0 = 95)) = true then true else (if (decide (a0 ≥ 161)) = true then (decide (a0 ≤ 65519)) else false)))) else (if (decide (a0 = 45)) = true then true else (if (decide (a0 = 95)) = true then true else (if (decide (a0 ≥ 161)) = true then (decide (a0 ≤ 65519)) else false))))) else (if (decide (a0 ≥ 48)) = true then (if (decide (a0 ≤ 57)) = true then true else (if (decide (a0 = 45)) = true then true else (if (decide (a0 = 95)) = true then true else (if (decide (a0 ≥ 161)) = true then (decide (a0 ≤ 65519)) else false)))) else (if (decide (a0 = 45)) = true then true else (if (decide (a0 = 95)) = true then true else (if (decide (a0 ≥ 161)) = true then (decide (a0 ≤ 65519)) else false)))))) else (if (decide (a0 ≥ 65)) = true then (if (decide (a0 ≤ 90)) = true then true else (if (decide (a0 ≥ 48)) = true then (if (decide (a0 ≤ 57)) = true then true else (if (decide (a0 = 45)) = true then true else (if (decide (a0 = 95)) = true then true else (if (decide (a0 ≥ 161)) = true then (decide (a0 ≤ 65519)) else false)))) else (if (decide (a0 = 45)) = true then true else (if (decide (a0 = 95)) = true then true else (if (decide (a0 ≥ 161)) = true then (decide (a0 ≤ 65519)) else false))))) else (if (decide (a0 ≥ 48)) = true then (if (decide (a0 ≤ 57)) = true then true else (if (decide (a0 = 45)) = true then true else (if (decide (a0 = 95)) = true then true else (if (decide (a0 ≥ 161)) = true then (decide (a0 ≤ 65519)) else false)))) else (if (decide (a0 = 45)) = true then true else (if (decide (a0 = 95)) = true then true else (if (decide (a0 ≥ 161)) = true then (decide (a0 ≤ 65519)) else false)))))) from by rw [ite_t c1, ite_f c2, ite_t c3, ite_f c4, ite_t c5, ite_t c6])), rfl⟩
              · skip
                refine ol_gval (v := .int .i64 a0) (by exact xr_move rfl rfl) rfl rfl rfl rfl rfl c6 ?_
                refine ol_gval (v := .bool (decide (a0 = 45))) (by exact xr_eqI rfl Try.underlying3 rfl rfl rfl) rfl rfl rfl rfl rfl c6 ?_
                refine ol_val (v := .bool (decide (a0 = 45))) (by exact xr_pickF rfl rfl c6 rfl) rfl rfl rfl ?_
                refine ol_val (v := .bool (decide (a0 = 45))) (by exact xr_move rfl rfl) rfl rfl rfl ?_
                rcases bt (decide (a0 = 45)) with c7 | c7
                · skip
                  refine ol_gskip rfl rfl rfl rfl rfl c7 ?_
                  refine ol_gskip rfl rfl rfl rfl rfl c7 ?_
                  refine ol_val (v := .bool true) (by exact xr_pickT rfl rfl c7 rfl) rfl rfl rfl ?_
                  refine ol_val (v := .bool true) (by exact xr_move rfl rfl) rfl rfl rfl ?_
                  refine ol_gskip rfl rfl rfl rfl rfl rfl ?_
                  refine ol_gskip rfl rfl rfl rfl rfl rfl ?_
                  refine ol_gskip rfl rfl rfl rfl rfl rfl ?_
                  refine ol_uskip rfl rfl rfl rfl rfl ?_
                  refine ol_uskip rfl rfl rfl rfl rfl ?_
                  refine ol_gskip rfl rfl rfl rfl rfl rfl ?_
                  refine ol_val (v := .bool true) (by exact xr_pickT rfl rfl rfl rfl) rfl rfl rfl ?_
                  refine ol_val (v := .bool true) (by exact xr_assign rfl rfl) rfl rfl rfl ?_
                  refine ol_nil ?_
                  refine thn_i ?_
                  exact ⟨(rfl).trans (congrArg (fun z => (.bool z : Value)) (show true = (if (decide (a0 ≥ 97)) = true then (if (decide (a0 ≤ 122)) = true then true else (if (decide (a0 ≥ 65)) = true then (if (decide (a0 ≤ 90)) = true then true else (if (decide (a0 ≥ 48)) = true then (if (decide (a0 ≤ 57)) = true then true else (if (decide (a0 = 45)) = true then true else (if (decide (a0 = 95)) = true then true else (if (decide (a0 ≥ 161)) = true then (decide (a0 ≤ 65519)) else false)))) else (if (decide (a0 = 45)) = true then true else (if (decide (a0 = 95)) = true then true else (if (decide (a0 ≥ 161)) = true then (decide (a0 ≤ 65519)) else false))))) else (if (decide (a0 ≥ 48)) = true then (if (decide (a0 ≤ 57)) = true then true else (if (decide (a0 = 45)) = true then true else (if (decide (a0 = 95)) = true then true else (if (decide (a0 ≥ 161)) = true then (decide (a0 ≤ 65519)) else false)))) else (if (decide (a0 = 45)) = true then true else (if (decide (a0 = 95)) = true then true else (if (decide (a0 ≥ 161)) = true then (decide (a0 ≤ 65519)) else false)))))) else (if (decide (a0 ≥ 65)) = true then (if (decide (a0 ≤ 90)) = true then true else (if (decide (a0 ≥ 48)) = true then (if (decide (a0 ≤ 57)) = true then true else (if (decide (a0 = 45)) = true then true else (if (decide (a0 = 95)) = true then true else (if (decide (a0 ≥ 161)) = true then (decide (a0 ≤ 65519)) else false)))) else (if (decide (a0 = 45)) = true then true else (if (decide (a0 = 95)) = true then true else (if (decide (a0 ≥ 161)) = true then (decide (a0 ≤ 65519)) else false))))) else (if (decide (a0 ≥ 48)) = true then (if (decide (a0 ≤ 57)) = true then true else (if (decide (a0 = 45)) = true then true else (if (decide (a0 = 95)) = true then true else (if (decide (a0 ≥ 161)) = true then (decide (a0 ≤ 65519)) else false)))) else (if (decide (a0 = 45)) = true then true else (if (decide (a0 = 95)) = true then true else (if (decide (a0 ≥ 161)) = true then (decide (a0 ≤ 65519)) else false)))))) from by rw [ite_t c1, ite_f c2, ite_t c3, ite_f c4, ite_t c5, ite_f c6, ite_t c7])), rfl⟩
                · skip
                  refine ol_gval (v := .int .i64 a0) (by exact xr_move rfl rfl) rfl rfl rfl rfl rfl c7 ?_
                  refine ol_gval (v := .bool (decide (a0 = 95))) (by exact xr_eqI rfl Try.underlying3 rfl rfl rfl) rfl rfl rfl rfl rfl c7 ?_
                  refine ol_val (v := .bool (decide (a0 = 95))) (by exact xr_pickF rfl rfl c7 rfl) rfl rfl rfl ?_
                  refine ol_val (v := .bool (decide (a0 = 95))) (by exact xr_move rfl rfl) rfl rfl rfl ?_
                  rcases bt (decide (a0 = 95)) with c8 | c8
                  · skip
                    refine ol_gskip rfl rfl rfl rfl rfl c8 ?_
                    refine ol_gskip rfl rfl rfl rfl rfl c8 ?_
                    refine ol_gskip rfl rfl rfl rfl rfl c8 ?_
                    refine ol_uskip rfl rfl rfl rfl rfl ?_
                    refine ol_uskip rfl rfl rfl rfl rfl ?_
                    refine ol_gskip rfl rfl rfl rfl rfl c8 ?_
                    refine ol_val (v := .bool true) (by exact xr_pickT rfl rfl c8 rfl) rfl rfl rfl ?_
                    refine ol_val (v := .bool true) (by exact xr_assign rfl rfl) rfl rfl rfl ?_
                    refine ol_nil ?_
                    refine thn_i ?_
                    exact ⟨(rfl).trans (congrArg (fun z => (.bool z : Value)) (show true = (if (decide (a0 ≥ 97)) = true then (if (decide (a0 ≤ 122)) = true then true else (if (decide (a0 ≥ 65)) = true then (if (decide (a0 ≤ 90)) = true then true else (if (decide (a0 ≥ 48)) = true then (if (decide (a0 ≤ 57)) = true then true else (if (decide (a0 = 45)) = true then true else (if (decide (a0 = 95)) = true then true else (if (decide (a0 ≥ 161)) = true then (decide (a0 ≤ 65519)) else false)))) else (if (decide (a0 = 45)) = true then true else (if (decide (a0 = 95)) = true then true else (if (decide (a0 ≥ 161)) = true then (decide (a0 ≤ 65519)) else false))))) else (if (decide (a0 ≥ 48)) = true then (if (decide (a0 ≤ 57)) = true then true else (if (decide (a0 = 45)) = true then true else (if (decide (a0 = 95)) = true then true else (if (decide (a0 ≥ 161)) = true then (decide (a0 ≤ 65519)) else false)))) else (if (decide (a0 = 45)) = true then true else (if (decide (a0 = 95)) = true then true else (if (decide (a0 ≥ 161)) = true then (decide (a0 ≤ 65519)) else false)))))) else (if (decide (a0 ≥ 65)) = true then (if (decide (a0 ≤ 90)) = true then true else (if (decide (a0 ≥ 48)) = true then (if (decide (a0 ≤ 57)) = true then true else (if (decide (a0 = 45)) = true then true else (if (decide (a0 = 95)) = true then true else (if (decide (a0 ≥ 161)) = true then (decide (a0 ≤ 65519)) else false)))) else (if (decide (a0 = 45)) = true then true else (if (decide (a0 = 95)) = true then true else (if (decide (a0 ≥ 161)) = true then (decide (a0 ≤ 65519)) else false))))) else (if (decide (a0 ≥ 48)) = true then (if (decide (a0 ≤ 57)) = true then true else (if (decide (a0 = 45)) = true then true else (if (decide (a0 = 95)) = true then true else (if (decide (a0 ≥ 161)) = true then (decide (a0 ≤ 65519)) else false)))) else (if (decide (a0 = 45)) = true then true else (if (decide (a0 = 95)) = true then true else (if (decide (a0 ≥ 161)) = true then (decide (a0 ≤ 65519)) else false)))))) from by rw [ite_t c1, ite_f c2, ite_t c3, ite_f c4, ite_t c5, ite_f c6, ite_f c7, ite_t c8])), rfl⟩
                  · skip
                    refine ol_gval (v := .int .i64 a0) (by exact xr_move rfl rfl) rfl rfl rfl rfl rfl c8 ?_
                    refine ol_gval (v := .bool (decide (a0 ≥ 161))) (by exact xr_geq rfl rfl rfl) rfl rfl rfl rfl rfl c8 ?_
                    refine ol_gval (v := .bool (decide (a0 ≥ 161))) (by exact xr_move rfl rfl) rfl rfl rfl rfl rfl c8 ?_
                    rcases bt (decide (a0 ≥ 161)) with c9 | c9
                    · skip
                      refine ol_gval (v := .int .i64 a0) (by exact xr_move rfl rfl) rfl rfl rfl rfl rfl c9 ?_
                      refine ol_gval (v := .bool (decide (a0 ≤ 65519))) (by exact xr_leq rfl rfl rfl) rfl rfl rfl rfl rfl c9 ?_
                      refine ol_gval (v := .bool (decide (a0 ≤ 65519))) (by exact xr_pickT rfl rfl c9 rfl) rfl rfl rfl rfl rfl c8 ?_
                      refine ol_val (v := .bool (decide (a0 ≤ 65519))) (by exact xr_pickF rfl rfl c8 rfl) rfl rfl rfl ?_
                      refine ol_val (v := .bool (decide (a0 ≤ 65519))) (by exact xr_assign rfl rfl) rfl rfl rfl ?_
                      refine ol_nil ?_
                      refine thn_i ?_
                      exact ⟨(rfl).trans (congrArg (fun z => (.bool z : Value)) (show (decide (a0 ≤ 65519)) = (if (decide (a0 ≥ 97)) = true then (if (decide (a0 ≤ 122)) = true then true else (if (decide (a0 ≥ 65)) = true then (if (decide (a0 ≤ 90)) = true then true else (if (decide (a0 ≥ 48)) = true then (if (decide (a0 ≤ 57)) = true then true else (if (decide (a0 = 45)) = true then true else (if (decide (a0 = 95)) = true then true else (if (decide (a0 ≥ 161)) = true then (decide (a0 ≤ 65519)) else false)))) else (if (decide (a0 = 45)) = true then true else (if (decide (a0 = 95)) = true then true else (if (decide (a0 ≥ 161)) = true then (decide (a0 ≤ 65519)) else false))))) else (if (decide (a0 ≥ 48)) = true then (if (decide (a0 ≤ 57)) = true then true else (if (decide (a0 = 45)) = true then true else (if (decide (a0 = 95)) = true then true else (if (decide (a0 ≥ 161)) = true then (decide (a0 ≤ 65519)) else false)))) else (if (decide (a0 = 45)) = true then true else (if (decide (a0 = 95)) = true then true else (if (decide (a0 ≥ 161)) = true then (decide (a0 ≤ 65519)) else false)))))) else (if (decide (a0 ≥ 65)) = true then (if (decide (a0 ≤ 90)) = true then true else (if (decide (a0 ≥ 48)) = true then (if (decide (a0 ≤ 57)) = true then true else (if (decide (a0 = 45)) = true then true else (if (decide (a0 = 95)) = true then true else (if (decide (a0 ≥ 161)) = true then (decide (a0 ≤ 65519)) else false)))) else (if (decide (a0 = 45)) = true then true else (if (decide (a0 = 95)) = true then true else (if (decide (a0 ≥ 161)) = true then (decide (a0 ≤ 65519)) else false))))) else (if (decide (a0 ≥ 48)) = true then (if (decide (a0 ≤ 57)) = true then true else (if (decide (a0 = 45)) = true then true else (if (decide (a0 = 95)) = true then true else (if (decide (a0 ≥ 161)) = true then (decide (a0 ≤ 65519)) else false)))) else (if (decide (a0 = 45)) = true then true else (if (decide (a0 = 95)) = true then true else (if (decide (a0 ≥ 161)) = true then (decide (a0 ≤ 65519)) else false)))))) from by rw [ite_t c1, ite_f c2, ite_t c3, ite_f c4, ite_t c5, ite_f c6, ite_f c7, ite_f c8, ite_t c9])), rfl⟩
                    · skip
                      refine ol_gskip rfl rfl rfl rfl rfl c9 ?_
                      refine ol_gskip rfl rfl rfl rfl rfl c9 ?_
                      refine ol_gval (v := .bool false) (by exact xr_pickF rfl rfl c9 rfl) rfl rfl rfl rfl rfl c8 ?_
                      refine ol_val (v := .bool false) (by exact xr_pickF rfl rfl c8 rfl) rfl rfl rfl ?_
                      refine ol_val (v := .bool false) (by exact xr_assign rfl rfl) rfl rfl rfl ?_
                      refine ol_nil ?_
                      refine thn_i ?_
                      exact ⟨(rfl).trans (congrArg (fun z => (.bool z : Value)) (show false = (if (decide (a0 ≥ 97)) = true then (if (decide (a0 ≤ 122)) = true then true else (if (decide (a0 ≥ 65)) = true then (if (decide (a0 ≤ 90)) = true then true else (if (decide (a0 ≥ 48)) = true then (if (decide (a0 ≤ 57)) = true then true else (if (decide (a0 = 45)) = true then true else (if (decide (a0 = 95)) = true then true else (if (decide (a0 ≥ 161)) = true then (decide (a0 ≤ 65519)) else false)))) else (if (decide (a0 = 45)) = true then true else (if (decide (a0 = 95)) = true then true else (if (decide (a0 ≥ 161)) = true then (decide (a0 ≤ 65519)) else false))))) else (if (decide (a0 ≥ 48)) = true then (if (decide (a0 ≤ 57)) = true then true else (if (decide (a0 = 45)) = true then true else (if (decide (a0 = 95)) = true then true else (if (decide (a0 ≥ 161)) = true then (decide (a0 ≤ 65519)) else false)))) else (if (decide (a0 = 45)) = true then true else (if (decide (a0 = 95)) = true then true else (if (decide (a0 ≥ 161)) = true then (decide (a0 ≤ 65519)) else false)))))) else (if (decide (a0 ≥ 65)) = true then (if (decide (a0 ≤ 90)) = true then true else (if (decide (a0 ≥ 48)) = true then (if (decide (a0 ≤ 57)) = true then true else (if (decide (a0 = 45)) = true then true else (if (decide (a0 = 95)) = true then true else (if (decide (a0 ≥ 161)) = true then (decide (a0 ≤ 65519)) else false)))) else (if (decide (a0 = 45)) = true then true else (if (decide (a0 = 95)) = true then true else (if (decide (a0 ≥ 161)) = true then (decide (a0 ≤ 65519)) else false))))) else (if (decide (a0 ≥ 48)) = true then (if (decide (a0 ≤ 57)) = true then true else (if (decide (a0 = 45)) = true then true else (if (decide (a0 = 95)) = true then true else (if (decide (a0 ≥ 161)) = true then (decide (a0 ≤ 65519)) else false)))) else (if (decide (a0 = 45)) = true then true else (if (decide (a0 = 95)) = true then true else (if (decide (a0 ≥ 161)) = true then (decide (a0 ≤ 65519)) else false)))))) from by rw [ite_t c1, ite_f c2, ite_t c3, ite_f c4, ite_t c5, ite_f c6, ite_f c7, ite_f c8, ite_f c9])), rfl⟩
            · skip
              refine ol_gskip rfl rfl rfl rfl rfl c5 ?_
              refine ol_gskip rfl rfl rfl rfl rfl c5 ?_
              refine ol_gval (v := .bool false) (by exact xr_pickF rfl rfl c5 rfl) rfl rfl rfl rfl rfl c4 ?_
              refine ol_val (v := .bool false) (by exact xr_pickF rfl rfl c4 rfl) rfl rfl rfl ?_
              refine ol_val (v := .bool false) (by exact xr_move rfl rfl) rfl rfl rfl ?_
              refine ol_gval (v := .int .i64 a0) (by exact xr_move rfl rfl) rfl rfl rfl rfl rfl rfl ?_
              refine ol_gval (v := .bool (decide (a0 = 45))) (by exact xr_eqI rfl Try.underlying3 rfl rfl rfl) rfl rfl rfl rfl rfl rfl ?_
              refine ol_val (v := .bool (decide (a0 = 45))) (by exact xr_pickF rfl rfl rfl rfl) rfl rfl rfl ?_
              refine ol_val (v := .bool (decide (a0 = 45))) (by exact xr_move rfl rfl) rfl rfl rfl ?_
              rcases bt (decide (a0 = 45)) with c10 | c10
              · skip
                refine ol_gskip rfl rfl rfl rfl rfl c10 ?_
                refine ol_gskip rfl rfl rfl rfl rfl c10 ?_
                refine ol_val (v := .bool true) (by exact xr_pickT rfl rfl c10 rfl) rfl rfl rfl ?_
                refine ol_val (v := .bool true) (by exact xr_move rfl rfl) rfl rfl rfl ?_
                refine ol_gskip rfl rfl rfl rfl rfl rfl ?_
                refine ol_gskip rfl rfl rfl rfl rfl rfl ?_
                refine ol_gskip rfl rfl rfl rfl rfl rfl ?_
                refine ol_uskip rfl rfl rfl rfl rfl ?_
                refine ol_uskip rfl rfl rfl rfl rfl ?_
                refine ol_gskip rfl rfl rfl rfl rfl rfl ?_
                refine ol_val (v := .bool true) (by exact xr_pickT rfl rfl rfl rfl) rfl rfl rfl ?_
                refine ol_val (v := .bool true) (by exact xr_assign rfl rfl) rfl rfl rfl ?_
                refine ol_nil ?_
                refine thn_i ?_
                exact ⟨(rfl).trans (congrArg (fun z => (.bool z : Value)) (show true = (if (decide (a0 ≥ 97)) = true then (if (decide (a0 ≤ 122)) = true then true else (if (decide (a0 ≥ 65)) = true then (if (decide (a0 ≤ 90)) = true then true else (if (decide (a0 ≥ 48)) = true then (if (decide (a0 ≤ 57)) = true then true else (if (decide (a0 = 45)) = true then true else (if (decide (a0 = 95)) = true then true else (if (decide (a0 ≥ 161)) = true then (decide (a0 ≤ 65519)) else false)))) else (if (decide (a0 = 45)) = true then true else (if (decide (a0 = 95)) = true then true else (if (decide (a0 ≥ 161)) = true then (decide (a0 ≤ 65519)) else false))))) else (if (decide (a0 ≥ 48)) = true then (if (decide (a0 ≤ 57)) = true then true else (if (decide (a0 = 45)) = true then true else (if (decide (a0 = 95)) = true then true else (if (decide (a0 ≥ 161)) = true then (decide (a0 ≤ 65519)) else false)))) else (if (decide (a0 = 45)) = true then true else (if (decide (a0 = 95)) = true then true else (if (decide (a0 ≥ 161)) = true then (decide (a0 ≤ 65519)) else false)))))) else (if (decide (a0 ≥ 65)) = true then (if (decide (a0 ≤ 90)) = true then true else (if (decide (a0 ≥ 48)) = true then (if (decide (a0 ≤ 57)) = true then true else (if (decide (a0 = 45)) = true then true else (if (decide (a0 = 95)) = true then true else (if (decide (a0 ≥ 161)) = true then (decide (a0 ≤ 65519)) else false)))) else (if (decide (a0 = 45)) = true then true else (if (decide (a0 = 95)) = true then true else (if (decide (a0 ≥ 161)) = true then (decide (a0 ≤ 65519)) else false))))) else (if (decide (a0 ≥ 48)) = true then (if (decide (a0 ≤ 57)) = true then true else (if (decide (a0 = 45)) = true then true else (if (decide (a0 = 95)) = true then true else (if (decide (a0 ≥ 161)) = true then (decide (a0 ≤ 65519)) else false)))) else (if (decide (a0 = 45)) = true then true else (if (decide (a0 = 95)) = true then true else (if (decide (a0 ≥ 161)) = true then (decide (a0 ≤ 65519)) else false)))))) from by rw [ite_t c1, ite_f c2, ite_t c3, ite_f c4, ite_f c5, ite_t c10])), rfl⟩
              · skip
                refine ol_gval (v := .int .i64 a0) (by exact xr_move rfl rfl) rfl rfl rfl rfl rfl c10 ?_
                refine ol_gval (v := .bool (decide (a0 = 95))) (by exact xr_eqI rfl Try.underlying3 rfl rfl rfl) rfl rfl rfl rfl rfl c10 ?_
                refine ol_val (v := .bool (decide (a0 = 95))) (by exact xr_pickF rfl rfl c10 rfl) rfl rfl rfl ?_
                refine ol_val (v := .bool (decide (a0 = 95))) (by exact xr_move rfl rfl) rfl rfl rfl ?_
                rcases bt (decide (a0 = 95)) with c11 | c11
                · skip
                  refine ol_gskip rfl rfl rfl rfl rfl c11 ?_
                  refine ol_gskip rfl rfl rfl rfl rfl c11 ?_
                  refine ol_gskip rfl rfl rfl rfl rfl c11 ?_
                  refine ol_uskip rfl rfl rfl rfl rfl ?_
                  refine ol_uskip rfl rfl rfl rfl rfl ?_
                  refine ol_gskip rfl rfl rfl rfl rfl c11 ?_
                  refine ol_val (v := .bool true) (by exact xr_pickT rfl rfl c11 rfl) rfl rfl rfl ?_
                  refine ol_val (v := .bool true) (by exact xr_assign rfl rfl) rfl rfl rfl ?_
                  refine ol_nil ?_
                  refine thn_i ?_
                  exact ⟨(rfl).trans (congrArg (fun z => (.bool z : Value)) (show true = (if (decide (a0 ≥ 97)) = true then (if (decide (a0 ≤ 122)) = true then true else (if (decide (a0 ≥ 65)) = true then (if (decide (a0 ≤ 90)) = true then true else (if (decide (a0 ≥ 48)) = true then (if (decide (a0 ≤ 57)) = true then true else (if (decide (a0 = 45)) = true then true else (if (decide (a0 = 95)) = true then true else (if (decide (a0 ≥ 161)) = true then (decide (a0 ≤ 65519)) else false)))) else (if (decide (a0 = 45)) = true then true else (if (decide (a0 = 95)) = true then true else (if (decide (a0 ≥ 161)) = true then (decide (a0 ≤ 65519)) else false))))) else (if (decide (a0 ≥ 48)) = true then (if (decide (a0 ≤ 57)) = true then true else (if (decide (a0 = 45)) = true then true else (if (decide (a0 = 95)) = true then true else (if (decide (a0 ≥ 161)) = true then (decide (a0 ≤ 65519)) else false)))) else (if (decide (a0 = 45)) = true then true else (if (decide (a0 = 95)) = true then true else (if (decide (a0 ≥ 161)) = true then (decide (a0 ≤ 65519)) else false)))))) else (if (decide (a0 ≥ 65)) = true then (if (decide (a0 ≤ 90)) = true then true else (if (decide (a0 ≥ 48)) = true then (if (decide (a0 ≤ 57)) = true then true else (if (decide (a0 = 45)) = true then true else (if (decide (a0 = 95)) = true then true else (if (decide (a0 ≥ 161)) = true then (decide (a0 ≤ 65519)) else false)))) else (if (decide (a0 = 45)) = true then true else (if (decide (a0 = 95)) = true then true else (if (decide (a0 ≥ 161)) = true then (decide (a0 ≤ 65519)) else false))))) else (if (decide (a0 ≥ 48)) = true then (if (decide (a0 ≤ 57)) = true then true else (if (decide (a0 = 45)) = true then true else (if (decide (a0 = 95)) = true then true else (if (decide (a0 ≥ 161)) = true then (decide (a0 ≤ 65519)) else false)))) else (if (decide (a0 = 45)) = true then true else (if (decide (a0 = 95)) = true then true else (if (decide (a0 ≥ 161)) = true then (decide (a0 ≤ 65519)) else false)))))) from by rw [ite_t c1, ite_f c2, ite_t c3, ite_f c4, ite_f c5, ite_f c10, ite_t c11])), rfl⟩
                · skip
                  refine ol_gval (v := .int .i64 a0) (by exact xr_move rfl rfl) rfl rfl rfl rfl rfl c11 ?_
                  refine ol_gval (v := .bool (decide (a0 ≥ 161))) (by exact xr_geq rfl rfl rfl) rfl rfl rfl rfl rfl c11 ?_
                  refine ol_gval (v := .bool (decide (a0 ≥ 161))) (by exact xr_move rfl rfl) rfl rfl rfl rfl rfl c11 ?_
                  rcases bt (decide (a0 ≥ 161)) with c12 | c12
                  · skip
                    refine ol_gval (v := .int .i64 a0) (by exact xr_move rfl rfl) rfl rfl rfl rfl rfl c12 ?_
                    refine ol_gval (v := .bool (decide (a0 ≤ 65519))) (by exact xr_leq rfl rfl rfl) rfl rfl rfl rfl rfl c12 ?_
                    refine ol_gval (v := .bool (decide (a0 ≤ 65519))) (by exact xr_pickT rfl rfl c12 rfl) rfl rfl rfl rfl rfl c11 ?_
                    refine ol_val (v := .bool (decide (a0 ≤ 65519))) (by exact xr_pickF rfl rfl c11 rfl) rfl rfl rfl ?_
                    refine ol_val (v := .bool (decide (a0 ≤ 65519))) (by exact xr_assign rfl rfl) rfl rfl rfl ?_
                    refine ol_nil ?_
                    refine thn_i ?_
                    exact ⟨(rfl).trans (congrArg (fun z => (.bool z : Value)) (show (decide (a0 ≤ 65519)) = (if (decide (a0 ≥ 97)) = true then (if (decide (a0 ≤ 122)) = true then true else (if (decide (a0 ≥ 65)) = true then (if (decide (a0 ≤ 90)) = true then true else (if (decide (a0 ≥ 48)) = true then (if (decide (a0 ≤ 57)) = true then true else (if (decide (a0 = 45)) = true then true else (if (decide (a0 = 95)) = true then true else (if (decide (a0 ≥ 161)) = true then (decide (a0 ≤ 65519)) else false)))) else (if (decide (a0 = 45)) = true then true else (if (decide (a0 = 95)) = true then true else (if (decide (a0 ≥ 161)) = true then (decide (a0 ≤ 65519)) else false))))) else (if (decide (a0 ≥ 48)) = true then (if (decide (a0 ≤ 57)) = true then true else (if (decide (a0 = 45)) = true then true else (if (decide (a0 = 95)) = true then true else (if (decide (a0 ≥ 161)) = true then (decide (a0 ≤ 65519)) else false)))) else (if (decide (a0 = 45)) = true then true else (if (decide (a0 = 95)) = true then true else (if (decide (a0 ≥ 161)) = true then (decide (a0 ≤ 65519)) else false)))))) else (if (decide (a0 ≥ 65)) = true then (if (decide (a0 ≤ 90)) = true then true else (if (decide (a0 ≥ 48)) = true then (if (decide (a0 ≤ 57)) = true then true else (if (decide (a0 = 45)) = true then true else (if (decide (a0 = 95)) = true then true else (if (decide (a0 ≥ 161)) = true then (decide (a0 ≤ 65519)) else false)))) else (if (decide (a0 = 45)) = true then true else (if (decide (a0 = 95)) = true then true else (if (decide (a0 ≥ 161)) = true then (decide (a0 ≤ 65519)) else false))))) else (if (decide (a0 ≥ 48)) = true then (if (decide (a0 ≤ 57)) = true then true else (if (decide (a0 = 45)) = true then true else (if (decide (a0 = 95)) = true then true else (if (decide (a0 ≥ 161)) = true then (decide (a0 ≤ 65519)) else false)))) else (if (decide (a0 = 45)) = true then true else (if (decide (a0 = 95)) = true then true else (if (decide (a0 ≥ 161)) = true then (decide (a0 ≤ 65519)) else false)))))) from by rw [ite_t c1, ite_f c2, ite_t c3, ite_f c4, ite_f c5, ite_f c10, ite_f c11, ite_t c12])), rfl⟩
                  · skip
                    refine ol_gskip rfl rfl rfl rfl rfl c12 ?_
                    refine ol_gskip rfl rfl rfl rfl rfl c12 ?_
                    refine ol_gval (v := .bool false) (by exact xr_pickF rfl rfl c12 rfl) rfl rfl rfl rfl rfl c11 ?_
                    refine ol_val (v := .bool false) (by exact xr_pickF rfl rfl c11 rfl) rfl rfl rfl ?_
                    refine ol_val (v := .bool false) (by exact xr_assign rfl rfl) rfl rfl rfl ?_
                    refine ol_nil ?_
                    refine thn_i ?_
                    exact ⟨(rfl).trans (congrArg (fun z => (.bool z : Value)) (show false = (if (decide (a0 ≥ 97)) = true then (if (decide (a0 ≤ 122)) = true then true else (if (decide (a0 ≥ 65)) = true then (if (decide (a0 ≤ 90)) = true then true else (if (decide (a0 ≥ 48)) = true then (if (decide (a0 ≤ 57)) = true then true else (if (decide (a0 = 45)) = true then true else (if (decide (a0 = 95)) = true then true else (if (decide (a0 ≥ 161)) = true then (decide (a0 ≤ 65519)) else false)))) else (if (decide (a0 = 45)) = true then true else (if (decide (a0 = 95)) = true then true else (if (decide (a0 ≥ 161)) = true then (decide (a0 ≤ 65519)) else false))))) else (if (decide (a0 ≥ 48)) = true then (if (decide (a0 ≤ 57)) = true then true else (if (decide (a0 = 45)) = true then true else (if (decide (a0 = 95)) = true then true else (if (decide (a0 ≥ 161)) = true then (decide (a0 ≤ 65519)) else false)))) else (if (decide (a0 = 45)) = true then true else (if (decide (a0 = 95)) = true then true else (if (decide (a0 ≥ 161)) = true then (decide (a0 ≤ 65519)) else false)))))) else (if (decide (a0 ≥ 65)) = true then (if (decide (a0 ≤ 90)) = true then true else (if (decide (a0 ≥ 48)) = true then (if (decide (a0 ≤ 57)) = true then true else (if (decide (a0 = 45)) = true then true else (if (decide (a0 = 95)) = true then true else (if (decide (a0 ≥ 161)) = true then (decide (a0 ≤ 65519)) else false)))) else (if (decide (a0 = 45)) = true then true else (if (decide (a0 = 95)) = true then true else (if (decide (a0 ≥ 161)) = true then (decide (a0 ≤ 65519)) else false))))) else (if (decide (a0 ≥ 48)) = true then (if (decide (a0 ≤ 57)) = true then true else (if (decide (a0 = 45)) = true then true else (if (decide (a0 = 95)) = true then true else (if (decide (a0 ≥ 161)) = true then (decide (a0 ≤ 65519)) else false)))) else (if (decide (a0 = 45)) = true then true else (if (decide (a0 = 95)) = true then true else (if (decide (a0 ≥ 161)) = true then (decide (a0 ≤ 65519)) else false)))))) from by rw [ite_t c1, ite_f c2, ite_t c3, ite_f c4, ite_f c5, ite_f c10, ite_f c11, ite_f c12])), rfl⟩
        · skip
          refine ol_gskip rfl rfl rfl rfl rfl c3 ?_
          refine ol_gskip rfl rfl rfl rfl rfl c3 ?_
          refine ol_gval (v := .bool false) (by exact xr_pickF rfl rfl c3 rfl) rfl rfl rfl rfl rfl c2 ?_
          refine ol_val (v := .bool false) (by exact xr_pickF rfl rfl c2 rfl) rfl rfl rfl ?_
          refine ol_val (v := .bool false) (by exact xr_move rfl rfl) rfl rfl rfl ?_
          refine ol_gval (v := .int .i64 a0) (by exact xr_move rfl rfl) rfl rfl rfl rfl rfl rfl ?_
          refine ol_gval (v := .bool (decide (a0 ≥ 48))) (by exact xr_geq rfl rfl rfl) rfl rfl rfl rfl rfl rfl ?_
          refine ol_gval (v := .bool (decide (a0 ≥ 48))) (by exact xr_move rfl rfl) rfl rfl rfl rfl rfl rfl ?_
          rcases bt (decide (a0 ≥ 48)) with c13 | c13
          · skip
            refine ol_gval (v := .int .i64 a0) (by exact xr_move rfl rfl) rfl rfl rfl rfl rfl c13 ?_
            refine ol_gval (v := .bool (decide (a0 ≤ 57))) (by exact xr_leq rfl rfl rfl) rfl rfl rfl rfl rfl c13 ?_
            refine ol_gval (v := .bool (decide (a0 ≤ 57))) (by exact xr_pickT rfl rfl c13 rfl) rfl rfl rfl rfl rfl rfl ?_
            refine ol_val (v := .bool (decide (a0 ≤ 57))) (by exact xr_pickF rfl rfl rfl rfl) rfl rfl rfl ?_
            refine ol_val (v := .bool (decide (a0 ≤ 57))) (by exact xr_move rfl rfl) rfl rfl rfl ?_
            rcases bt (decide (a0 ≤ 57)) with c14 | c14
            · skip
              refine ol_gskip rfl rfl rfl rfl rfl c14 ?_
              refine ol_gskip rfl rfl rfl rfl rfl c14 ?_
              refine ol_val (v := .bool true) (by exact xr_pickT rfl rfl c14 rfl) rfl rfl rfl ?_
              refine ol_val (v := .bool true) (by exact xr_move rfl rfl) rfl rfl rfl ?_
              refine ol_gskip rfl rfl rfl rfl rfl rfl ?_
              refine ol_gskip rfl rfl rfl rfl rfl rfl ?_
              refine ol_val (v := .bool true) (by exact xr_pickT rfl rfl rfl rfl) rfl rfl rfl ?_
              refine ol_val (v := .bool true) (by exact xr_move rfl rfl) rfl rfl rfl ?_
              refine ol_gskip rfl rfl rfl rfl rfl rfl ?_
              refine ol_gskip rfl rfl rfl rfl rfl rfl ?_
              refine ol_gskip rfl rfl rfl rfl rfl rfl ?_
              refine ol_uskip rfl rfl rfl rfl rfl ?_
              refine ol_uskip rfl rfl rfl rfl rfl ?_
              refine ol_gskip rfl rfl rfl rfl rfl rfl ?_
              refine ol_val (v := .bool true) (by exact xr_pickT rfl rfl rfl rfl) rfl rfl rfl ?_
              refine ol_val (v := .bool true) (by exact xr_assign rfl rfl) rfl rfl rfl ?_
              refine ol_nil ?_
              refine thn_i ?_
              exact ⟨(rfl).trans (congrArg (fun z => (.bool z : Value)) (show true = (if (decide (a0 ≥ 97)) = true then (if (decide (a0 ≤ 122)) = true then true else (if (decide (a0 ≥ 65)) = true then (if (decide (a0 ≤ 90)) = true then true else (if (decide (a0 ≥ 48)) = true then (if (decide (a0 ≤ 57)) = true then true else (if (decide (a0 = 45)) = true then true else (if (decide (a0 = 95)) = true then true else (if (decide (a0 ≥ 161)) = true then (decide (a0 ≤ 65519)) else false)))) else (if (decide (a0 = 45)) = true then true else (if (decide (a0 = 95)) = true then true else (if (decide (a0 ≥ 161)) = true then (decide (a0 ≤ 65519)) else false))))) else (if (decide (a0 ≥ 48)) = true then (if (decide (a0 ≤ 57)) = true then true else (if (decide (a0 = 45)) = true then true else (if (decide (a0 = 95)) = true then true else (if (decide (a0 ≥ 161)) = true then (decide (a0 ≤ 65519)) else false)))) else (if (decide (a0 = 45)) = true then true else (if (decide (a0 = 95)) = true then true else (if (decide (a0 ≥ 161)) = true then (decide (a0 ≤ 65519)) else false)))))) else (if (decide (a0 ≥ 65)) = true then (if (decide (a0 ≤ 90)) = true then true else (if (decide (a0 ≥ 48)) = true then (if (decide (a0 ≤ 57)) = true then true else (if (decide (a0 = 45)) = true then true else (if (decide (a0 = 95)) = true then true else (if (decide (a0 ≥ 161)) = true then (decide (a0 ≤ 65519)) else false)))) else (if (decide (a0 = 45)) = true then true else (if (decide (a0 = 95)) = true then true else (if (decide (a0 ≥ 161)) = true then (decide (a0 ≤ 65519)) else false))))) else (if (decide (a0 ≥ 48)) = true then (if (decide (a0 ≤ 57)) = true then true else (if (decide (a0 = 45)) = true then true else (if (decide (a0 = 95)) = true then true else (if (decide (a0 ≥ 161)) = true then (decide (a0 ≤ 65519)) else false)))) else (if (decide (a0 = 45)) = true then true else (if (decide (a0 = 95)) = true then true else (if (decide (a0 ≥ 161)) = true then (decide (a0 ≤ 65519)) else false)))))) from by rw [ite_t c1, ite_f c2, ite_f c3, ite_t c13, ite_t c14])), rfl⟩
            · skip
              refine ol_gval (v := .int .i64 a0) (by exact xr_move rfl rfl) rfl rfl rfl rfl rfl c14 ?_
              refine ol_gval (v := .bool (decide (a0 = 45))) (by exact xr_eqI rfl Try.underlying3 rfl rfl rfl) rfl rfl rfl rfl rfl c14 ?_
              refine ol_val (v := .bool (decide (a0 = 45))) (by exact xr_pickF rfl rfl c14 rfl) rfl rfl rfl ?_
              refine ol_val (v := .bool (decide (a0 = 45))) (by exact xr_move rfl rfl) rfl rfl rfl ?_
              rcases bt (decide (a0 = 45)) with c15 | c15
              · skip
                refine ol_gskip rfl rfl rfl rfl rfl c15 ?_
                refine ol_gskip rfl rfl rfl rfl rfl c15 ?_
                refine ol_val (v := .bool true) (by exact xr_pickT rfl rfl c15 rfl) rfl rfl rfl ?_
                refine ol_val (v := .bool true) (by exact xr_move rfl rfl) rfl rfl rfl ?_
                refine ol_gskip rfl rfl rfl rfl rfl rfl ?_
                refine ol_gskip rfl rfl rfl rfl rfl rfl ?_
                refine ol_gskip rfl rfl rfl rfl rfl rfl ?_
                refine ol_uskip rfl rfl rfl rfl rfl ?_
                refine ol_uskip rfl rfl rfl rfl rfl ?_
                refine ol_gskip rfl rfl rfl rfl rfl rfl ?_
                refine ol_val (v := .bool true) (by exact xr_pickT rfl rfl rfl rfl) rfl rfl rfl ?_
                refine ol_val (v := .bool true) (by exact xr_assign rfl rfl) rfl rfl rfl ?_
                refine ol_nil ?_
                refine thn_i ?_
                exact ⟨(rfl).trans (congrArg (fun z => (.bool z : Value)) (show true = (if (decide (a0 ≥ 97)) = true then (if (decide (a0 ≤ 122)) = true then true else (if (decide (a0 ≥ 65)) = true then (if (decide (a0 ≤ 90)) = true then true else (if (decide (a0 ≥ 48)) = true then (if (decide (a0 ≤ 57)) = true then true else (if (decide (a0 = 45)) = true then true else (if (decide (a0 = 95)) = true then true else (if (decide (a0 ≥ 161)) = true then (decide (a0 ≤ 65519)) else false)))) else (if (decide (a0 = 45)) = true then true else (if (decide (a0 = 95)) = true then true else (if (decide (a0 ≥ 161)) = true then (decide (a0 ≤ 65519)) else false))))) else (if (decide (a0 ≥ 48)) = true then (if (decide (a0 ≤ 57)) = true then true else (if (decide (a0 = 45)) = true then true else (if (decide (a0 = 95)) = true then true else (if (decide (a0 ≥ 161)) = true then (decide (a0 ≤ 65519)) else false)))) else (if (decide (a0 = 45)) = true then true else (if (decide (a0 = 95)) = true then true else (if (decide (a0 ≥ 161)) = true then (decide (a0 ≤ 65519)) else false)))))) else (if (decide (a0 ≥ 65)) = true then (if (decide (a0 ≤ 90)) = true then true else (if (decide (a0 ≥ 48)) = true then (if (decide (a0 ≤ 57)) = true then true else (if (decide (a0 = 45)) = true then true else (if (decide (a0 = 95)) = true then true else (if (decide (a0 ≥ 161)) = true then (decide (a0 ≤ 65519)) else false)))) else (if (decide (a0 = 45)) = true then true else (if (decide (a0 = 95)) = true then true else (if (decide (a0 ≥ 161)) = true then (decide (a0 ≤ 65519)) else false))))) else (if (decide (a0 ≥ 48)) = true then (if (decide (a0 ≤ 57)) = true then true else (if (decide (a0 = 45)) = true then true else (if (decide (a0 = 95)) = true then true else (if (decide (a0 ≥ 161)) = true then (decide (a0 ≤ 65519)) else false)))) else (if (decide (a0 = 45)) = true then true else (if (decide (a0 = 95)) = true then true else (if (decide (a0 ≥ 161)) = true then (decide (a0 ≤ 65519)) else false)))))) from by rw [ite_t c1, ite_f c2, ite_f c3, ite_t c13, ite_f c14, ite_t c15])), rfl⟩
              · skip
                refine ol_gval (v := .int .i64 a0) (by exact xr_move rfl rfl) rfl rfl rfl rfl rfl c15 ?_
                refine ol_gval (v := .bool (decide (a0 = 95))) (by exact xr_eqI rfl Try.underlying3 rfl rfl rfl) rfl rfl rfl rfl rfl c15 ?_
                refine ol_val (v := .bool (decide (a0 = 95))) (by exact xr_pickF rfl rfl c15 rfl) rfl rfl rfl ?_
                refine ol_val (v := .bool (decide (a0 = 95))) (by exact xr_move rfl rfl) rfl rfl rfl ?_
                rcases bt (decide (a0 = 95)) with c16 | c16
                · skip
                  refine ol_gskip rfl rfl rfl rfl rfl c16 ?_
                  refine ol_gskip rfl rfl rfl rfl rfl c16 ?_
                  refine ol_gskip rfl rfl rfl rfl rfl c16 ?_
                  refine ol_uskip rfl rfl rfl rfl rfl ?_
                  refine ol_uskip rfl rfl rfl rfl rfl ?_
                  refine ol_gskip rfl rfl rfl rfl rfl c16 ?_
                  refine ol_val (v := .bool true) (by exact xr_pickT rfl rfl c16 rfl) rfl rfl rfl ?_
                  refine ol_val (v := .bool true) (by exact xr_assign rfl rfl) rfl rfl rfl ?_
                  refine ol_nil ?_
                  refine thn_i ?_
                  exact ⟨(rfl).trans (congrArg (fun z => (.bool z : Value)) (show true = (if (decide (a0 ≥ 97)) = true then (if (decide (a0 ≤ 122)) = true then true else (if (decide (a0 ≥ 65)) = true then (if (decide (a0 ≤ 90)) = true then true else (if (decide (a0 ≥ 48)) = true then (if (decide (a0 ≤ 57)) = true then true else (if (decide (a0 = 45)) = true then true else (if (decide (a0 = 95)) = true then true else (if (decide (a0 ≥ 161)) = true then (decide (a0 ≤ 65519)) else false)))) else (if (decide (a0 = 45)) = true then true else (if (decide (a0 = 95)) = true then true else (if (decide (a0 ≥ 161)) = true then (decide (a0 ≤ 65519)) else false))))) else (if (decide (a0 ≥ 48)) = true then (if (decide (a0 ≤ 57)) = true then true else (if (decide (a0 = 45)) = true then true else (if (decide (a0 = 95)) = true then true else (if (decide (a0 ≥ 161)) = true then (decide (a0 ≤ 65519)) else false)))) else (if (decide (a0 = 45)) = true then true else (if (decide (a0 = 95)) = true then true else (if (decide (a0 ≥ 161)) = true then (decide (a0 ≤ 65519)) else false)))))) else (if (decide (a0 ≥ 65)) = true then (if (decide (a0 ≤ 90)) = true then true else (if (decide (a0 ≥ 48)) = true then (if (decide (a0 ≤ 57)) = true then true else (if (decide (a0 = 45)) = true then true else (if (decide (a0 = 95)) = true then true else (if (decide (a0 ≥ 161)) = true then (decide (a0 ≤ 65519)) else false)))) else (if (decide (a0 = 45)) = true then true else (if (decide (a0 = 95)) = true then true else (if (decide (a0 ≥ 161)) = true then (decide (a0 ≤ 65519)) else false))))) else (if (decide (a0 ≥ 48)) = true then (if (decide (a0 ≤ 57)) = true then true else (if (decide (a0 = 45)) = true then true else (if (decide (a0 = 95)) = true then true else (if (decide (a0 ≥ 161)) = true then (decide (a0 ≤ 65519)) else false)))) else (if (decide (a0 = 45)) = true then true else (if (decide (a0 = 95)) = true then true else (if (decide (a0 ≥ 161)) = true then (decide (a0 ≤ 65519)) else false)))))) from by rw [ite_t c1, ite_f c2, ite_f c3, ite_t c13, ite_f c14, ite_f c15, ite_t c16])), rfl⟩
                · skip
                  refine ol_gval (v := .int .i64 a0) (by exact xr_move rfl rfl) rfl rfl rfl rfl rfl c16 ?_
                  refine ol_gval (v := .bool (decide (a0 ≥ 161))) (by exact xr_geq rfl rfl rfl) rfl rfl rfl rfl rfl c16 ?_
                  refine ol_gval (v := .bool (decide (a0 ≥ 161))) (by exact xr_move rfl rfl) rfl rfl rfl rfl rfl c16 ?_
                  rcases bt (decide (a0 ≥ 161)) with c17 | c17
                  · skip
                    refine ol_gval (v := .int .i64 a0) (by exact xr_move rfl rfl) rfl rfl rfl rfl rfl c17 ?_
                    refine ol_gval (v := .bool (decide (a0 ≤ 65519))) (by exact xr_leq rfl rfl rfl) rfl rfl rfl rfl rfl c17 ?_
                    refine ol_gval (v := .bool (decide (a0 ≤ 65519))) (by exact xr_pickT rfl rfl c17 rfl) rfl rfl rfl rfl rfl c16 ?_
                    refine ol_val (v := .bool (decide (a0 ≤ 65519))) (by exact xr_pickF rfl rfl c16 rfl) rfl rfl rfl ?_
                    refine ol_val (v := .bool (decide (a0 ≤ 65519))) (by exact xr_assign rfl rfl) rfl rfl rfl ?_
                    refine ol_nil ?_
                    refine thn_i ?_
                    exact ⟨(rfl).trans (congrArg (fun z => (.bool z : Value)) (show (decide (a0 ≤ 65519)) = (if (decide (a0 ≥ 97)) = true then (if (decide (a0 ≤ 122)) = true then true else (if (decide (a0 ≥ 65)) = true then (if (decide (a0 ≤ 90)) = true then true else (if (decide (a0 ≥ 48)) = true then (if (decide (a0 ≤ 57)) = true then true else (if (decide (a0 = 45)) = true then true else (if (decide (a0 = 95)) = true then true else (if (decide (a0 ≥ 161)) = true then (decide (a0 ≤ 65519)) else false)))) else (if (decide (a0 = 45)) = true then true else (if (decide (a0 = 95)) = true then true else (if (decide (a0 ≥ 161)) = true then (decide (a0 ≤ 65519)) else false))))) else (if (decide (a0 ≥ 48)) = true then (if (decide (a0 ≤ 57)) = true then true else (if (decide (a0 = 45)) = true then true else (if (decide (a0 = 95)) = true then true else (if (decide (a0 ≥ 161)) = true then (decide (a0 ≤ 65519)) else false)))) else (if (decide (a0 = 45)) = true then true else (if (decide (a0 = 95)) = true then true else (if (decide (a0 ≥ 161)) = true then (decide (a0 ≤ 65519)) else false)))))) else (if (decide (a0 ≥ 65)) = true then (if (decide (a0 ≤ 90)) = true then true else (if (decide (a0 ≥ 48)) = true then (if (decide (a0 ≤ 57)) = true then true else (if (decide (a0 = 45)) = true then true else (if (decide (a0 = 95)) = true then true else (if (decide (a0 ≥ 161)) = true then (decide (a0 ≤ 65519)) else false)))) else (if (decide (a0 = 45)) = true then true else (if (decide (a0 = 95)) = true then true else (if (decide (a0 ≥ 161)) = true then (decide (a0 ≤ 65519)) else false))))) else (if (decide (a0 ≥ 48)) = true then (if (decide (a0 ≤ 57)) = true then true else (if (decide (a0 = 45)) = true then true else (if (decide (a0 = 95)) = true then true else (if (decide (a0 ≥ 161)) = true then (decide (a0 ≤ 65519)) else false)))) else (if (decide (a0 = 45)) = true then true else (if (decide (a0 = 95)) = true then true else (if (decide (a0 ≥ 161)) = true then (decide (a0 ≤ 65519)) else false)))))) from by rw [ite_t c1, ite_f c2, ite_f c3, ite_t c13, ite_f c14, ite_f c15, ite_f c16, ite_t c17])), rfl⟩
                  · skip
                    refine ol_gskip rfl rfl rfl rfl rfl c17 ?_
                    refine ol_gskip rfl rfl rfl rfl rfl c17 ?_
                    refine ol_gval (v := .bool false) (by exact xr_pickF rfl rfl c17 rfl) rfl rfl rfl rfl rfl c16 ?_
                    refine ol_val (v := .bool false) (by exact xr_pickF rfl rfl c16 rfl) rfl rfl rfl ?_
                    refine ol_val (v := .bool false) (by exact xr_assign rfl rfl) rfl rfl rfl ?_
                    refine ol_nil ?_
                    refine thn_i ?_
                    exact ⟨(rfl).trans (congrArg (fun z => (.bool z : Value)) (show false = (if (decide (a0 ≥ 97)) = true then (if (decide (a0 ≤ 122)) = true then true else (if (decide (a0 ≥ 65)) = true then (if (decide (a0 ≤ 90)) = true then true else (if (decide (a0 ≥ 48)) = true then (if (decide (a0 ≤ 57)) = true then true else (if (decide (a0 = 45)) = true then true else (if (decide (a0 = 95)) = true then true else (if (decide (a0 ≥ 161)) = true then (decide (a0 ≤ 65519)) else false)))) else (if (decide (a0 = 45)) = true then true else (if (decide (a0 = 95)) = true then true else (if (decide (a0 ≥ 161)) = true then (decide (a0 ≤ 65519)) else false))))) else (if (decide (a0 ≥ 48)) = true then (if (decide (a0 ≤ 57)) = true then true else (if (decide (a0 = 45)) = true then true else (if (decide (a0 = 95)) = true then true else (if (decide (a0 ≥ 161)) = true then (decide (a0 ≤ 65519)) else false)))) else (if (decide (a0 = 45)) = true then true else (if (decide (a0 = 95)) = true then true else (if (decide (a0 ≥ 161)) = true then (decide (a0 ≤ 65519)) else false)))))) else (if (decide (a0 ≥ 65)) = true then (if (decide (a0 ≤ 90)) = true then true else (if (decide (a0 ≥ 48)) = true then (if (decide (a0 ≤ 57)) = true then true else (if (decide (a0 = 45)) = true then true else (if (decide (a0 = 95)) = true then true else (if (decide (a0 ≥ 161)) = true then (decide (a0 ≤ 65519)) else false)))) else (if (decide (a0 = 45)) = true then true else (if (decide (a0 = 95)) = true then true else (if (decide (a0 ≥ 161)) = true then (decide (a0 ≤ 65519)) else false))))) else (if (decide (a0 ≥ 48)) = true then (if (decide (a0 ≤ 57)) = true then true else (if (decide (a0 = 45)) = true then true else (if (decide (a0 = 95)) = true then true else (if (decide (a0 ≥ 161)) = true then (decide (a0 ≤ 65519)) else false)))) else (if (decide (a0 = 45)) = true then true else (if (decide (a0 = 95)) = true then true else (if (decide (a0 ≥ 161)) = true then (decide (a0 ≤ 65519)) else false)))))) from by rw [ite_t c1, ite_f c2, ite_f c3, ite_t c13, ite_f c14, ite_f c15, ite_f c16, ite_f c17])), rfl⟩
          · skip
            refine ol_gskip rfl rfl rfl rfl rfl c13 ?_
            refine ol_gskip rfl rfl rfl rfl rfl c13 ?_
            refine ol_gval (v := .bool false) (by exact xr_pickF rfl rfl c13 rfl) rfl rfl rfl rfl rfl rfl ?_
            refine ol_val (v := .bool false) (by exact xr_pickF rfl rfl rfl rfl) rfl rfl rfl ?_
            refine ol_val (v := .bool false) (by exact xr_move rfl rfl) rfl rfl rfl ?_
            refine ol_gval (v := .int .i64 a0) (by exact xr_move rfl rfl) rfl rfl rfl rfl rfl rfl ?_
            refine ol_gval (v := .bool (decide (a0 = 45))) (by exact xr_eqI rfl Try.underlying3 rfl rfl rfl) rfl rfl rfl rfl rfl rfl ?_
            refine ol_val (v := .bool (decide (a0 = 45))) (by exact xr_pickF rfl rfl rfl rfl) rfl rfl rfl ?_
            refine ol_val (v := .bool (decide (a0 = 45))) (by exact xr_move rfl rfl) rfl rfl rfl ?_
            rcases bt (decide (a0 = 45)) with c18 | c18
            · skip
              refine ol_gskip rfl rfl rfl rfl rfl c18 ?_
              refine ol_gskip rfl rfl rfl rfl rfl c18 ?_
              refine ol_val (v := .bool true) (by exact xr_pickT rfl rfl c18 rfl) rfl rfl rfl ?_
              refine ol_val (v := .bool true) (by exact xr_move rfl rfl) rfl rfl rfl ?_
              refine ol_gskip rfl rfl rfl rfl rfl rfl ?_
              refine ol_gskip rfl rfl rfl rfl rfl rfl ?_
              refine ol_gskip rfl rfl rfl rfl rfl rfl ?_
              refine ol_uskip rfl rfl rfl rfl rfl ?_
              refine ol_uskip rfl rfl rfl rfl rfl ?_
              refine ol_gskip rfl rfl rfl rfl rfl rfl ?_
              refine ol_val (v := .bool true) (by exact xr_pickT rfl rfl rfl rfl) rfl rfl rfl ?_
              refine ol_val (v := .bool true) (by exact xr_assign rfl rfl) rfl rfl rfl ?_
              refine ol_nil ?_
              refine thn_i ?_
              exact ⟨(rfl).trans (congrArg (fun z => (.bool z : Value)) (show true = (if (decide (a0 ≥ 97)) = true then (if (decide (a0 ≤ 122)) = true then true else (if (decide (a0 ≥ 65)) = true then (if (decide (a0 ≤ 90)) = true then true else (if (decide (a0 ≥ 48)) = true then (if (decide (a0 ≤ 57)) = true then true else (if (decide (a0 = 45)) = true then true else (if (decide (a0 = 95)) = true then true else (if (decide (a0 ≥ 161)) = true then (decide (a0 ≤ 65519)) else false)))) else (if (decide (a0 = 45)) = true then true else (if (decide (a0 = 95)) = true then true else (if (decide (a0 ≥ 161)) = true then (decide (a0 ≤ 65519)) else false))))) else (if (decide (a0 ≥ 48)) = true then (if (decide (a0 ≤ 57)) = true then true else (if (decide (a0 = 45)) = true then true else (if (decide (a0 = 95)) = true then true else (if (decide (a0 ≥ 161)) = true then (decide (a0 ≤ 65519)) else false)))) else (if (decide (a0 = 45)) = true then true else (if (decide (a0 = 95)) = true then true else (if (decide (a0 ≥ 161)) = true then (decide (a0 ≤ 65519)) else false)))))) else (if (decide (a0 ≥ 65)) = true then (if (decide (a0 ≤ 90)) = true then true else (if (decide (a0 ≥ 48)) = true then (if (decide (a0 ≤ 57)) = true then true else (if (decide (a0 = 45)) = true then true else (if (decide (a0 = 95)) = true then true else (if (decide (a0 ≥ 161)) = true then (decide (a0 ≤ 65519)) else false)))) else (if (decide (a0 = 45)) = true then true else (if (decide (a0 = 95)) = true then true else (if (decide (a0 ≥ 161)) = true then (decide (a0 ≤ 65519)) else false))))) else (if (decide (a0 ≥ 48)) = true then (if (decide (a0 ≤ 57)) = true then true else (if (decide (a0 = 45)) = true then true else (if (decide (a0 = 95)) = true then true else (if (decide (a0 ≥ 161)) = true then (decide (a0 ≤ 65519)) else false)))) else (if (decide (a0 = 45)) = true then true else (if (decide (a0 = 95)) = true then true else (if (decide (a0 ≥ 161)) = true then (decide (a0 ≤ 65519)) else false)))))) from by rw [ite_t c1, ite_f c2, ite_f c3, ite_f c13, ite_t c18])), rfl⟩
            · skip
              refine ol_gval (v := .int .i64 a0) (by exact xr_move rfl rfl) rfl rfl rfl rfl rfl c18 ?_
              refine ol_gval (v := .bool (decide (a0 = 95))) (by exact xr_eqI rfl Try.underlying3 rfl rfl rfl) rfl rfl rfl rfl rfl c18 ?_
              refine ol_val (v := .bool (decide (a0 = 95))) (by exact xr_pickF rfl rfl c18 rfl) rfl rfl rfl ?_
              refine ol_val (v := .bool (decide (a0 = 95))) (by exact xr_move rfl rfl) rfl rfl rfl ?_
              rcases bt (decide (a0 = 95)) with c19 | c19
              · skip
                refine ol_gskip rfl rfl rfl rfl rfl c19 ?_
                refine ol_gskip rfl rfl rfl rfl rfl c19 ?_
                refine ol_gskip rfl rfl rfl rfl rfl c19 ?_
                refine ol_uskip rfl rfl rfl rfl rfl ?_
                refine ol_uskip rfl rfl rfl rfl rfl ?_
                refine ol_gskip rfl rfl rfl rfl rfl c19 ?_
                refine ol_val (v := .bool true) (by exact xr_pickT rfl rfl c19 rfl) rfl rfl rfl ?_
                refine ol_val (v := .bool true) (by exact xr_assign rfl rfl) rfl rfl rfl ?_
                refine ol_nil ?_
                refine thn_i ?_
                exact ⟨(rfl).trans (congrArg (fun z => (.bool z : Value)) (show true = (if (decide (a0 ≥ 97)) = true then (if (decide (a0 ≤ 122)) = true then true else (if (decide (a0 ≥ 65)) = true then (if (decide (a0 ≤ 90)) = true then true else (if (decide (a0 ≥ 48)) = true then (if (decide (a0 ≤ 57)) = true then true else (if (decide (a0 = 45)) = true then true else (if (decide (a0 = 95)) = true then true else (if (decide (a0 ≥ 161)) = true then (decide (a0 ≤ 65519)) else false)))) else (if (decide (a0 = 45)) = true then true else (if (decide (a0 = 95)) = true then true else (if (decide (a0 ≥ 161)) = true then (decide (a0 ≤ 65519)) else false))))) else (if (decide (a0 ≥ 48)) = true then (if (decide (a0 ≤ 57)) = true then true else (if (decide (a0 = 45)) = true then true else (if (decide (a0 = 95)) = true then true else (if (decide (a0 ≥ 161)) = true then (decide (a0 ≤ 65519)) else false)))) else (if (decide (a0 = 45)) = true then true else (if (decide (a0 = 95)) = true then true else (if (decide (a0 ≥ 161)) = true then (decide (a0 ≤ 65519)) else false)))))) else (if (decide (a0 ≥ 65)) = true then (if (decide (a0 ≤ 90)) = true then true else (if (decide (a0 ≥ 48)) = true then (if (decide (a0 ≤ 57)) = true then true else (if (decide (a0 = 45)) = true then true else (if (decide (a0 = 95)) = true then true else (if (decide (a0 ≥ 161)) = true then (decide (a0 ≤ 65519)) else false)))) else (if (decide (a0 = 45)) = true then true else (if (decide (a0 = 95)) = true then true else (if (decide (a0 ≥ 161)) = true then (decide (a0 ≤ 65519)) else false))))) else (if (decide (a0 ≥ 48)) = true then (if (decide (a0 ≤ 57)) = true then true else (if (decide (a0 = 45)) = true then true else (if (decide (a0 = 95)) = true then true else (if (decide (a0 ≥ 161)) = true then (decide (a0 ≤ 65519)) else false)))) else (if (decide (a0 = 45)) = true then true else (if (decide (a0 = 95)) = true then true else (if (decide (a0 ≥ 161)) = true then (decide (a0 ≤ 65519)) else false)))))) from by rw [ite_t c1, ite_f c2, ite_f c3, ite_f c13, ite_f c18, ite_t c19])), rfl⟩
              · skip
                refine ol_gval (v := .int .i64 a0) (by exact xr_move rfl rfl) rfl rfl rfl rfl rfl c19 ?_
                refine ol_gval (v := .bool (decide (a0 ≥ 161))) (by exact xr_geq rfl rfl rfl) rfl rfl rfl rfl rfl c19 ?_
                refine ol_gval (v := .bool (decide (a0 ≥ 161))) (by exact xr_move rfl rfl) rfl rfl rfl rfl rfl c19 ?_
                rcases bt (decide (a0 ≥ 161)) with c20 | c20
                · skip
                  refine ol_gval (v := .int .i64 a0) (by exact xr_move rfl rfl) rfl rfl rfl rfl rfl c20 ?_
                  refine ol_gval (v := .bool (decide (a0 ≤ 65519))) (by exact xr_leq rfl rfl rfl) rfl rfl rfl rfl rfl c20 ?_
                  refine ol_gval (v := .bool (decide (a0 ≤ 65519))) (by exact xr_pickT rfl rfl c20 rfl) rfl rfl rfl rfl rfl c19 ?_
                  refine ol_val (v := .bool (decide (a0 ≤ 65519))) (by exact xr_pickF rfl rfl c19 rfl) rfl rfl rfl ?_
                  refine ol_val (v := .bool (decide (a0 ≤ 65519))) (by exact xr_assign rfl rfl) rfl rfl rfl ?_
                  refine ol_nil ?_
                  refine thn_i ?_
                  exact ⟨(rfl).trans (congrArg (fun z => (.bool z : Value)) (show (decide (a0 ≤ 65519)) = (if (decide (a0 ≥ 97)) = true then (if (decide (a0 ≤ 122)) = true then true else (if (decide (a0 ≥ 65)) = true then (if (decide (a0 ≤ 90)) = true then true else (if (decide (a0 ≥ 48)) = true then (if (decide (a0 ≤ 57)) = true then true else (if (decide (a0 = 45)) = true then true else (if (decide (a0 = 95)) = true then true else (if (decide (a0 ≥ 161)) = true then (decide (a0 ≤ 65519)) else false)))) else (if (decide (a0 = 45)) = true then true else (if (decide (a0 = 95)) = true then true else (if (decide (a0 ≥ 161)) = true then (decide (a0 ≤ 65519)) else false))))) else (if (decide (a0 ≥ 48)) = true then (if (decide (a0 ≤ 57)) = true then true else (if (decide (a0 = 45)) = true then true else (if (decide (a0 = 95)) = true then true else (if (decide (a0 ≥ 161)) = true then (decide (a0 ≤ 65519)) else false)))) else (if (decide (a0 = 45)) = true then true else (if (decide (a0 = 95)) = true then true else (if (decide (a0 ≥ 161)) = true then (decide (a0 ≤ 65519)) else false)))))) else (if (decide (a0 ≥ 65)) = true then (if (decide (a0 ≤ 90)) = true then true else (if (decide (a0 ≥ 48)) = true then (if (decide (a0 ≤ 57)) = true then true else (if (decide (a0 = 45)) = true then true else (if (decide (a0 = 95)) = true then true else (if (decide (a0 ≥ 161)) = true then (decide (a0 ≤ 65519)) else false)))) else (if (decide (a0 = 45)) = true then true else (if (decide (a0 = 95)) = true then true else (if (decide (a0 ≥ 161)) = true then (decide (a0 ≤ 65519)) else false))))) else (if (decide (a0 ≥ 48)) = true then (if (decide (a0 ≤ 57)) = true then true else (if (decide (a0 = 45)) = true then true else (if (decide (a0 = 95)) = true then true else (if (decide (a0 ≥ 161)) = true then (decide (a0 ≤ 65519)) else false)))) else (if (decide (a0 = 45)) = true then true else (if (decide (a0 = 95)) = true then true else (if (decide (a0 ≥ 161)) = true then (decide (a0 ≤ 65519)) else false)))))) from by rw [ite_t c1, ite_f c2, ite_f c3, ite_f c13, ite_f c18, ite_f c19, ite_t c20])), rfl⟩
                · skip
                  refine ol_gskip rfl rfl rfl rfl rfl c20 ?_
                  refine ol_gskip rfl rfl rfl rfl rfl c20 ?_
                  refine ol_gval (v := .bool false) (by exact xr_pickF rfl rfl c20 rfl) rfl rfl rfl rfl rfl c19 ?_
                  refine ol_val (v := .bool false) (by exact xr_pickF rfl rfl c19 rfl) rfl rfl rfl ?_
                  refine ol_val (v := .bool false) (by exact xr_assign rfl rfl) rfl rfl rfl ?_
                  refine ol_nil ?_
                  refine thn_i ?_
                  exact ⟨(rfl).trans (congrArg (fun z => (.bool z : Value)) (show false = (if (decide (a0 ≥ 97)) = true then (if (decide (a0 ≤ 122)) = true then true else (if (decide (a0 ≥ 65)) = true then (if (decide (a0 ≤ 90)) = true then true else (if (decide (a0 ≥ 48)) = true then (if (decide (a0 ≤ 57)) = true then true else (if (decide (a0 = 45)) = true then true else (if (decide (a0 = 95)) = true then true else (if (decide (a0 ≥ 161)) = true then (decide (a0 ≤ 65519)) else false)))) else (if (decide (a0 = 45)) = true then true else (if (decide (a0 = 95)) = true then true else (if (decide (a0 ≥ 161)) = true then (decide (a0 ≤ 65519)) else false))))) else (if (decide (a0 ≥ 48)) = true then (if (decide (a0 ≤ 57)) = true then true else (if (decide (a0 = 45)) = true then true else (if (decide (a0 = 95)) = true then true else (if (decide (a0 ≥ 161)) = true then (decide (a0 ≤ 65519)) else false)))) else (if (decide (a0 = 45)) = true then true else (if (decide (a0 = 95)) = true then true else (if (decide (a0 ≥ 161)) = true then (decide (a0 ≤ 65519)) else false)))))) else (if (decide (a0 ≥ 65)) = true then (if (decide (a0 ≤ 90)) = true then true else (if (decide (a0 ≥ 48)) = true then (if (decide (a0 ≤ 57)) = true then true else (if (decide (a0 = 45)) = true then true else (if (decide (a0 = 95)) = true then true else (if (decide (a0 ≥ 161)) = true then (decide (a0 ≤ 65519)) else false)))) else (if (decide (a0 = 45)) = true then true else (if (decide (a0 = 95)) = true then true else (if (decide (a0 ≥ 161)) = true then (decide (a0 ≤ 65519)) else false))))) else (if (decide (a0 ≥ 48)) = true then (if (decide (a0 ≤ 57)) = true then true else (if (decide (a0 = 45)) = true then true else (if (decide (a0 = 95)) = true then true else (if (decide (a0 ≥ 161)) = true then (decide (a0 ≤ 65519)) else false)))) else (if (decide (a0 = 45)) = true then true else (if (decide (a0 = 95)) = true then true else (if (decide (a0 ≥ 161)) = true then (decide (a0 ≤ 65519)) else false)))))) from by rw [ite_t c1, ite_f c2, ite_f c3, ite_f c13, ite_f c18, ite_f c19, ite_f c20])), rfl⟩
    · skip
      refine ol_gskip rfl rfl rfl rfl rfl c1 ?_
      refine ol_gskip rfl rfl rfl rfl rfl c1 ?_
      refine ol_val (v := .bool false) (by exact xr_pickF rfl rfl c1 rfl) rfl rfl rfl ?_
      refine ol_val (v := .bool false) (by exact xr_move rfl rfl) rfl rfl rfl ?_
      refine ol_gval (v := .int .i64 a0) (by exact xr_move rfl rfl) rfl rfl rfl rfl rfl rfl ?_
      refine ol_gval (v := .bool (decide (a0 ≥ 65))) (by exact xr_geq rfl rfl rfl) rfl rfl rfl rfl rfl rfl ?_
      refine ol_gval (v := .bool (decide (a0 ≥ 65))) (by exact xr_move rfl rfl) rfl rfl rfl rfl rfl rfl ?_
      rcases bt (decide (a0 ≥ 65)) with c21 | c21
      · skip
        refine ol_gval (v := .int .i64 a0) (by exact xr_move rfl rfl) rfl rfl rfl rfl rfl c21 ?_
        refine ol_gval (v := .bool (decide (a0 ≤ 90))) (by exact xr_leq rfl rfl rfl) rfl rfl rfl rfl rfl c21 ?_
        refine ol_gval (v := .bool (decide (a0 ≤ 90))) (by exact xr_pickT rfl rfl c21 rfl) rfl rfl rfl rfl rfl rfl ?_
        refine ol_val (v := .bool (decide (a0 ≤ 90))) (by exact xr_pickF rfl rfl rfl rfl) rfl rfl rfl ?_
        refine ol_val (v := .bool (decide (a0 ≤ 90))) (by exact xr_move rfl rfl) rfl rfl rfl ?_
        rcases bt (decide (a0 ≤ 90)) with c22 | c22
        · skip
          refine ol_gskip rfl rfl rfl rfl rfl c22 ?_
          refine ol_gskip rfl rfl rfl rfl rfl c22 ?_
          refine ol_gskip rfl rfl rfl rfl rfl c22 ?_
          refine ol_uskip rfl rfl rfl rfl rfl ?_
          refine ol_uskip rfl rfl rfl rfl rfl ?_
          refine ol_gskip rfl rfl rfl rfl rfl c22 ?_
          refine ol_val (v := .bool true) (by exact xr_pickT rfl rfl c22 rfl) rfl rfl rfl ?_
          refine ol_val (v := .bool true) (by exact xr_move rfl rfl) rfl rfl rfl ?_
          refine ol_gskip rfl rfl rfl rfl rfl rfl ?_
          refine ol_gskip rfl rfl rfl rfl rfl rfl ?_
          refine ol_val (v := .bool true) (by exact xr_pickT rfl rfl rfl rfl) rfl rfl rfl ?_
          refine ol_val (v := .bool true) (by exact xr_move rfl rfl) rfl rfl rfl ?_
          refine ol_gskip rfl rfl rfl rfl rfl rfl ?_
          refine ol_gskip rfl rfl rfl rfl rfl rfl ?_
          refine ol_val (v := .bool true) (by exact xr_pickT rfl rfl rfl rfl) rfl rfl rfl ?_
          refine ol_val (v := .bool true) (by exact xr_move rfl rfl) rfl rfl rfl ?_
          refine ol_gskip rfl rfl rfl rfl rfl rfl ?_
          refine ol_gskip rfl rfl rfl rfl rfl rfl ?_
          refine ol_gskip rfl rfl rfl rfl rfl rfl ?_
          refine ol_uskip rfl rfl rfl rfl rfl ?_
          refine ol_uskip rfl rfl rfl rfl rfl ?_
          refine ol_gskip rfl rfl rfl rfl rfl rfl ?_
          refine ol_val (v := .bool true) (by exact xr_pickT rfl rfl rfl rfl) rfl rfl rfl ?_
          refine ol_val (v := .bool true) (by exact xr_assign rfl rfl) rfl rfl rfl ?_
          refine ol_nil ?_
          refine thn_i ?_
          exact ⟨(rfl).trans (congrArg (fun z => (.bool z : Value)) (show true = (if (decide (a0 ≥ 97)) = true then (if (decide (a0 ≤ 122)) = true then true else (if (decide (a0 ≥ 65)) = true then (if (decide (a0 ≤ 90)) = true then true else (if (decide (a0 ≥ 48)) = true then (if (decide (a0 ≤ 57)) = true then true else (if (decide (a0 = 45)) = true then true else (if (decide (a0 = 95)) = true then true else (if (decide (a0 ≥ 161)) = true then (decide (a0 ≤ 65519)) else false)))) else (if (decide (a0 = 45)) = true then true else (if (decide (a0 = 95)) = true then true else (if (decide (a0 ≥ 161)) = true then (decide (a0 ≤ 65519)) else false))))) else (if (decide (a0 ≥ 48)) = true then (if (decide (a0 ≤ 57)) = true then true else (if (decide (a0 = 45)) = true then true else (if (decide (a0 = 95)) = true then true else (if (decide (a0 ≥ 161)) = true then (decide (a0 ≤ 65519)) else false)))) else (if (decide (a0 = 45)) = true then true else (if (decide (a0 = 95)) = true then true else (if (decide (a0 ≥ 161)) = true then (decide (a0 ≤ 65519)) else false)))))) else (if (decide (a0 ≥ 65)) = true then (if (decide (a0 ≤ 90)) = true then true else (if (decide (a0 ≥ 48)) = true then (if (decide (a0 ≤ 57)) = true then true else (if (decide (a0 = 45)) = true then true else (if (decide (a0 = 95)) = true then true else (if (decide (a0 ≥ 161)) = true then (decide (a0 ≤ 65519)) else false)))) else (if (decide (a0 = 45)) = true then true else (if (decide (a0 = 95)) = true then true else (if (decide (a0 ≥ 161)) = true then (decide (a0 ≤ 65519)) else false))))) else (if (decide (a0 ≥ 48)) = true then (if (decide (a0 ≤ 57)) = true then true else (if (decide (a0 = 45)) = true then true else (if (decide (a0 = 95)) = true then true else (if (decide (a0 ≥ 161)) = true then (decide (a0 ≤ 65519)) else false)))) else (if (decide (a0 = 45)) = true then true else (if (decide (a0 = 95)) = true then true else (if (decide (a0 ≥ 161)) = true then (decide (a0 ≤ 65519)) else false)))))) from by rw [ite_f c1, ite_t c21, ite_t c22])), rfl⟩
        · skip
          refine ol_gval (v := .int .i64 a0) (by exact xr_move rfl rfl) rfl rfl rfl rfl rfl c22 ?_
          refine ol_gval (v := .bool (decide (a0 ≥ 48))) (by exact xr_geq rfl rfl rfl) rfl rfl rfl rfl rfl c22 ?_
          refine ol_gval (v := .bool (decide (a0 ≥ 48))) (by exact xr_move rfl rfl) rfl rfl rfl rfl rfl c22 ?_
          rcases bt (decide (a0 ≥ 48)) with c23 | c23
          · skip
            refine ol_gval (v := .int .i64 a0) (by exact xr_move rfl rfl) rfl rfl rfl rfl rfl c23 ?_
            refine ol_gval (v := .bool (decide (a0 ≤ 57))) (by exact xr_leq rfl rfl rfl) rfl rfl rfl rfl rfl c23 ?_
            refine ol_gval (v := .bool (decide (a0 ≤ 57))) (by exact xr_pickT rfl rfl c23 rfl) rfl rfl rfl rfl rfl c22 ?_
            refine ol_val (v := .bool (decide (a0 ≤ 57))) (by exact xr_pickF rfl rfl c22 rfl) rfl rfl rfl ?_
            refine ol_val (v := .bool (decide (a0 ≤ 57))) (by exact xr_move rfl rfl) rfl rfl rfl ?_
            rcases bt (decide (a0 ≤ 57)) with c24 | c24
            · skip
              refine ol_gskip rfl rfl rfl rfl rfl c24 ?_
              refine ol_gskip rfl rfl rfl rfl rfl c24 ?_
              refine ol_val (v := .bool true) (by exact xr_pickT rfl rfl c24 rfl) rfl rfl rfl ?_
              refine ol_val (v := .bool true) (by exact xr_move rfl rfl) rfl rfl rfl ?_
              refine ol_gskip rfl rfl rfl rfl rfl rfl ?_
              refine ol_gskip rfl rfl rfl rfl rfl rfl ?_
              refine ol_val (v := .bool true) (by exact xr_pickT rfl rfl rfl rfl) rfl rfl rfl ?_
              refine ol_val (v := .bool true) (by exact xr_move rfl rfl) rfl rfl rfl ?_
              refine ol_gskip rfl rfl rfl rfl rfl rfl ?_
              refine ol_gskip rfl rfl rfl rfl rfl rfl ?_
              refine ol_gskip rfl rfl rfl rfl rfl rfl ?_
              refine ol_uskip rfl rfl rfl rfl rfl ?_
              refine ol_uskip rfl rfl rfl rfl rfl ?_
              refine ol_gskip rfl rfl rfl rfl rfl rfl ?_
              refine ol_val (v := .bool true) (by exact xr_pickT rfl rfl rfl rfl) rfl rfl rfl ?_
              refine ol_val (v := .bool true) (by exact xr_assign rfl rfl) rfl rfl rfl ?_
              refine ol_nil ?_
              refine thn_i ?_
              exact ⟨(rfl).trans (congrArg (fun z => (.bool z : Value)) (show true = (if (decide (a0 ≥ 97)) = true then (if (decide (a0 ≤ 122)) = true then true else (if (decide (a0 ≥ 65)) = true then (if (decide (a0 ≤ 90)) = true then true else (if (decide (a0 ≥ 48)) = true then (if (decide (a0 ≤ 57)) = true then true else (if (decide (a0 = 45)) = true then true else (if (decide (a0 = 95)) = true then true else (if (decide (a0 ≥ 161)) = true then (decide (a0 ≤ 65519)) else false)))) else (if (decide (a0 = 45)) = true then true else (if (decide (a0 = 95)) = true then true else (if (decide (a0 ≥ 161)) = true then (decide (a0 ≤ 65519)) else false))))) else (if (decide (a0 ≥ 48)) = true then (if (decide (a0 ≤ 57)) = true then true else (if (decide (a0 = 45)) = true then true else (if (decide (a0 = 95)) = true then true else (if (decide (a0 ≥ 161)) = true then (decide (a0 ≤ 65519)) else false)))) else (if (decide (a0 = 45)) = true then true else (if (decide (a0 = 95)) = true then true else (if (decide (a0 ≥ 161)) = true then (decide (a0 ≤ 65519)) else false)))))) else (if (decide (a0 ≥ 65)) = true then (if (decide (a0 ≤ 90)) = true then true else (if (decide (a0 ≥ 48)) = true then (if (decide (a0 ≤ 57)) = true then true else (if (decide (a0 = 45)) = true then true else (if (decide (a0 = 95)) = true then true else (if (decide (a0 ≥ 161)) = true then (decide (a0 ≤ 65519)) else false)))) else (if (decide (a0 = 45)) = true then true else (if (decide (a0 = 95)) = true then true else (if (decide (a0 ≥ 161)) = true then (decide (a0 ≤ 65519)) else false))))) else (if (decide (a0 ≥ 48)) = true then (if (decide (a0 ≤ 57)) = true then true else (if (decide (a0 = 45)) = true then true else (if (decide (a0 = 95)) = true then true else (if (decide (a0 ≥ 161)) = true then (decide (a0 ≤ 65519)) else false)))) else (if (decide (a0 = 45)) = true then true else (if (decide (a0 = 95)) = true then true else (if (decide (a0 ≥ 161)) = true then (decide (a0 ≤ 65519)) else false)))))) from by rw [ite_f c1, ite_t c21, ite_f c22, ite_t c23, ite_t c24])), rfl⟩
            · skip
              refine ol_gval (v := .int .i64 a0) (by exact xr_move rfl rfl) rfl rfl rfl rfl rfl c24 ?_
              refine ol_gval (v := .bool (decide (a0 = 45))) (by exact xr_eqI rfl Try.underlying3 rfl rfl rfl) rfl rfl rfl rfl rfl c24 ?_
              refine ol_val (v := .bool (decide (a0 = 45))) (by exact xr_pickF rfl rfl c24 rfl) rfl rfl rfl ?_
              refine ol_val (v := .bool (decide (a0 = 45))) (by exact xr_move rfl rfl) rfl rfl rfl ?_
              rcases bt (decide (a0 = 45)) with c25 | c25
              · skip
                refine ol_gskip rfl rfl rfl rfl rfl c25 ?_
                refine ol_gskip rfl rfl rfl rfl rfl c25 ?_
                refine ol_val (v := .bool true) (by exact xr_pickT rfl rfl c25 rfl) rfl rfl rfl ?_
                refine ol_val (v := .bool true) (by exact xr_move rfl rfl) rfl rfl rfl ?_
                refine ol_gskip rfl rfl rfl rfl rfl rfl ?_
                refine ol_gskip rfl rfl rfl rfl rfl rfl ?_
                refine ol_gskip rfl rfl rfl rfl rfl rfl ?_
                refine ol_uskip rfl rfl rfl rfl rfl ?_
                refine ol_uskip rfl rfl rfl rfl rfl ?_
                refine ol_gskip rfl rfl rfl rfl rfl rfl ?_
                refine ol_val (v := .bool true) (by exact xr_pickT rfl rfl rfl rfl) rfl rfl rfl ?_
                refine ol_val (v := .bool true) (by exact xr_assign rfl rfl) rfl rfl rfl ?_
                refine ol_nil ?_
                refine thn_i ?_
                exact ⟨(rfl).trans (congrArg (fun z => (.bool z : Value)) (show true = (if (decide (a0 ≥ 97)) = true then (if (decide (a0 ≤ 122)) = true then true else (if (decide (a0 ≥ 65)) = true then (if (decide (a0 ≤ 90)) = true then true else (if (decide (a0 ≥ 48)) = true then (if (decide (a0 ≤ 57)) = true then true else (if (decide (a0 = 45)) = true then true else (if (decide (a0 = 95)) = true then true else (if (decide (a0 ≥ 161)) = true then (decide (a0 ≤ 65519)) else false)))) else (if (decide (a0 = 45)) = true then true else (if (decide (a0 = 95)) = true then true else (if (decide (a0 ≥ 161)) = true then (decide (a0 ≤ 65519)) else false))))) else (if (decide (a0 ≥ 48)) = true then (if (decide (a0 ≤ 57)) = true then true else (if (decide (a0 = 45)) = true then true else (if (decide (a0 = 95)) = true then true else (if (decide (a0 ≥ 161)) = true then (decide (a0 ≤ 65519)) else false)))) else (if (decide (a0 = 45)) = true then true else (if (decide (a0 = 95)) = true then true else (if (decide (a0 ≥ 161)) = true then (decide (a0 ≤ 65519)) else false)))))) else (if (decide (a0 ≥ 65)) = true then (if (decide (a0 ≤ 90)) = true then true else (if (decide (a0 ≥ 48)) = true then (if (decide (a0 ≤ 57)) = true then true else (if (decide (a0 = 45)) = true then true else (if (decide (a0 = 95)) = true then true else (if (decide (a0 ≥ 161)) = true then (decide (a0 ≤ 65519)) else false)))) else (if (decide (a0 = 45)) = true then true else (if (decide (a0 = 95)) = true then true else (if (decide (a0 ≥ 161)) = true then (decide (a0 ≤ 65519)) else false))))) else (if (decide (a0 ≥ 48)) = true then (if (decide (a0 ≤ 57)) = true then true else (if (decide (a0 = 45)) = true then true else (if (decide (a0 = 95)) = true then true else (if (decide (a0 ≥ 161)) = true then (decide (a0 ≤ 65519)) else false)))) else (if (decide (a0 = 45)) = true then true else (if (decide (a0 = 95)) = true then true else (if (decide (a0 ≥ 161)) = true then (decide (a0 ≤ 65519)) else false)))))) from by rw [ite_f c1, ite_t c21, ite_f c22, ite_t c23, ite_f c24, ite_t c25])), rfl⟩
              · skip
                refine ol_gval (v := .int .i64 a0) (by exact xr_move rfl rfl) rfl rfl rfl rfl rfl c25 ?_
                refine ol_gval (v := .bool (decide (a0 = 95))) (by exact xr_eqI rfl Try.underlying3 rfl rfl rfl) rfl rfl rfl rfl rfl c25 ?_
                refine ol_val (v := .bool (decide (a0 = 95))) (by exact xr_pickF rfl rfl c25 rfl) rfl rfl rfl ?_
                refine ol_val (v := .bool (decide (a0 = 95))) (by exact xr_move rfl rfl) rfl rfl rfl ?_
                rcases bt (decide (a0 = 95)) with c26 | c26
                · skip
                  refine ol_gskip rfl rfl rfl rfl rfl c26 ?_
                  refine ol_gskip rfl rfl rfl rfl rfl c26 ?_
                  refine ol_gskip rfl rfl rfl rfl rfl c26 ?_
                  refine ol_uskip rfl rfl rfl rfl rfl ?_
                  refine ol_uskip rfl rfl rfl rfl rfl ?_
                  refine ol_gskip rfl rfl rfl rfl rfl c26 ?_
                  refine ol_val (v := .bool true) (by exact xr_pickT rfl rfl c26 rfl) rfl rfl rfl ?_
                  refine ol_val (v := .bool true) (by exact xr_assign rfl rfl) rfl rfl rfl ?_
                  refine ol_nil ?_
                  refine thn_i ?_
                  exact ⟨(rfl).trans (congrArg (fun z => (.bool z : Value)) (show true = (if (decide (a0 ≥ 97)) = true then (if (decide (a0 ≤ 122)) = true then true else (if (decide (a0 ≥ 65)) = true then (if (decide (a0 ≤ 90)) = true then true else (if (decide (a0 ≥ 48)) = true then (if (decide (a0 ≤ 57)) = true then true else (if (decide (a0 = 45)) = true then true else (if (decide (a0 = 95)) = true then true else (if (decide (a0 ≥ 161)) = true then (decide (a0 ≤ 65519)) else false)))) else (if (decide (a0 = 45)) = true then true else (if (decide (a0 = 95)) = true then true else (if (decide (a0 ≥ 161)) = true then (decide (a0 ≤ 65519)) else false))))) else (if (decide (a0 ≥ 48)) = true then (if (decide (a0 ≤ 57)) = true then true else (if (decide (a0 = 45)) = true then true else (if (decide (a0 = 95)) = true then true else (if (decide (a0 ≥ 161)) = true then (decide (a0 ≤ 65519)) else false)))) else (if (decide (a0 = 45)) = true then true else (if (decide (a0 = 95)) = true then true else (if (decide (a0 ≥ 161)) = true then (decide (a0 ≤ 65519)) else false)))))) else (if (decide (a0 ≥ 65)) = true then (if (decide (a0 ≤ 90)) = true then true else (if (decide (a0 ≥ 48)) = true then (if (decide (a0 ≤ 57)) = true then true else (if (decide (a0 = 45)) = true then true else (if (decide (a0 = 95)) = true then true else (if (decide (a0 ≥ 161)) = true then (decide (a0 ≤ 65519)) else false)))) else (if (decide (a0 = 45)) = true then true else (if (decide (a0 = 95)) = true then true else (if (decide (a0 ≥ 161)) = true then (decide (a0 ≤ 65519)) else false))))) else (if (decide (a0 ≥ 48)) = true then (if (decide (a0 ≤ 57)) = true then true else (if (decide (a0 = 45)) = true then true else (if (decide (a0 = 95)) = true then true else (if (decide (a0 ≥ 161)) = true then (decide (a0 ≤ 65519)) else false)))) else (if (decide (a0 = 45)) = true then true else (if (decide (a0 = 95)) = true then true else (if (decide (a0 ≥ 161)) = true then (decide (a0 ≤ 65519)) else false)))))) from by rw [ite_f c1, ite_t c21, ite_f c22, ite_t c23, ite_f c24, ite_f c25, ite_t c26])), rfl⟩
                · skip
                  refine ol_gval (v := .int .i64 a0) (by exact xr_move rfl rfl) rfl rfl rfl rfl rfl c26 ?_
                  refine ol_gval (v := .bool (decide (a0 ≥ 161))) (by exact xr_geq rfl rfl rfl) rfl rfl rfl rfl rfl c26 ?_
                  refine ol_gval (v := .bool (decide (a0 ≥ 161))) (by exact xr_move rfl rfl) rfl rfl rfl rfl rfl c26 ?_
                  rcases bt (decide (a0 ≥ 161)) with c27 | c27
                  · skip
                    refine ol_gval (v := .int .i64 a0) (by exact xr_move rfl rfl) rfl rfl rfl rfl rfl c27 ?_
                    refine ol_gval (v := .bool (decide (a0 ≤ 65519))) (by exact xr_leq rfl rfl rfl) rfl rfl rfl rfl rfl c27 ?_
                    refine ol_gval (v := .bool (decide (a0 ≤ 65519))) (by exact xr_pickT rfl rfl c27 rfl) rfl rfl rfl rfl rfl c26 ?_
                    refine ol_val (v := .bool (decide (a0 ≤ 65519))) (by exact xr_pickF rfl rfl c26 rfl) rfl rfl rfl ?_
                    refine ol_val (v := .bool (decide (a0 ≤ 65519))) (by exact xr_assign rfl rfl) rfl rfl rfl ?_
                    refine ol_nil ?_
                    refine thn_i ?_
                    exact ⟨(rfl).trans (congrArg (fun z => (.bool z : Value)) (show (decide (a0 ≤ 65519)) = (if (decide (a0 ≥ 97)) = true then (if (decide (a0 ≤ 122)) = true then true else (if (decide (a0 ≥ 65)) = true then (if (decide (a0 ≤ 90)) = true then true else (if (decide (a0 ≥ 48)) = true then (if (decide (a0 ≤ 57)) = true then true else (if (decide (a0 = 45)) = true then true else (if (decide (a0 = 95)) = true then true else (if (decide (a0 ≥ 161)) = true then (decide (a0 ≤ 65519)) else false)))) else (if (decide (a0 = 45)) = true then true else (if (decide (a0 = 95)) = true then true else (if (decide (a0 ≥ 161)) = true then (decide (a0 ≤ 65519)) else false))))) else (if (decide (a0 ≥ 48)) = true then (if (decide (a0 ≤ 57)) = true then true else (if (decide (a0 = 45)) = true then true else (if (decide (a0 = 95)) = true then true else (if (decide (a0 ≥ 161)) = true then (decide (a0 ≤ 65519)) else false)))) else (if (decide (a0 = 45)) = true then true else (if (decide (a0 = 95)) = true then true else (if (decide (a0 ≥ 161)) = true then (decide (a0 ≤ 65519)) else false)))))) else (if (decide (a0 ≥ 65)) = true then (if (decide (a0 ≤ 90)) = true then true else (if (decide (a0 ≥ 48)) = true then (if (decide (a0 ≤ 57)) = true then true else (if (decide (a0 = 45)) = true then true else (if (decide (a0 = 95)) = true then true else (if (decide (a0 ≥ 161)) = true then (decide (a0 ≤ 65519)) else false)))) else (if (decide (a0 = 45)) = true then true else (if (decide (a0 = 95)) = true then true else (if (decide (a0 ≥ 161)) = true then (decide (a0 ≤ 65519)) else false))))) else (if (decide (a0 ≥ 48)) = true then (if (decide (a0 ≤ 57)) = true then true else (if (decide (a0 = 45)) = true then true else (if (decide (a0 = 95)) = true then true else (if (decide (a0 ≥ 161)) = true then (decide (a0 ≤ 65519)) else false)))) else (if (decide (a0 = 45)) = true then true else (if (decide (a0 = 95)) = true then true else (if (decide (a0 ≥ 161)) = true then (decide (a0 ≤ 65519)) else false)))))) from by rw [ite_f c1, ite_t c21, ite_f c22, ite_t c23, ite_f c24, ite_f c25, ite_f c26, ite_t c27])), rfl⟩
                  · skip
                    refine ol_gskip rfl rfl rfl rfl rfl c27 ?_
                    refine ol_gskip rfl rfl rfl rfl rfl c27 ?_
                    refine ol_gval (v := .bool false) (by exact xr_pickF rfl rfl c27 rfl) rfl rfl rfl rfl rfl c26 ?_
                    refine ol_val (v := .bool false) (by exact xr_pickF rfl rfl c26 rfl) rfl rfl rfl ?_
                    refine ol_val (v := .bool false) (by exact xr_assign rfl rfl) rfl rfl rfl ?_
                    refine ol_nil ?_
                    refine thn_i ?_
                    exact ⟨(rfl).trans (congrArg (fun z => (.bool z : Value)) (show false = (if (decide (a0 ≥ 97)) = true then (if (decide (a0 ≤ 122)) = true then true else (if (decide (a0 ≥ 65)) = true then (if (decide (a0 ≤ 90)) = true then true else (if (decide (a0 ≥ 48)) = true then (if (decide (a0 ≤ 57)) = true then true else (if (decide (a0 = 45)) = true then true else (if (decide (a0 = 95)) = true then true else (if (decide (a0 ≥ 161)) = true then (decide (a0 ≤ 65519)) else false)))) else (if (decide (a0 = 45)) = true then true else (if (decide (a0 = 95)) = true then true else (if (decide (a0 ≥ 161)) = true then (decide (a0 ≤ 65519)) else false))))) else (if (decide (a0 ≥ 48)) = true then (if (decide (a0 ≤ 57)) = true then true else (if (decide (a0 = 45)) = true then true else (if (decide (a0 = 95)) = true then true else (if (decide (a0 ≥ 161)) = true then (decide (a0 ≤ 65519)) else false)))) else (if (decide (a0 = 45)) = true then true else (if (decide (a0 = 95)) = true then true else (if (decide (a0 ≥ 161)) = true then (decide (a0 ≤ 65519)) else false)))))) else (if (decide (a0 ≥ 65)) = true then (if (decide (a0 ≤ 90)) = true then true else (if (decide (a0 ≥ 48)) = true then (if (decide (a0 ≤ 57)) = true then true else (if (decide (a0 = 45)) = true then true else (if (decide (a0 = 95)) = true then true else (if (decide (a0 ≥ 161)) = true then (decide (a0 ≤ 65519)) else false)))) else (if (decide (a0 = 45)) = true then true else (if (decide (a0 = 95)) = true then true else (if (decide (a0 ≥ 161)) = true then (decide (a0 ≤ 65519)) else false))))) else (if (decide (a0 ≥ 48)) = true then (if (decide (a0 ≤ 57)) = true then true else (if (decide (a0 = 45)) = true then true else (if (decide (a0 = 95)) = true then true else (if (decide (a0 ≥ 161)) = true then (decide (a0 ≤ 65519)) else false)))) else (if (decide (a0 = 45)) = true then true else (if (decide (a0 = 95)) = true then true else (if (decide (a0 ≥ 161)) = true then (decide (a0 ≤ 65519)) else false)))))) from by rw [ite_f c1, ite_t c21, ite_f c22, ite_t c23, ite_f c24, ite_f c25, ite_f c26, ite_f c27])), rfl⟩
          · skip
            refine ol_gskip rfl rfl rfl rfl rfl c23 ?_
            refine ol_gskip rfl rfl rfl rfl rfl c23 ?_
            refine ol_gval (v := .bool false) (by exact xr_pickF rfl rfl c23 rfl) rfl rfl rfl rfl rfl c22 ?_
            refine ol_val (v := .bool false) (by exact xr_pickF rfl rfl c22 rfl) rfl rfl rfl ?_
            refine ol_val (v := .bool false) (by exact xr_move rfl rfl) rfl rfl rfl ?_
            refine ol_gval (v := .int .i64 a0) (by exact xr_move rfl rfl) rfl rfl rfl rfl rfl rfl ?_
            refine ol_gval (v := .bool (decide (a0 = 45))) (by exact xr_eqI rfl Try.underlying3 rfl rfl rfl) rfl rfl rfl rfl rfl rfl ?_
            refine ol_val (v := .bool (decide (a0 = 45))) (by exact xr_pickF rfl rfl rfl rfl) rfl rfl rfl ?_
            refine ol_val (v := .bool (decide (a0 = 45))) (by exact xr_move rfl rfl) rfl rfl rfl ?_
            rcases bt (decide (a0 = 45)) with c28 | c28
            · skip
              refine ol_gskip rfl rfl rfl rfl rfl c28 ?_
              refine ol_gskip rfl rfl rfl rfl rfl c28 ?_
              refine ol_val (v := .bool true) (by exact xr_pickT rfl rfl c28 rfl) rfl rfl rfl ?_
              refine ol_val (v := .bool true) (by exact xr_move rfl rfl) rfl rfl rfl ?_
              refine ol_gskip rfl rfl rfl rfl rfl rfl ?_
              refine ol_gskip rfl rfl rfl rfl rfl rfl ?_
              refine ol_gskip rfl rfl rfl rfl rfl rfl ?_
              refine ol_uskip rfl rfl rfl rfl rfl ?_
              refine ol_uskip rfl rfl rfl rfl rfl ?_
              refine ol_gskip rfl rfl rfl rfl rfl rfl ?_
              refine ol_val (v := .bool true) (by exact xr_pickT rfl rfl rfl rfl) rfl rfl rfl ?_
              refine ol_val (v := .bool true) (by exact xr_assign rfl rfl) rfl rfl rfl ?_
              refine ol_nil ?_
              refine thn_i ?_
              exact ⟨(rfl).trans (congrArg (fun z => (.bool z : Value)) (show true = (if (decide (a0 ≥ 97)) = true then (if (decide (a0 ≤ 122)) = true then true else (if (decide (a0 ≥ 65)) = true then (if (decide (a0 ≤ 90)) = true then true else (if (decide (a0 ≥ 48)) = true then (if (decide (a0 ≤ 57)) = true then true else (if (decide (a0 = 45)) = true then true else (if (decide (a0 = 95)) = true then true else (if (decide (a0 ≥ 161)) = true then (decide (a0 ≤ 65519)) else false)))) else (if (decide (a0 = 45)) = true then true else (if (decide (a0 = 95)) = true then true else (if (decide (a0 ≥ 161)) = true then (decide (a0 ≤ 65519)) else false))))) else (if (decide (a0 ≥ 48)) = true then (if (decide (a0 ≤ 57)) = true then true else (if (decide (a0 = 45)) = true then true else (if (decide (a0 = 95)) = true then true else (if (decide (a0 ≥ 161)) = true then (decide (a0 ≤ 65519)) else false)))) else (if (decide (a0 = 45)) = true then true else (if (decide (a0 = 95)) = true then true else (if (decide (a0 ≥ 161)) = true then (decide (a0 ≤ 65519)) else false)))))) else (if (decide (a0 ≥ 65)) = true then (if (decide (a0 ≤ 90)) = true then true else (if (decide (a0 ≥ 48)) = true then (if (decide (a0 ≤ 57)) = true then true else (if (decide (a0 = 45)) = true then true else (if (decide (a0 = 95)) = true then true else (if (decide (a0 ≥ 161)) = true then (decide (a0 ≤ 65519)) else false)))) else (if (decide (a0 = 45)) = true then true else (if (decide (a0 = 95)) = true then true else (if (decide (a0 ≥ 161)) = true then (decide (a0 ≤ 65519)) else false))))) else (if (decide (a0 ≥ 48)) = true then (if (decide (a0 ≤ 57)) = true then true else (if (decide (a0 = 45)) = true then true else (if (decide (a0 = 95)) = true then true else (if (decide (a0 ≥ 161)) = true then (decide (a0 ≤ 65519)) else false)))) else (if (decide (a0 = 45)) = true then true else (if (decide (a0 = 95)) = true then true else (if (decide (a0 ≥ 161)) = true then (decide (a0 ≤ 65519)) else false)))))) from by rw [ite_f c1, ite_t c21, ite_f c22, ite_f c23, ite_t c28])), rfl⟩
            · skip
              refine ol_gval (v := .int .i64 a0) (by exact xr_move rfl rfl) rfl rfl rfl rfl rfl c28 ?_
              refine ol_gval (v := .bool (decide (a0 = 95))) (by exact xr_eqI rfl Try.underlying3 rfl rfl rfl) rfl rfl rfl rfl rfl c28 ?_
              refine ol_val (v := .bool (decide (a0 = 95))) (by exact xr_pickF rfl rfl c28 rfl) rfl rfl rfl ?_
              refine ol_val (v := .bool (decide (a0 = 95))) (by exact xr_move rfl rfl) rfl rfl rfl ?_
              rcases bt (decide (a0 = 95)) with c29 | c29
              · skip
                refine ol_gskip rfl rfl rfl rfl rfl c29 ?_
                refine ol_gskip rfl rfl rfl rfl rfl c29 ?_
                refine ol_gskip rfl rfl rfl rfl rfl c29 ?_
                refine ol_uskip rfl rfl rfl rfl rfl ?_
                refine ol_uskip rfl rfl rfl rfl rfl ?_
                refine ol_gskip rfl rfl rfl rfl rfl c29 ?_
                refine ol_val (v := .bool true) (by exact xr_pickT rfl rfl c29 rfl) rfl rfl rfl ?_
                refine ol_val (v := .bool true) (by exact xr_assign rfl rfl) rfl rfl rfl ?_
                refine ol_nil ?_
                refine thn_i ?_
                exact ⟨(rfl).trans (congrArg (fun z => (.bool z : Value)) (show true = (if (decide (a0 ≥ 97)) = true then (if (decide (a0 ≤ 122)) = true then true else (if (decide (a0 ≥ 65)) = true then (if (decide (a0 ≤ 90)) = true then true else (if (decide (a0 ≥ 48)) = true then (if (decide (a0 ≤ 57)) = true then true else (if (decide (a0 = 45)) = true then true else (if (decide (a0 = 95)) = true then true else (if (decide (a0 ≥ 161)) = true then (decide (a0 ≤ 65519)) else false)))) else (if (decide (a0 = 45)) = true then true else (if (decide (a0 = 95)) = true then true else (if (decide (a0 ≥ 161)) = true then (decide (a0 ≤ 65519)) else false))))) else (if (decide (a0 ≥ 48)) = true then (if (decide (a0 ≤ 57)) = true then true else (if (decide (a0 = 45)) = true then true else (if (decide (a0 = 95)) = true then true else (if (decide (a0 ≥ 161)) = true then (decide (a0 ≤ 65519)) else false)))) else (if (decide (a0 = 45)) = true then true else (if (decide (a0 = 95)) = true then true else (if (decide (a0 ≥ 161)) = true then (decide (a0 ≤ 65519)) else false)))))) else (if (decide (a0 ≥ 65)) = true then (if (decide (a0 ≤ 90)) = true then true else (if (decide (a0 ≥ 48)) = true then (if (decide (a0 ≤ 57)) = true then true else (if (decide (a0 = 45)) = true then true else (if (decide (a0 = 95)) = true then true else (if (decide (a0 ≥ 161)) = true then (decide (a0 ≤ 65519)) else false)))) else (if (decide (a0 = 45)) = true then true else (if (decide (a0 = 95)) = true then true else (if (decide (a0 ≥ 161)) = true then (decide (a0 ≤ 65519)) else false))))) else (if (decide (a0 ≥ 48)) = true then (if (decide (a0 ≤ 57)) = true then true else (if (decide (a0 = 45)) = true then true else (if (decide (a0 = 95)) = true then true else (if (decide (a0 ≥ 161)) = true then (decide (a0 ≤ 65519)) else false)))) else (if (decide (a0 = 45)) = true then true else (if (decide (a0 = 95)) = true then true else (if (decide (a0 ≥ 161)) = true then (decide (a0 ≤ 65519)) else false)))))) from by rw [ite_f c1, ite_t c21, ite_f c22, ite_f c23, ite_f c28, ite_t c29])), rfl⟩
              · skip
                refine ol_gval (v := .int .i64 a0) (by exact xr_move rfl rfl) rfl rfl rfl rfl rfl c29 ?_
                refine ol_gval (v := .bool (decide (a0 ≥ 161))) (by exact xr_geq rfl rfl rfl) rfl rfl rfl rfl rfl c29 ?_
                refine ol_gval (v := .bool (decide (a0 ≥ 161))) (by exact xr_move rfl rfl) rfl rfl rfl rfl rfl c29 ?_
                rcases bt (decide (a0 ≥ 161)) with c30 | c30
                · skip
                  refine ol_gval (v := .int .i64 a0) (by exact xr_move rfl rfl) rfl rfl rfl rfl rfl c30 ?_
                  refine ol_gval (v := .bool (decide (a0 ≤ 65519))) (by exact xr_leq rfl rfl rfl) rfl rfl rfl rfl rfl c30 ?_
                  refine ol_gval (v := .bool (decide (a0 ≤ 65519))) (by exact xr_pickT rfl rfl c30 rfl) rfl rfl rfl rfl rfl c29 ?_
                  refine ol_val (v := .bool (decide (a0 ≤ 65519))) (by exact xr_pickF rfl rfl c29 rfl) rfl rfl rfl ?_
                  refine ol_val (v := .bool (decide (a0 ≤ 65519))) (by exact xr_assign rfl rfl) rfl rfl rfl ?_
                  refine ol_nil ?_
                  refine thn_i ?_
                  exact ⟨(rfl).trans (congrArg (fun z => (.bool z : Value)) (show (decide (a0 ≤ 65519)) = (if (decide (a0 ≥ 97)) = true then (if (decide (a0 ≤ 122)) = true then true else (if (decide (a0 ≥ 65)) = true then (if (decide (a0 ≤ 90)) = true then true else (if (decide (a0 ≥ 48)) = true then (if (decide (a0 ≤ 57)) = true then true else (if (decide (a0 = 45)) = true then true else (if (decide (a0 = 95)) = true then true else (if (decide (a0 ≥ 161)) = true then (decide (a0 ≤ 65519)) else false)))) else (if (decide (a0 = 45)) = true then true else (if (decide (a0 = 95)) = true then true else (if (decide (a0 ≥ 161)) = true then (decide (a0 ≤ 65519)) else false))))) else (if (decide (a0 ≥ 48)) = true then (if (decide (a0 ≤ 57)) = true then true else (if (decide (a0 = 45)) = true then true else (if (decide (a0 = 95)) = true then true else (if (decide (a0 ≥ 161)) = true then (decide (a0 ≤ 65519)) else false)))) else (if (decide (a0 = 45)) = true then true else (if (decide (a0 = 95)) = true then true else (if (decide (a0 ≥ 161)) = true then (decide (a0 ≤ 65519)) else false)))))) else (if (decide (a0 ≥ 65)) = true then (if (decide (a0 ≤ 90)) = true then true else (if (decide (a0 ≥ 48)) = true then (if (decide (a0 ≤ 57)) = true then true else (if (decide (a0 = 45)) = true then true else (if (decide (a0 = 95)) = true then true else (if (decide (a0 ≥ 161)) = true then (decide (a0 ≤ 65519)) else false)))) else (if (decide (a0 = 45)) = true then true else (if (decide (a0 = 95)) = true then true else (if (decide (a0 ≥ 161)) = true then (decide (a0 ≤ 65519)) else false))))) else (if (decide (a0 ≥ 48)) = true then (if (decide (a0 ≤ 57)) = true then true else (if (decide (a0 = 45)) = true then true else (if (decide (a0 = 95)) = true then true else (if (decide (a0 ≥ 161)) = true then (decide (a0 ≤ 65519)) else false)))) else (if (decide (a0 = 45)) = true then true else (if (decide (a0 = 95)) = true then true else (if (decide (a0 ≥ 161)) = true then (decide (a0 ≤ 65519)) else false)))))) from by rw [ite_f c1, ite_t c21, ite_f c22, ite_f c23, ite_f c28, ite_f c29, ite_t c30])), rfl⟩
                · skip
                  refine ol_gskip rfl rfl rfl rfl rfl c30 ?_
                  refine ol_gskip rfl rfl rfl rfl rfl c30 ?_
                  refine ol_gval (v := .bool false) (by exact xr_pickF rfl rfl c30 rfl) rfl rfl rfl rfl rfl c29 ?_
                  refine ol_val (v := .bool false) (by exact xr_pickF rfl rfl c29 rfl) rfl rfl rfl ?_
                  refine ol_val (v := .bool false) (by exact xr_assign rfl rfl) rfl rfl rfl ?_
                  refine ol_nil ?_
                  refine thn_i ?_
                  exact ⟨(rfl).trans (congrArg (fun z => (.bool z : Value)) (show false = (if (decide (a0 ≥ 97)) = true then (if (decide (a0 ≤ 122)) = true then true else (if (decide (a0 ≥ 65)) = true then (if (decide (a0 ≤ 90)) = true then true else (if (decide (a0 ≥ 48)) = true then (if (decide (a0 ≤ 57)) = true then true else (if (decide (a0 = 45)) = true then true else (if (decide (a0 = 95)) = true then true else (if (decide (a0 ≥ 161)) = true then (decide (a0 ≤ 65519)) else false)))) else (if (decide (a0 = 45)) = true then true else (if (decide (a0 = 95)) = true then true else (if (decide (a0 ≥ 161)) = true then (decide (a0 ≤ 65519)) else false))))) else (if (decide (a0 ≥ 48)) = true then (if (decide (a0 ≤ 57)) = true then true else (if (decide (a0 = 45)) = true then true else (if (decide (a0 = 95)) = true then true else (if (decide (a0 ≥ 161)) = true then (decide (a0 ≤ 65519)) else false)))) else (if (decide (a0 = 45)) = true then true else (if (decide (a0 = 95)) = true then true else (if (decide (a0 ≥ 161)) = true then (decide (a0 ≤ 65519)) else false)))))) else (if (decide (a0 ≥ 65)) = true then (if (decide (a0 ≤ 90)) = true then true else (if (decide (a0 ≥ 48)) = true then (if (decide (a0 ≤ 57)) = true then true else (if (decide (a0 = 45)) = true then true else (if (decide (a0 = 95)) = true then true else (if (decide (a0 ≥ 161)) = true then (decide (a0 ≤ 65519)) else false)))) else (if (decide (a0 = 45)) = true then true else (if (decide (a0 = 95)) = true then true else (if (decide (a0 ≥ 161)) = true then (decide (a0 ≤ 65519)) else false))))) else (if (decide (a0 ≥ 48)) = true then (if (decide (a0 ≤ 57)) = true then true else (if (decide (a0 = 45)) = true then true else (if (decide (a0 = 95)) = true then true else (if (decide (a0 ≥ 161)) = true then (decide (a0 ≤ 65519)) else false)))) else (if (decide (a0 = 45)) = true then true else (if (decide (a0 = 95)) = true then true else (if (decide (a0 ≥ 161)) = true then (decide (a0 ≤ 65519)) else false)))))) from by rw [ite_f c1, ite_t c21, ite_f c22, ite_f c23, ite_f c28, ite_f c29, ite_f c30])), rfl⟩
      · skip
        refine ol_gskip rfl rfl rfl rfl rfl c21 ?_
        refine ol_gskip rfl rfl rfl rfl rfl c21 ?_
        refine ol_gval (v := .bool false) (by exact xr_pickF rfl rfl c21 rfl) rfl rfl rfl rfl rfl rfl ?_
        refine ol_val (v := .bool false) (by exact xr_pickF rfl rfl rfl rfl) rfl rfl rfl ?_
        refine ol_val (v := .bool false) (by exact xr_move rfl rfl) rfl rfl rfl ?_
        refine ol_gval (v := .int .i64 a0) (by exact xr_move rfl rfl) rfl rfl rfl rfl rfl rfl ?_
        refine ol_gval (v := .bool (decide (a0 ≥ 48))) (by exact xr_geq rfl rfl rfl) rfl rfl rfl rfl rfl rfl ?_
        refine ol_gval (v := .bool (decide (a0 ≥ 48))) (by exact xr_move rfl rfl) rfl rfl rfl rfl rfl rfl ?_
        rcases bt (decide (a0 ≥ 48)) with c31 | c31
        · skip
          refine ol_gval (v := .int .i64 a0) (by exact xr_move rfl rfl) rfl rfl rfl rfl rfl c31 ?_
          refine ol_gval (v := .bool (decide (a0 ≤ 57))) (by exact xr_leq rfl rfl rfl) rfl rfl rfl rfl rfl c31 ?_
          refine ol_gval (v := .bool (decide (a0 ≤ 57))) (by exact xr_pickT rfl rfl c31 rfl) rfl rfl rfl rfl rfl rfl ?_
          refine ol_val (v := .bool (decide (a0 ≤ 57))) (by exact xr_pickF rfl rfl rfl rfl) rfl rfl rfl ?_
          refine ol_val (v := .bool (decide (a0 ≤ 57))) (by exact xr_move rfl rfl) rfl rfl rfl ?_
          rcases bt (decide (a0 ≤ 57)) with c32 | c32
          · skip
            refine ol_gskip rfl rfl rfl rfl rfl c32 ?_
            refine ol_gskip rfl rfl rfl rfl rfl c32 ?_
            refine ol_val (v := .bool true) (by exact xr_pickT rfl rfl c32 rfl) rfl rfl rfl ?_
            refine ol_val (v := .bool true) (by exact xr_move rfl rfl) rfl rfl rfl ?_
            refine ol_gskip rfl rfl rfl rfl rfl rfl ?_
            refine ol_gskip rfl rfl rfl rfl rfl rfl ?_
            refine ol_val (v := .bool true) (by exact xr_pickT rfl rfl rfl rfl) rfl rfl rfl ?_
            refine ol_val (v := .bool true) (by exact xr_move rfl rfl) rfl rfl rfl ?_
            refine ol_gskip rfl rfl rfl rfl rfl rfl ?_
            refine ol_gskip rfl rfl rfl rfl rfl rfl ?_
            refine ol_gskip rfl rfl rfl rfl rfl rfl ?_
            refine ol_uskip rfl rfl rfl rfl rfl ?_
            refine ol_uskip rfl rfl rfl rfl rfl ?_
            refine ol_gskip rfl rfl rfl rfl rfl rfl ?_
            refine ol_val (v := .bool true) (by exact xr_pickT rfl rfl rfl rfl) rfl rfl rfl ?_
            refine ol_val (v := .bool true) (by exact xr_assign rfl rfl) rfl rfl rfl ?_
            refine ol_nil ?_
            refine thn_i ?_
            exact ⟨(rfl).trans (congrArg (fun z => (.bool z : Value)) (show true = (if (decide (a0 ≥ 97)) = true then (if (decide (a0 ≤ 122)) = true then true else (if (decide (a0 ≥ 65)) = true then (if (decide (a0 ≤ 90)) = true then true else (if (decide (a0 ≥ 48)) = true then (if (decide (a0 ≤ 57)) = true then true else (if (decide (a0 = 45)) = true then true else (if (decide (a0 = 95)) = true then true else (if (decide (a0 ≥ 161)) = true then (decide (a0 ≤ 65519)) else false)))) else (if (decide (a0 = 45)) = true then true else (if (decide (a0 = 95)) = true then true else (if (decide (a0 ≥ 161)) = true then (decide (a0 ≤ 65519)) else false))))) else (if (decide (a0 ≥ 48)) = true then (if (decide (a0 ≤ 57)) = true then true else (if (decide (a0 = 45)) = true then true else (if (decide (a0 = 95)) = true then true else (if (decide (a0 ≥ 161)) = true then (decide (a0 ≤ 65519)) else false)))) else (if (decide (a0 = 45)) = true then true else (if (decide (a0 = 95)) = true then true else (if (decide (a0 ≥ 161)) = true then (decide (a0 ≤ 65519)) else false)))))) else (if (decide (a0 ≥ 65)) = true then (if (decide (a0 ≤ 90)) = true then true else (if (decide (a0 ≥ 48)) = true then (if (decide (a0 ≤ 57)) = true then true else (if (decide (a0 = 45)) = true then true else (if (decide (a0 = 95)) = true then true else (if (decide (a0 ≥ 161)) = true then (decide (a0 ≤ 65519)) else false)))) else (if (decide (a0 = 45)) = true then true else (if (decide (a0 = 95)) = true then true else (if (decide (a0 ≥ 161)) = true then (decide (a0 ≤ 65519)) else false))))) else (if (decide (a0 ≥ 48)) = true then (if (decide (a0 ≤ 57)) = true then true else (if (decide (a0 = 45)) = true then true else (if (decide (a0 = 95)) = true then true else (if (decide (a0 ≥ 161)) = true then (decide (a0 ≤ 65519)) else false)))) else (if (decide (a0 = 45)) = true then true else (if (decide (a0 = 95)) = true then true else (if (decide (a0 ≥ 161)) = true then (decide (a0 ≤ 65519)) else false)))))) from by rw [ite_f c1, ite_f c21, ite_t c31, ite_t c32])), rfl⟩
          · skip
            refine ol_gval (v := .int .i64 a0) (by exact xr_move rfl rfl) rfl rfl rfl rfl rfl c32 ?_
            refine ol_gval (v := .bool (decide (a0 = 45))) (by exact xr_eqI rfl Try.underlying3 rfl rfl rfl) rfl rfl rfl rfl rfl c32 ?_
            refine ol_val (v := .bool (decide (a0 = 45))) (by exact xr_pickF rfl rfl c32 rfl) rfl rfl rfl ?_
            refine ol_val (v := .bool (decide (a0 = 45))) (by exact xr_move rfl rfl) rfl rfl rfl ?_
            rcases bt (decide (a0 = 45)) with c33 | c33
            · skip
              refine ol_gskip rfl rfl rfl rfl rfl c33 ?_
              refine ol_gskip rfl rfl rfl rfl rfl c33 ?_
              refine ol_val (v := .bool true) (by exact xr_pickT rfl rfl c33 rfl) rfl rfl rfl ?_
              refine ol_val (v := .bool true) (by exact xr_move rfl rfl) rfl rfl rfl ?_
              refine ol_gskip rfl rfl rfl rfl rfl rfl ?_
              refine ol_gskip rfl rfl rfl rfl rfl rfl ?_
              refine ol_gskip rfl rfl rfl rfl rfl rfl ?_
              refine ol_uskip rfl rfl rfl rfl rfl ?_
              refine ol_uskip rfl rfl rfl rfl rfl ?_
              refine ol_gskip rfl rfl rfl rfl rfl rfl ?_
              refine ol_val (v := .bool true) (by exact xr_pickT rfl rfl rfl rfl) rfl rfl rfl ?_
              refine ol_val (v := .bool true) (by exact xr_assign rfl rfl) rfl rfl rfl ?_
              refine ol_nil ?_
              refine thn_i ?_
              exact ⟨(rfl).trans (congrArg (fun z => (.bool z : Value)) (show true = (if (decide (a0 ≥ 97)) = true then (if (decide (a0 ≤ 122)) = true then true else (if (decide (a0 ≥ 65)) = true then (if (decide (a0 ≤ 90)) = true then true else (if (decide (a0 ≥ 48)) = true then (if (decide (a0 ≤ 57)) = true then true else (if (decide (a0 = 45)) = true then true else (if (decide (a0 = 95)) = true then true else (if (decide (a0 ≥ 161)) = true then (decide (a0 ≤ 65519)) else false)))) else (if (decide (a0 = 45)) = true then true else (if (decide (a0 = 95)) = true then true else (if (decide (a0 ≥ 161)) = true then (decide (a0 ≤ 65519)) else false))))) else (if (decide (a0 ≥ 48)) = true then (if (decide (a0 ≤ 57)) = true then true else (if (decide (a0 = 45)) = true then true else (if (decide (a0 = 95)) = true then true else (if (decide (a0 ≥ 161)) = true then (decide (a0 ≤ 65519)) else false)))) else (if (decide (a0 = 45)) = true then true else (if (decide (a0 = 95)) = true then true else (if (decide (a0 ≥ 161)) = true then (decide (a0 ≤ 65519)) else false)))))) else (if (decide (a0 ≥ 65)) = true then (if (decide (a0 ≤ 90)) = true then true else (if (decide (a0 ≥ 48)) = true then (if (decide (a0 ≤ 57)) = true then true else (if (decide (a0 = 45)) = true then true else (if (decide (a0 = 95)) = true then true else (if (decide (a0 ≥ 161)) = true then (decide (a0 ≤ 65519)) else false)))) else (if (decide (a0 = 45)) = true then true else (if (decide (a0 = 95)) = true then true else (if (decide (a0 ≥ 161)) = true then (decide (a0 ≤ 65519)) else false))))) else (if (decide (a0 ≥ 48)) = true then (if (decide (a0 ≤ 57)) = true then true else (if (decide (a0 = 45)) = true then true else (if (decide (a0 = 95)) = true then true else (if (decide (a0 ≥ 161)) = true then (decide (a0 ≤ 65519)) else false)))) else (if (decide (a0 = 45)) = true then true else (if (decide (a0 = 95)) = true then true else (if (decide (a0 ≥ 161)) = true then (decide (a0 ≤ 65519)) else false)))))) from by rw [ite_f c1, ite_f c21, ite_t c31, ite_f c32, ite_t c33])), rfl⟩
            · skip
              refine ol_gval (v := .int .i64 a0) (by exact xr_move rfl rfl) rfl rfl rfl rfl rfl c33 ?_
              refine ol_gval (v := .bool (decide (a0 = 95))) (by exact xr_eqI rfl Try.underlying3 rfl rfl rfl) rfl rfl rfl rfl rfl c33 ?_
              refine ol_val (v := .bool (decide (a0 = 95))) (by exact xr_pickF rfl rfl c33 rfl) rfl rfl rfl ?_
              refine ol_val (v := .bool (decide (a0 = 95))) (by exact xr_move rfl rfl) rfl rfl rfl ?_
              rcases bt (decide (a0 = 95)) with c34 | c34
              · skip
                refine ol_gskip rfl rfl rfl rfl rfl c34 ?_
                refine ol_gskip rfl rfl rfl rfl rfl c34 ?_
                refine ol_gskip rfl rfl rfl rfl rfl c34 ?_
                refine ol_uskip rfl rfl rfl rfl rfl ?_
                refine ol_uskip rfl rfl rfl rfl rfl ?_
                refine ol_gskip rfl rfl rfl rfl rfl c34 ?_
                refine ol_val (v := .bool true) (by exact xr_pickT rfl rfl c34 rfl) rfl rfl rfl ?_
                refine ol_val (v := .bool true) (by exact xr_assign rfl rfl) rfl rfl rfl ?_
                refine ol_nil ?_
                refine thn_i ?_
                exact ⟨(rfl).trans (congrArg (fun z => (.bool z : Value)) (show true = (if (decide (a0 ≥ 97)) = true then (if (decide (a0 ≤ 122)) = true then true else (if (decide (a0 ≥ 65)) = true then (if (decide (a0 ≤ 90)) = true then true else (if (decide (a0 ≥ 48)) = true then (if (decide (a0 ≤ 57)) = true then true else (if (decide (a0 = 45)) = true then true else (if (decide (a0 = 95)) = true then true else (if (decide (a0 ≥ 161)) = true then (decide (a0 ≤ 65519)) else false)))) else (if (decide (a0 = 45)) = true then true else (if (decide (a0 = 95)) = true then true else (if (decide (a0 ≥ 161)) = true then (decide (a0 ≤ 65519)) else false))))) else (if (decide (a0 ≥ 48)) = true then (if (decide (a0 ≤ 57)) = true then true else (if (decide (a0 = 45)) = true then true else (if (decide (a0 = 95)) = true then true else (if (decide (a0 ≥ 161)) = true then (decide (a0 ≤ 65519)) else false)))) else (if (decide (a0 = 45)) = true then true else (if (decide (a0 = 95)) = true then true else (if (decide (a0 ≥ 161)) = true then (decide (a0 ≤ 65519)) else false)))))) else (if (decide (a0 ≥ 65)) = true then (if (decide (a0 ≤ 90)) = true then true else (if (decide (a0 ≥ 48)) = true then (if (decide (a0 ≤ 57)) = true then true else (if (decide (a0 = 45)) = true then true else (if (decide (a0 = 95)) = true then true else (if (decide (a0 ≥ 161)) = true then (decide (a0 ≤ 65519)) else false)))) else (if (decide (a0 = 45)) = true then true else (if (decide (a0 = 95)) = true then true else (if (decide (a0 ≥ 161)) = true then (decide (a0 ≤ 65519)) else false))))) else (if (decide (a0 ≥ 48)) = true then (if (decide (a0 ≤ 57)) = true then true else (if (decide (a0 = 45)) = true then true else (if (decide (a0 = 95)) = true then true else (if (decide (a0 ≥ 161)) = true then (decide (a0 ≤ 65519)) else false)))) else (if (decide (a0 = 45)) = true then true else (if (decide (a0 = 95)) = true then true else (if (decide (a0 ≥ 161)) = true then (decide (a0 ≤ 65519)) else false)))))) from by rw [ite_f c1, ite_f c21, ite_t c31, ite_f c32, ite_f c33, ite_t c34])), rfl⟩
              · skip
                refine ol_gval (v := .int .i64 a0) (by exact xr_move rfl rfl) rfl rfl rfl rfl rfl c34 ?_
                refine ol_gval (v := .bool (decide (a0 ≥ 161))) (by exact xr_geq rfl rfl rfl) rfl rfl rfl rfl rfl c34 ?_
                refine ol_gval (v := .bool (decide (a0 ≥ 161))) (by exact xr_move rfl rfl) rfl rfl rfl rfl rfl c34 ?_
                rcases bt (decide (a0 ≥ 161)) with c35 | c35
                · skip
                  refine ol_gval (v := .int .i64 a0) (by exact xr_move rfl rfl) rfl rfl rfl rfl rfl c35 ?_
                  refine ol_gval (v := .bool (decide (a0 ≤ 65519))) (by exact xr_leq rfl rfl rfl) rfl rfl rfl rfl rfl c35 ?_
                  refine ol_gval (v := .bool (decide (a0 ≤ 65519))) (by exact xr_pickT rfl rfl c35 rfl) rfl rfl rfl rfl rfl c34 ?_
                  refine ol_val (v := .bool (decide (a0 ≤ 65519))) (by exact xr_pickF rfl rfl c34 rfl) rfl rfl rfl ?_
                  refine ol_val (v := .bool (decide (a0 ≤ 65519))) (by exact xr_assign rfl rfl) rfl rfl rfl ?_
                  refine ol_nil ?_
                  refine thn_i ?_
                  exact ⟨(rfl).trans (congrArg (fun z => (.bool z : Value)) (show (decide (a0 ≤ 65519)) = (if (decide (a0 ≥ 97)) = true then (if (decide (a0 ≤ 122)) = true then true else (if (decide (a0 ≥ 65)) = true then (if (decide (a0 ≤ 90)) = true then true else (if (decide (a0 ≥ 48)) = true then (if (decide (a0 ≤ 57)) = true then true else (if (decide (a0 = 45)) = true then true else (if (decide (a0 = 95)) = true then true else (if (decide (a0 ≥ 161)) = true then (decide (a0 ≤ 65519)) else false)))) else (if (decide (a0 = 45)) = true then true else (if (decide (a0 = 95)) = true then true else (if (decide (a0 ≥ 161)) = true then (decide (a0 ≤ 65519)) else false))))) else (if (decide (a0 ≥ 48)) = true then (if (decide (a0 ≤ 57)) = true then true else (if (decide (a0 = 45)) = true then true else (if (decide (a0 = 95)) = true then true else (if (decide (a0 ≥ 161)) = true then (decide (a0 ≤ 65519)) else false)))) else (if (decide (a0 = 45)) = true then true else (if (decide (a0 = 95)) = true then true else (if (decide (a0 ≥ 161)) = true then (decide (a0 ≤ 65519)) else false)))))) else (if (decide (a0 ≥ 65)) = true then (if (decide (a0 ≤ 90)) = true then true else (if (decide (a0 ≥ 48)) = true then (if (decide (a0 ≤ 57)) = true then true else (if (decide (a0 = 45)) = true then true else (if (decide (a0 = 95)) = true then true else (if (decide (a0 ≥ 161)) = true then (decide (a0 ≤ 65519)) else false)))) else (if (decide (a0 = 45)) = true then true else (if (decide (a0 = 95)) = true then true else (if (decide (a0 ≥ 161)) = true then (decide (a0 ≤ 65519)) else false))))) else (if (decide (a0 ≥ 48)) = true then (if (decide (a0 ≤ 57)) = true then true else (if (decide (a0 = 45)) = true then true else (if (decide (a0 = 95)) = true then true else (if (decide (a0 ≥ 161)) = true then (decide (a0 ≤ 65519)) else false)))) else (if (decide (a0 = 45)) = true then true else (if (decide (a0 = 95)) = true then true else (if (decide (a0 ≥ 161)) = true then (decide (a0 ≤ 65519)) else false)))))) from by rw [ite_f c1, ite_f c21, ite_t c31, ite_f c32, ite_f c33, ite_f c34, ite_t c35])), rfl⟩
                · skip
                  refine ol_gskip rfl rfl rfl rfl rfl c35 ?_
                  refine ol_gskip rfl rfl rfl rfl rfl c35 ?_
                  refine ol_gval (v := .bool false) (by exact xr_pickF rfl rfl c35 rfl) rfl rfl rfl rfl rfl c34 ?_
                  refine ol_val (v := .bool false) (by exact xr_pickF rfl rfl c34 rfl) rfl rfl rfl ?_
                  refine ol_val (v := .bool false) (by exact xr_assign rfl rfl) rfl rfl rfl ?_
                  refine ol_nil ?_
                  refine thn_i ?_
                  exact ⟨(rfl).trans (congrArg (fun z => (.bool z : Value)) (show false = (if (decide (a0 ≥ 97)) = true then (if (decide (a0 ≤ 122)) = true then true else (if (decide (a0 ≥ 65)) = true then (if (decide (a0 ≤ 90)) = true then true else (if (decide (a0 ≥ 48)) = true then (if (decide (a0 ≤ 57)) = true then true else (if (decide (a0 = 45)) = true then true else (if (decide (a0 = 95)) = true then true else (if (decide (a0 ≥ 161)) = true then (decide (a0 ≤ 65519)) else false)))) else (if (decide (a0 = 45)) = true then true else (if (decide (a0 = 95)) = true then true else (if (decide (a0 ≥ 161)) = true then (decide (a0 ≤ 65519)) else false))))) else (if (decide (a0 ≥ 48)) = true then (if (decide (a0 ≤ 57)) = true then true else (if (decide (a0 = 45)) = true then true else (if (decide (a0 = 95)) = true then true else (if (decide (a0 ≥ 161)) = true then (decide (a0 ≤ 65519)) else false)))) else (if (decide (a0 = 45)) = true then true else (if (decide (a0 = 95)) = true then true else (if (decide (a0 ≥ 161)) = true then (decide (a0 ≤ 65519)) else false)))))) else (if (decide (a0 ≥ 65)) = true then (if (decide (a0 ≤ 90)) = true then true else (if (decide (a0 ≥ 48)) = true then (if (decide (a0 ≤ 57)) = true then true else (if (decide (a0 = 45)) = true then true else (if (decide (a0 = 95)) = true then true else (if (decide (a0 ≥ 161)) = true then (decide (a0 ≤ 65519)) else false)))) else (if (decide (a0 = 45)) = true then true else (if (decide (a0 = 95)) = true then true else (if (decide (a0 ≥ 161)) = true then (decide (a0 ≤ 65519)) else false))))) else (if (decide (a0 ≥ 48)) = true then (if (decide (a0 ≤ 57)) = true then true else (if (decide (a0 = 45)) = true then true else (if (decide (a0 = 95)) = true then true else (if (decide (a0 ≥ 161)) = true then (decide (a0 ≤ 65519)) else false)))) else (if (decide (a0 = 45)) = true then true else (if (decide (a0 = 95)) = true then true else (if (decide (a0 ≥ 161)) = true then (decide (a0 ≤ 65519)) else false)))))) from by rw [ite_f c1, ite_f c21, ite_t c31, ite_f c32, ite_f c33, ite_f c34, ite_f c35])), rfl⟩
        · skip
          refine ol_gskip rfl rfl rfl rfl rfl c31 ?_
          refine ol_gskip rfl rfl rfl rfl rfl c31 ?_
          refine ol_gval (v := .bool false) (by exact xr_pickF rfl rfl c31 rfl) rfl rfl rfl rfl rfl rfl ?_
          refine ol_val (v := .bool false) (by exact xr_pickF rfl rfl rfl rfl) rfl rfl rfl ?_
          refine ol_val (v := .bool false) (by exact xr_move rfl rfl) rfl rfl rfl ?_
          refine ol_gval (v := .int .i64 a0) (by exact xr_move rfl rfl) rfl rfl rfl rfl rfl rfl ?_
          refine ol_gval (v := .bool (decide (a0 = 45))) (by exact xr_eqI rfl Try.underlying3 rfl rfl rfl) rfl rfl rfl rfl rfl rfl ?_
          refine ol_val (v := .bool (decide (a0 = 45))) (by exact xr_pickF rfl rfl rfl rfl) rfl rfl rfl ?_
          refine ol_val (v := .bool (decide (a0 = 45))) (by exact xr_move rfl rfl) rfl rfl rfl ?_
          rcases bt (decide (a0 = 45)) with c36 | c36
          · skip
            refine ol_gskip rfl rfl rfl rfl rfl c36 ?_
            refine ol_gskip rfl rfl rfl rfl rfl c36 ?_
            refine ol_val (v := .bool true) (by exact xr_pickT rfl rfl c36 rfl) rfl rfl rfl ?_
            refine ol_val (v := .bool true) (by exact xr_move rfl rfl) rfl rfl rfl ?_
            refine ol_gskip rfl rfl rfl rfl rfl rfl ?_
            refine ol_gskip rfl rfl rfl rfl rfl rfl ?_
            refine ol_gskip rfl rfl rfl rfl rfl rfl ?_
            refine ol_uskip rfl rfl rfl rfl rfl ?_
            refine ol_uskip rfl rfl rfl rfl rfl ?_
            refine ol_gskip rfl rfl rfl rfl rfl rfl ?_
            refine ol_val (v := .bool true) (by exact xr_pickT rfl rfl rfl rfl) rfl rfl rfl ?_
            refine ol_val (v := .bool true) (by exact xr_assign rfl rfl) rfl rfl rfl ?_
            refine ol_nil ?_
            refine thn_i ?_
            exact ⟨(rfl).trans (congrArg (fun z => (.bool z : Value)) (show true = (if (decide (a0 ≥ 97)) = true then (if (decide (a0 ≤ 122)) = true then true else (if (decide (a0 ≥ 65)) = true then (if (decide (a0 ≤ 90)) = true then true else (if (decide (a0 ≥ 48)) = true then (if (decide (a0 ≤ 57)) = true then true else (if (decide (a0 = 45)) = true then true else (if (decide (a0 = 95)) = true then true else (if (decide (a0 ≥ 161)) = true then (decide (a0 ≤ 65519)) else false)))) else (if (decide (a0 = 45)) = true then true else (if (decide (a0 = 95)) = true then true else (if (decide (a0 ≥ 161)) = true then (decide (a0 ≤ 65519)) else false))))) else (if (decide (a0 ≥ 48)) = true then (if (decide (a0 ≤ 57)) = true then true else (if (decide (a0 = 45)) = true then true else (if (decide (a0 = 95)) = true then true else (if (decide (a0 ≥ 161)) = true then (decide (a0 ≤ 65519)) else false)))) else (if (decide (a0 = 45)) = true then true else (if (decide (a0 = 95)) = true then true else (if (decide (a0 ≥ 161)) = true then (decide (a0 ≤ 65519)) else false)))))) else (if (decide (a0 ≥ 65)) = true then (if (decide (a0 ≤ 90)) = true then true else (if (decide (a0 ≥ 48)) = true then (if (decide (a0 ≤ 57)) = true then true else (if (decide (a0 = 45)) = true then true else (if (decide (a0 = 95)) = true then true else (if (decide (a0 ≥ 161)) = true then (decide (a0 ≤ 65519)) else false)))) else (if (decide (a0 = 45)) = true then true else (if (decide (a0 = 95)) = true then true else (if (decide (a0 ≥ 161)) = true then (decide (a0 ≤ 65519)) else false))))) else (if (decide (a0 ≥ 48)) = true then (if (decide (a0 ≤ 57)) = true then true else (if (decide (a0 = 45)) = true then true else (if (decide (a0 = 95)) = true then true else (if (decide (a0 ≥ 161)) = true then (decide (a0 ≤ 65519)) else false)))) else (if (decide (a0 = 45)) = true then true else (if (decide (a0 = 95)) = true then true else (if (decide (a0 ≥ 161)) = true then (decide (a0 ≤ 65519)) else false)))))) from by rw [ite_f c1, ite_f c21, ite_f c31, ite_t c36])), rfl⟩
          · skip
            refine ol_gval (v := .int .i64 a0) (by exact xr_move rfl rfl) rfl rfl rfl rfl rfl c36 ?_
            refine ol_gval (v := .bool (decide (a0 = 95))) (by exact xr_eqI rfl Try.underlying3 rfl rfl rfl) rfl rfl rfl rfl rfl c36 ?_
            refine ol_val (v := .bool (decide (a0 = 95))) (by exact xr_pickF rfl rfl c36 rfl) rfl rfl rfl ?_
            refine ol_val (v := .bool (decide (a0 = 95))) (by exact xr_move rfl rfl) rfl rfl rfl ?_
            rcases bt (decide (a0 = 95)) with c37 | c37
            · skip
              refine ol_gskip rfl rfl rfl rfl rfl c37 ?_
              refine ol_gskip rfl rfl rfl rfl rfl c37 ?_
              refine ol_gskip rfl rfl rfl rfl rfl c37 ?_
              refine ol_uskip rfl rfl rfl rfl rfl ?_
              refine ol_uskip rfl rfl rfl rfl rfl ?_
              refine ol_gskip rfl rfl rfl rfl rfl c37 ?_
              refine ol_val (v := .bool true) (by exact xr_pickT rfl rfl c37 rfl) rfl rfl rfl ?_
              refine ol_val (v := .bool true) (by exact xr_assign rfl rfl) rfl rfl rfl ?_
              refine ol_nil ?_
              refine thn_i ?_
              exact ⟨(rfl).trans (congrArg (fun z => (.bool z : Value)) (show true = (if (decide (a0 ≥ 97)) = true then (if (decide (a0 ≤ 122)) = true then true else (if (decide (a0 ≥ 65)) = true then (if (decide (a0 ≤ 90)) = true then true else (if (decide (a0 ≥ 48)) = true then (if (decide (a0 ≤ 57)) = true then true else (if (decide (a0 = 45)) = true then true else (if (decide (a0 = 95)) = true then true else (if (decide (a0 ≥ 161)) = true then (decide (a0 ≤ 65519)) else false)))) else (if (decide (a0 = 45)) = true then true else (if (decide (a0 = 95)) = true then true else (if (decide (a0 ≥ 161)) = true then (decide (a0 ≤ 65519)) else false))))) else (if (decide (a0 ≥ 48)) = true then (if (decide (a0 ≤ 57)) = true then true else (if (decide (a0 = 45)) = true then true else (if (decide (a0 = 95)) = true then true else (if (decide (a0 ≥ 161)) = true then (decide (a0 ≤ 65519)) else false)))) else (if (decide (a0 = 45)) = true then true else (if (decide (a0 = 95)) = true then true else (if (decide (a0 ≥ 161)) = true then (decide (a0 ≤ 65519)) else false)))))) else (if (decide (a0 ≥ 65)) = true then (if (decide (a0 ≤ 90)) = true then true else (if (decide (a0 ≥ 48)) = true then (if (decide (a0 ≤ 57)) = true then true else (if (decide (a0 = 45)) = true then true else (if (decide (a0 = 95)) = true then true else (if (decide (a0 ≥ 161)) = true then (decide (a0 ≤ 65519)) else false)))) else (if (decide (a0 = 45)) = true then true else (if (decide (a0 = 95)) = true then true else (if (decide (a0 ≥ 161)) = true then (decide (a0 ≤ 65519)) else false))))) else (if (decide (a0 ≥ 48)) = true then (if (decide (a0 ≤ 57)) = true then true else (if (decide (a0 = 45)) = true then true else (if (decide (a0 = 95)) = true then true else (if (decide (a0 ≥ 161)) = true then (decide (a0 ≤ 65519)) else false)))) else (if (decide (a0 = 45)) = true then true else (if (decide (a0 = 95)) = true then true else (if (decide (a0 ≥ 161)) = true then (decide (a0 ≤ 65519)) else false)))))) from by rw [ite_f c1, ite_f c21, ite_f c31, ite_f c36, ite_t c37])), rfl⟩
            · skip
              refine ol_gval (v := .int .i64 a0) (by exact xr_move rfl rfl) rfl rfl rfl rfl rfl c37 ?_
              refine ol_gval (v := .bool (decide (a0 ≥ 161))) (by exact xr_geq rfl rfl rfl) rfl rfl rfl rfl rfl c37 ?_
              refine ol_gval (v := .bool (decide (a0 ≥ 161))) (by exact xr_move rfl rfl) rfl rfl rfl rfl rfl c37 ?_
              rcases bt (decide (a0 ≥ 161)) with c38 | c38
              · skip
                refine ol_gval (v := .int .i64 a0) (by exact xr_move rfl rfl) rfl rfl rfl rfl rfl c38 ?_
                refine ol_gval (v := .bool (decide (a0 ≤ 65519))) (by exact xr_leq rfl rfl rfl) rfl rfl rfl rfl rfl c38 ?_
                refine ol_gval (v := .bool (decide (a0 ≤ 65519))) (by exact xr_pickT rfl rfl c38 rfl) rfl rfl rfl rfl rfl c37 ?_
                refine ol_val (v := .bool (decide (a0 ≤ 65519))) (by exact xr_pickF rfl rfl c37 rfl) rfl rfl rfl ?_
                refine ol_val (v := .bool (decide (a0 ≤ 65519))) (by exact xr_assign rfl rfl) rfl rfl rfl ?_
                refine ol_nil ?_
                refine thn_i ?_
                exact ⟨(rfl).trans (congrArg (fun z => (.bool z : Value)) (show (decide (a0 ≤ 65519)) = (if (decide (a0 ≥ 97)) = true then (if (decide (a0 ≤ 122)) = true then true else (if (decide (a0 ≥ 65)) = true then (if (decide (a0 ≤ 90)) = true then true else (if (decide (a0 ≥ 48)) = true then (if (decide (a0 ≤ 57)) = true then true else (if (decide (a0 = 45)) = true then true else (if (decide (a0 = 95)) = true then true else (if (decide (a0 ≥ 161)) = true then (decide (a0 ≤ 65519)) else false)))) else (if (decide (a0 = 45)) = true then true else (if (decide (a0 = 95)) = true then true else (if (decide (a0 ≥ 161)) = true then (decide (a0 ≤ 65519)) else false))))) else (if (decide (a0 ≥ 48)) = true then (if (decide (a0 ≤ 57)) = true then true else (if (decide (a0 = 45)) = true then true else (if (decide (a0 = 95)) = true then true else (if (decide (a0 ≥ 161)) = true then (decide (a0 ≤ 65519)) else false)))) else (if (decide (a0 = 45)) = true then true else (if (decide (a0 = 95)) = true then true else (if (decide (a0 ≥ 161)) = true then (decide (a0 ≤ 65519)) else false)))))) else (if (decide (a0 ≥ 65)) = true then (if (decide (a0 ≤ 90)) = true then true else (if (decide (a0 ≥ 48)) = true then (if (decide (a0 ≤ 57)) = true then true else (if (decide (a0 = 45)) = true then true else (if (decide (a0 = 95)) = true then true else (if (decide (a0 ≥ 161)) = true then (decide (a0 ≤ 65519)) else false)))) else (if (decide (a0 = 45)) = true then true else (if (decide (a0 = 95)) = true then true else (if (decide (a0 ≥ 161)) = true then (decide (a0 ≤ 65519)) else false))))) else (if (decide (a0 ≥ 48)) = true then (if (decide (a0 ≤ 57)) = true then true else (if (decide (a0 = 45)) = true then true else (if (decide (a0 = 95)) = true then true else (if (decide (a0 ≥ 161)) = true then (decide (a0 ≤ 65519)) else false)))) else (if (decide (a0 = 45)) = true then true else (if (decide (a0 = 95)) = true then true else (if (decide (a0 ≥ 161)) = true then (decide (a0 ≤ 65519)) else false)))))) from by rw [ite_f c1, ite_f c21, ite_f c31, ite_f c36, ite_f c37, ite_t c38])), rfl⟩
              · skip
                refine ol_gskip rfl rfl rfl rfl rfl c38 ?_
                refine ol_gskip rfl rfl rfl rfl rfl c38 ?_
                refine ol_gval (v := .bool false) (by exact xr_pickF rfl rfl c38 rfl) rfl rfl rfl rfl rfl c37 ?_
                refine ol_val (v := .bool false) (by exact xr_pickF rfl rfl c37 rfl) rfl rfl rfl ?_
                refine ol_val (v := .bool false) (by exact xr_assign rfl rfl) rfl rfl rfl ?_
                refine ol_nil ?_
                refine thn_i ?_
                exact ⟨(rfl).trans (congrArg (fun z => (.bool z : Value)) (show false = (if (decide (a0 ≥ 97)) = true then (if (decide (a0 ≤ 122)) = true then true else (if (decide (a0 ≥ 65)) = true then (if (decide (a0 ≤ 90)) = true then true else (if (decide (a0 ≥ 48)) = true then (if (decide (a0 ≤ 57)) = true then true else (if (decide (a0 = 45)) = true then true else (if (decide (a0 = 95)) = true then true else (if (decide (a0 ≥ 161)) = true then (decide (a0 ≤ 65519)) else false)))) else (if (decide (a0 = 45)) = true then true else (if (decide (a0 = 95)) = true then true else (if (decide (a0 ≥ 161)) = true then (decide (a0 ≤ 65519)) else false))))) else (if (decide (a0 ≥ 48)) = true then (if (decide (a0 ≤ 57)) = true then true else (if (decide (a0 = 45)) = true then true else (if (decide (a0 = 95)) = true then true else (if (decide (a0 ≥ 161)) = true then (decide (a0 ≤ 65519)) else false)))) else (if (decide (a0 = 45)) = true then true else (if (decide (a0 = 95)) = true then true else (if (decide (a0 ≥ 161)) = true then (decide (a0 ≤ 65519)) else false)))))) else (if (decide (a0 ≥ 65)) = true then (if (decide (a0 ≤ 90)) = true then true else (if (decide (a0 ≥ 48)) = true then (if (decide (a0 ≤ 57)) = true then true else (if (decide (a0 = 45)) = true then true else (if (decide (a0 = 95)) = true then true else (if (decide (a0 ≥ 161)) = true then (decide (a0 ≤ 65519)) else false)))) else (if (decide (a0 = 45)) = true then true else (if (decide (a0 = 95)) = true then true else (if (decide (a0 ≥ 161)) = true then (decide (a0 ≤ 65519)) else false))))) else (if (decide (a0 ≥ 48)) = true then (if (decide (a0 ≤ 57)) = true then true else (if (decide (a0 = 45)) = true then true else (if (decide (a0 = 95)) = true then true else (if (decide (a0 ≥ 161)) = true then (decide (a0 ≤ 65519)) else false)))) else (if (decide (a0 = 45)) = true then true else (if (decide (a0 = 95)) = true then true else (if (decide (a0 ≥ 161)) = true then (decide (a0 ≤ 65519)) else false)))))) from by rw [ite_f c1, ite_f c21, ite_f c31, ite_f c36, ite_f c37, ite_f c38])), rfl⟩
  · skip
    rintro ρ39 _ ⟨e2, rfl⟩
    refine cw_ret ?_
    repeat (first | with_reducible refine thn_r ?_ | with_reducible refine blk_r ?_)
    obtain rfl := Option.some.inj h
    refine fin_ret1 Try.results140 e2 ?_
    exact ⟨_, rfl, rfl, fB⟩
end Go.Proofs.Ytjhajfkfhdnciaa
