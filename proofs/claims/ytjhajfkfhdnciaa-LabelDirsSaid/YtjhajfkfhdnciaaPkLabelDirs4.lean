/- LabelDirs: texts merged, part 4 of 7. The last part proves that the law LabelDirs holds for every input. -/
import Derived.Test.YtjhajfkfhdnciaaPkLabelDirs3
import Derived.ProofKit
import Derived.OpenShut
import Derived.ChangeOld
import Derived.Below
import Derived.SizedLaws
import Derived.WalkKit
/- rickyard/rickyardref11.Dir: its model, and that the Go function computes it: written by gen.py. -/
set_option linter.unusedVariables false
namespace Go.Proofs.Ytjhajfkfhdnciaa
open Go Go.Xw
def rickyardref11_Dir.s2 (fu : Nat) (a0 : List Int) (s4 : (List UInt8) × Int) : Int → Option (Sum (Sum (Sum (Sum ((List UInt8) × Bool) (List UInt8)) ((List UInt8) × Int)) Unit) Int) := fun s19 => (if (decide (s19 < s4.2)) = true then (if 0 ≤ s19 ∧ s19 < (List.length a0 : Int) then (if 0 ≤ s4.2 ∧ s4.2 < (List.length a0 : Int) then (if (decide ((ix a0 s19) = (ix a0 s4.2))) = true then some (Sum.inl (Sum.inl (Sum.inl (Sum.inl ([], false))))) else some (Sum.inr ((IntKind.i64.wrap (s19 + 1))))) else none) else none) else some (Sum.inl (Sum.inr ())))
def rickyardref11_Dir.s1 (fu : Nat) (a0 : List Int) : ((List UInt8) × Int) → Option (Sum (Sum ((List UInt8) × Bool) (List UInt8)) ((List UInt8) × Int)) := fun s4 => (if (decide (s4.2 < (List.length a0 : Int))) = true then (if 0 ≤ s4.2 ∧ s4.2 < (List.length a0 : Int) then ((rickyardref08_Block.f fu (ix a0 s4.2) : Option Bool).bind fun t14 => (if (!t14) = true then some (Sum.inl (Sum.inl ([], false))) else ((loopM (rickyardref11_Dir.s2 fu a0 s4) fu (0)).bind fun e20 => match e20 with | Sum.inl p => some p | Sum.inr x23 => (if 0 ≤ s4.2 ∧ s4.2 < (List.length a0 : Int) then ((rickyardref01_Lay.f fu (IntKind.u64.wrap (ix a0 s4.2)) 2 : Option (List UInt8)).bind fun t37 => (if List.length s4.1 + List.length t37 ≤ LIM then some (Sum.inr ((s4.1 ++ t37), (IntKind.i64.wrap (s4.2 + 1)))) else none)) else none)))) else none) else some (Sum.inl (Sum.inr (s4.1))))
def rickyardref11_Dir.f (fu : Nat) (a0 : List Int) : Option ((List UInt8) × Bool) := (if (if (decide ((List.length a0 : Int) < 1)) = true then true else (decide ((List.length a0 : Int) > 16))) = true then some ([], false) else ((loopM (rickyardref11_Dir.s1 fu a0) fu ([], 0)).bind fun e5 => match e5 with | Sum.inl p => some p | Sum.inr x8 => ((rickyardref07_Seal.f fu 6 (List.length a0 : Int) x8 : Option (List UInt8)).bind fun t44 => some (t44, true))))
set_option maxRecDepth 100000 in
set_option maxHeartbeats 400000 in
theorem rickyardref11_Dir.ok (fu : Nat) (w : World) (a0 : List Int) (V0_0 : Value) (R0_0 : Rd (kI .i64) w V0_0 a0) (r : (List UInt8) × Bool) (h : rickyardref11_Dir.f fu a0 = some r) :
    Calls Try.prog 81 (([V0_0] : List Value).toArray) w (fun e w' => ∃ v, e = .returned v ∧ v = .tuple #[sv r.1, .bool r.2] ∧ Gr w w') := by
  unfold rickyardref11_Dir.f at h
  have fB : Gr w w := Fr.refl _ _
  refine calls_cw Try.func81 rfl Try.ntmps81 rfl ?_
  refine cw_seq ?_
  refine cw_region ?_
  refine ol_val (v := sv []) (by exact xr_assign rfl rfl) rfl rfl rfl ?_
  refine ol_val (v := .bool false) (by exact xr_assign rfl rfl) rfl rfl rfl ?_
  refine ol_nil ?_
  refine cw_seq ?_
  refine cw_seq ?_
  refine cw_mid (fun ρ' w' => ρ' 0 = V0_0 ∧ ρ' 14 = .bool (if (decide ((List.length a0 : Int) < 1)) = true then true else (decide ((List.length a0 : Int) > 16))) ∧ w = w') ?_ ?_
  · skip
    refine cw_region ?_
    refine ol_val (v := V0_0) (by exact xr_move rfl rfl) rfl rfl rfl ?_
    refine ol_val (v := .int .i64 (List.length a0 : Int)) (by exact xr_lenR rfl Try.underlying45 rfl (R0_0.gr fB)) rfl rfl rfl ?_
    refine ol_val (v := .bool (decide ((List.length a0 : Int) < 1))) (by exact xr_lss rfl rfl rfl) rfl rfl rfl ?_
    refine ol_val (v := .bool (decide ((List.length a0 : Int) < 1))) (by exact xr_move rfl rfl) rfl rfl rfl ?_
    rcases bt (decide ((List.length a0 : Int) < 1)) with c1 | c1
    · skip
      refine ol_gskip rfl rfl rfl rfl rfl c1 ?_
      refine ol_gskip rfl rfl rfl rfl rfl c1 ?_
      refine ol_gskip rfl rfl rfl rfl rfl c1 ?_
      refine ol_val (v := .bool true) (by exact xr_pickT rfl rfl c1 rfl) rfl rfl rfl ?_
      refine ol_nil ?_
      refine thn_i ?_
      exact ⟨rfl, (rfl).trans (congrArg (fun z => (.bool z : Value)) (show true = (if (decide ((List.length a0 : Int) < 1)) = true then true else (decide ((List.length a0 : Int) > 16))) from by rw [ite_t c1])), rfl⟩
    · skip
      refine ol_gval (v := V0_0) (by exact xr_move rfl rfl) rfl rfl rfl rfl rfl c1 ?_
      refine ol_gval (v := .int .i64 (List.length a0 : Int)) (by exact xr_lenR rfl Try.underlying45 rfl (R0_0.gr fB)) rfl rfl rfl rfl rfl c1 ?_
      refine ol_gval (v := .bool (decide ((List.length a0 : Int) > 16))) (by exact xr_gtr rfl rfl rfl) rfl rfl rfl rfl rfl c1 ?_
      refine ol_val (v := .bool (decide ((List.length a0 : Int) > 16))) (by exact xr_pickF rfl rfl c1 rfl) rfl rfl rfl ?_
      refine ol_nil ?_
      refine thn_i ?_
      exact ⟨rfl, (rfl).trans (congrArg (fun z => (.bool z : Value)) (show (decide ((List.length a0 : Int) > 16)) = (if (decide ((List.length a0 : Int) < 1)) = true then true else (decide ((List.length a0 : Int) > 16))) from by rw [ite_f c1])), rfl⟩
  · skip
    rintro ρ2 _ ⟨e0, e14, rfl⟩
    rcases is h with ⟨c3, h⟩ | ⟨c3, h⟩
    · refine cw_condT e14 c3 ?_
      refine cw_seq ?_
      refine cw_region ?_
      refine ol_val (v := sv []) (by exact xr_assign rfl rfl) rfl rfl rfl ?_
      refine ol_val (v := .bool false) (by exact xr_assign rfl rfl) rfl rfl rfl ?_
      refine ol_nil ?_
      refine cw_ret ?_
      repeat (first | with_reducible refine thn_r ?_ | with_reducible refine blk_r ?_)
      obtain rfl := Option.some.inj h
      refine fin_ret2 Try.results81 rfl rfl ?_
      exact ⟨_, rfl, rfl, fB⟩
    · refine cw_condF e14 c3 ?_
      refine cw_skip ?_
      refine cw_seq ?_
      refine cw_region ?_
      refine ol_val (v := sv []) (by exact xr_assign rfl rfl) rfl rfl rfl ?_
      refine ol_nil ?_
      refine cw_seq ?_
      refine cw_seq ?_
      refine cw_region ?_
      refine ol_val (v := .int .i64 0) (by exact xr_assign rfl rfl) rfl rfl rfl ?_
      refine ol_nil ?_
      obtain ⟨e5, l6, h7⟩ := bs h
      refine cw_mid (fun ρ' w' => ∃ x8, e5 = Sum.inr x8 ∧ ρ' 0 = V0_0 ∧ ρ' 4 = sv x8 ∧ Gr w w') ?_ ?_
      · refine cw_block ?_
        refine cw_round (fun (s4 : (List UInt8) × Int) ρ' w' => ρ' 0 = V0_0 ∧ ρ' 4 = sv s4.1 ∧ ρ' 5 = .int .i64 s4.2 ∧ Gr w w') l6 ?_ ?_
        · skip
          exact ⟨e0, rfl, rfl, fB⟩
        · rintro s4 x11 ρ9 w10 ⟨e0, e4, e5, fB⟩ h
          unfold rickyardref11_Dir.s1 at h
          refine cw_seq ?_
          refine cw_seq ?_
          refine cw_region ?_
          refine ol_val (v := .int .i64 s4.2) (by exact xr_move rfl e5) rfl rfl rfl ?_
          refine ol_val (v := V0_0) (by exact xr_move rfl e0) rfl rfl rfl ?_
          refine ol_val (v := .int .i64 (List.length a0 : Int)) (by exact xr_lenR rfl Try.underlying45 rfl (R0_0.gr fB)) rfl rfl rfl ?_
          refine ol_val (v := .bool (decide (s4.2 < (List.length a0 : Int)))) (by exact xr_lss rfl rfl rfl) rfl rfl rfl ?_
          refine ol_nil ?_
          rcases is h with ⟨c12, h⟩ | ⟨c12, h⟩
          · refine cw_condT rfl c12 ?_
            refine cw_skip ?_
            refine cw_seq ?_
            refine cw_block ?_
            refine cw_seq ?_
            refine cw_seq ?_
            refine cw_region ?_
            refine ol_val (v := V0_0) (by exact xr_move rfl e0) rfl rfl rfl ?_
            refine ol_val (v := .int .i64 s4.2) (by exact xr_move rfl e5) rfl rfl rfl ?_
            obtain ⟨g13, h⟩ := gs h
            refine ol_val (v := .pointer (some ⟨(sb V0_0), so V0_0 + Int.toNat s4.2 * 1, none⟩)) (by exact xr_indexR (K := (kI .i64)) (v := V0_0) rfl Try.underlying45 sz3 rfl (R0_0.gr fB) rfl g13.1 g13.2) rfl rfl rfl ?_
            refine ol_val (v := .int .i64 (ix a0 s4.2)) (by exact xr_load1 (v := .int .i64 (ix a0 s4.2)) rfl ag3 rfl ((R0_0.gr fB).elem g13.1 g13.2)) rfl rfl rfl ?_
            obtain ⟨t14, k15, h⟩ := bs h
            refine ol_op (by exact opv_call rfl cal107 (ac rfl an) (rickyardref08_Block.ok fu _ (ix a0 s4.2) _ k15)) rfl rfl rfl ?_
            rintro _ w17 ⟨rfl, q16⟩
            have fB := fB.gr q16
            refine ol_val (v := .bool (!t14)) (by exact xr_not rfl rfl) rfl rfl rfl ?_
            refine ol_nil ?_
            rcases is h with ⟨c18, h⟩ | ⟨c18, h⟩
            · refine cw_condT rfl c18 ?_
              refine cw_seq ?_
              refine cw_region ?_
              refine ol_val (v := sv []) (by exact xr_assign rfl rfl) rfl rfl rfl ?_
              refine ol_val (v := .bool false) (by exact xr_assign rfl rfl) rfl rfl rfl ?_
              refine ol_nil ?_
              refine cw_ret ?_
              repeat (first | with_reducible refine thn_r ?_ | with_reducible refine blk_r ?_)
              obtain rfl := Option.some.inj h
              refine lp_ret ?_
              rintro rfl
              repeat (first | with_reducible refine thn_r ?_ | with_reducible refine blk_r ?_)
              have h := h7
              obtain rfl := Option.some.inj h
              refine fin_ret2 Try.results81 rfl rfl ?_
              exact ⟨_, rfl, rfl, fB⟩
            · refine cw_condF rfl c18 ?_
              refine cw_skip ?_
              refine cw_seq ?_
              refine cw_seq ?_
              refine cw_region ?_
              refine ol_val (v := .int .i64 0) (by exact xr_assign rfl rfl) rfl rfl rfl ?_
              refine ol_nil ?_
              obtain ⟨e20, l21, h22⟩ := bs h
              refine cw_mid (fun ρ' w' => ∃ x23, e20 = Sum.inr x23 ∧ ρ' 0 = V0_0 ∧ ρ' 4 = sv s4.1 ∧ ρ' 5 = .int .i64 s4.2 ∧ Gr w w') ?_ ?_
              · refine cw_block ?_
                refine cw_round (fun (s19 : Int) ρ' w' => ρ' 0 = V0_0 ∧ ρ' 4 = sv s4.1 ∧ ρ' 5 = .int .i64 s4.2 ∧ ρ' 6 = .int .i64 s19 ∧ Gr w w') l21 ?_ ?_
                · skip
                  exact ⟨e0, e4, e5, rfl, fB⟩
                · rintro s19 x26 ρ24 w25 ⟨e0, e4, e5, e6, fB⟩ h
                  unfold rickyardref11_Dir.s2 at h
                  refine cw_seq ?_
                  refine cw_seq ?_
                  refine cw_region ?_
                  refine ol_val (v := .int .i64 s19) (by exact xr_move rfl e6) rfl rfl rfl ?_
                  refine ol_val (v := .int .i64 s4.2) (by exact xr_move rfl e5) rfl rfl rfl ?_
                  refine ol_val (v := .bool (decide (s19 < s4.2))) (by exact xr_lss rfl rfl rfl) rfl rfl rfl ?_
                  refine ol_nil ?_
                  rcases is h with ⟨c27, h⟩ | ⟨c27, h⟩
                  · refine cw_condT rfl c27 ?_
                    refine cw_skip ?_
                    refine cw_seq ?_
                    refine cw_block ?_
                    refine cw_seq ?_
                    obtain ⟨g28, h⟩ := gs h
                    obtain ⟨g29, h⟩ := gs h
                    refine cw_drawL 8 [fun vz wz => vz = (V0_0 : Value), fun vz wz => vz = (.int .i64 s19 : Value), fun vz wz => vz = (.pointer (some ⟨(sb V0_0), so V0_0 + Int.toNat s19 * 1, none⟩) : Value), fun vz wz => vz = (.int .i64 (ix a0 s19) : Value), fun vz wz => vz = (V0_0 : Value), fun vz wz => vz = (.int .i64 s4.2 : Value), fun vz wz => vz = (.pointer (some ⟨(sb V0_0), so V0_0 + Int.toNat s4.2 * 1, none⟩) : Value), fun vz wz => vz = (.int .i64 (ix a0 s4.2) : Value)] mo rfl ⟨fun _ _ _ h _ => h, fun _ _ _ h _ => h, fun _ _ _ h _ => h, fun _ _ _ h _ => h, fun _ _ _ h _ => h, fun _ _ _ h _ => h, fun _ _ _ h _ => h, fun _ _ _ h _ => h, trivial⟩ ?_ ?_
                    · refine ⟨?_, ?_, ?_, ?_, ?_, ?_, ?_, ?_, trivial⟩
                      · intro ρz wz hz hk hd
                        exact sk_val (v := V0_0) (by exact xr_move rfl ((hk 0 rfl).trans e0)) rfl rfl
                      · intro ρz wz hz hk hd
                        exact sk_val (v := .int .i64 s19) (by exact xr_move rfl ((hk 6 rfl).trans e6)) rfl rfl
                      · intro ρz wz hz hk hd
                        have d32 := hd 0 rfl 32 rfl
                        have d33 := hd 1 rfl 33 rfl
                        exact sk_val (by exact xr_indexR (K := (kI .i64)) (v := V0_0) rfl Try.underlying45 sz3 d32 (R0_0.gr (fB.gr hz)) d33 g28.1 g28.2) rfl rfl
                      · intro ρz wz hz hk hd
                        have d34 := hd 2 rfl 34 rfl
                        exact sk_val (v := .int .i64 (ix a0 s19)) (by exact xr_load1 (v := .int .i64 (ix a0 s19)) rfl ag3 d34 ((R0_0.gr (fB.gr hz)).elem g28.1 g28.2)) rfl rfl
                      · intro ρz wz hz hk hd
                        exact sk_val (v := V0_0) (by exact xr_move rfl ((hk 0 rfl).trans e0)) rfl rfl
                      · intro ρz wz hz hk hd
                        exact sk_val (v := .int .i64 s4.2) (by exact xr_move rfl ((hk 5 rfl).trans e5)) rfl rfl
                      · intro ρz wz hz hk hd
                        have d36 := hd 4 rfl 36 rfl
                        have d37 := hd 5 rfl 37 rfl
                        exact sk_val (by exact xr_indexR (K := (kI .i64)) (v := V0_0) rfl Try.underlying45 sz3 d36 (R0_0.gr (fB.gr hz)) d37 g29.1 g29.2) rfl rfl
                      · intro ρz wz hz hk hd
                        have d38 := hd 6 rfl 38 rfl
                        exact sk_val (v := .int .i64 (ix a0 s4.2)) (by exact xr_load1 (v := .int .i64 (ix a0 s4.2)) rfl ag3 d38 ((R0_0.gr (fB.gr hz)).elem g29.1 g29.2)) rfl rfl
                    · intro ρ30 w31 q32 hk hd
                      have e0 := (hk 0 rfl).trans e0
                      have e4 := (hk 4 rfl).trans e4
                      have e5 := (hk 5 rfl).trans e5
                      have e6 := (hk 6 rfl).trans e6
                      have e35 := hd 3 rfl 35 rfl
                      have e39 := hd 7 rfl 39 rfl
                      have fB := fB.gr q32
                      refine ol_val (v := .bool (decide ((ix a0 s19) = (ix a0 s4.2)))) (by exact xr_eqI rfl Try.underlying3 rfl e35 e39) rfl rfl rfl ?_
                      refine ol_nil ?_
                      rcases is h with ⟨c33, h⟩ | ⟨c33, h⟩
                      · refine cw_condT rfl c33 ?_
                        refine cw_seq ?_
                        refine cw_region ?_
                        refine ol_val (v := sv []) (by exact xr_assign rfl rfl) rfl rfl rfl ?_
                        refine ol_val (v := .bool false) (by exact xr_assign rfl rfl) rfl rfl rfl ?_
                        refine ol_nil ?_
                        refine cw_ret ?_
                        repeat (first | with_reducible refine thn_r ?_ | with_reducible refine blk_r ?_)
                        obtain rfl := Option.some.inj h
                        refine lp_ret ?_
                        rintro rfl
                        repeat (first | with_reducible refine thn_r ?_ | with_reducible refine blk_r ?_)
                        have h := h22
                        obtain rfl := Option.some.inj h
                        refine lp_ret ?_
                        rintro rfl
                        repeat (first | with_reducible refine thn_r ?_ | with_reducible refine blk_r ?_)
                        have h := h7
                        obtain rfl := Option.some.inj h
                        refine fin_ret2 Try.results81 rfl rfl ?_
                        exact ⟨_, rfl, rfl, fB⟩
                      · refine cw_condF rfl c33 ?_
                        refine cw_skip ?_
                        refine blk_i ?_
                        refine cw_region ?_
                        refine ol_val (v := .int .i64 s19) (by exact xr_move rfl e6) rfl rfl rfl ?_
                        refine ol_val (v := .int .i64 (IntKind.i64.wrap (s19 + 1))) (by exact xr_add rfl rfl rfl) rfl rfl rfl ?_
                        refine ol_val (v := .int .i64 (IntKind.i64.wrap (s19 + 1))) (by exact xr_assign rfl rfl) rfl rfl rfl ?_
                        refine ol_nil ?_
                        obtain rfl := Option.some.inj h
                        refine lp_in ?_
                        exact ⟨e0, e4, e5, rfl, fB⟩
                  · refine cw_condF rfl c27 ?_
                    refine cw_exit ?_
                    repeat (first | with_reducible refine thn_e ?_ | with_reducible refine blk_e rfl ?_)
                    obtain rfl := Option.some.inj h
                    refine lp_exit ?_
                    rintro rfl
                    refine thn_x ?_
                    exact ⟨_, rfl, e0, e4, e5, fB⟩
              · rintro ρ34 w35 ⟨x23, rfl, e0, e4, e5, fB⟩
                have h := h22
                refine cw_region ?_
                refine ol_val (v := sv s4.1) (by exact xr_move rfl e4) rfl rfl rfl ?_
                refine ol_val (v := V0_0) (by exact xr_move rfl e0) rfl rfl rfl ?_
                refine ol_val (v := .int .i64 s4.2) (by exact xr_move rfl e5) rfl rfl rfl ?_
                obtain ⟨g36, h⟩ := gs h
                refine ol_val (v := .pointer (some ⟨(sb V0_0), so V0_0 + Int.toNat s4.2 * 1, none⟩)) (by exact xr_indexR (K := (kI .i64)) (v := V0_0) rfl Try.underlying45 sz3 rfl (R0_0.gr fB) rfl g36.1 g36.2) rfl rfl rfl ?_
                refine ol_val (v := .int .i64 (ix a0 s4.2)) (by exact xr_load1 (v := .int .i64 (ix a0 s4.2)) rfl ag3 rfl ((R0_0.gr fB).elem g36.1 g36.2)) rfl rfl rfl ?_
                refine ol_val (v := .int .u64 (IntKind.u64.wrap (ix a0 s4.2))) (by exact xr_conv rfl Try.underlying3 Try.underlying129 rfl) rfl rfl rfl ?_
                obtain ⟨t37, k38, h⟩ := bs h
                refine ol_op (by exact opv_call rfl cal99 (ac rfl (ac rfl an)) (rickyardref01_Lay.ok fu _ (IntKind.u64.wrap (ix a0 s4.2)) 2 _ k38)) rfl rfl rfl ?_
                rintro _ w40 ⟨rfl, q39⟩
                have fB := fB.gr q39
                obtain ⟨g41, h⟩ := gs h
                refine ol_val (v := sv (s4.1 ++ t37)) (by exact xr_addStr rfl rfl rfl g41) rfl rfl rfl ?_
                refine ol_val (v := sv (s4.1 ++ t37)) (by exact xr_assign rfl rfl) rfl rfl rfl ?_
                refine ol_nil ?_
                refine blk_i ?_
                refine cw_region ?_
                refine ol_val (v := .int .i64 s4.2) (by exact xr_move rfl e5) rfl rfl rfl ?_
                refine ol_val (v := .int .i64 (IntKind.i64.wrap (s4.2 + 1))) (by exact xr_add rfl rfl rfl) rfl rfl rfl ?_
                refine ol_val (v := .int .i64 (IntKind.i64.wrap (s4.2 + 1))) (by exact xr_assign rfl rfl) rfl rfl rfl ?_
                refine ol_nil ?_
                obtain rfl := Option.some.inj h
                refine lp_in ?_
                exact ⟨e0, rfl, rfl, fB⟩
          · refine cw_condF rfl c12 ?_
            refine cw_exit ?_
            repeat (first | with_reducible refine thn_e ?_ | with_reducible refine blk_e rfl ?_)
            obtain rfl := Option.some.inj h
            refine lp_exit ?_
            rintro rfl
            refine thn_x ?_
            exact ⟨_, rfl, e0, e4, fB⟩
      · rintro ρ42 w43 ⟨x8, rfl, e0, e4, fB⟩
        have h := h7
        refine cw_seq ?_
        refine cw_region ?_
        refine ol_val (v := V0_0) (by exact xr_move rfl e0) rfl rfl rfl ?_
        refine ol_val (v := .int .i64 (List.length a0 : Int)) (by exact xr_lenR rfl Try.underlying45 rfl (R0_0.gr fB)) rfl rfl rfl ?_
        refine ol_val (v := sv x8) (by exact xr_move rfl e4) rfl rfl rfl ?_
        obtain ⟨t44, k45, h⟩ := bs h
        refine ol_op (by exact opv_call rfl cal30 (ac rfl (ac rfl (ac rfl an))) (rickyardref07_Seal.ok fu _ 6 (List.length a0 : Int) x8 _ k45)) rfl rfl rfl ?_
        rintro _ w47 ⟨rfl, q46⟩
        have fB := fB.gr q46
        refine ol_val (v := sv t44) (by exact xr_assign rfl rfl) rfl rfl rfl ?_
        refine ol_val (v := .bool true) (by exact xr_assign rfl rfl) rfl rfl rfl ?_
        refine ol_nil ?_
        refine cw_ret ?_
        repeat (first | with_reducible refine thn_r ?_ | with_reducible refine blk_r ?_)
        obtain rfl := Option.some.inj h
        refine fin_ret2 Try.results81 rfl rfl ?_
        exact ⟨_, rfl, rfl, fB⟩
end Go.Proofs.Ytjhajfkfhdnciaa

/- rickyard/label.GetDir: its model, and that the Go function computes it: written by gen.py. -/
set_option linter.unusedVariables false
namespace Go.Proofs.Ytjhajfkfhdnciaa
open Go Go.Xw
def label_GetDir.s0 (fu : Nat) (t10 : Int × Int × (List Int) × Bool) : (Int × (List Int)) → Option (Sum (List Int) (Int × (List Int))) := fun s39 => (if (decide (s39.1 < t10.2.1)) = true then (if (0 : Int) ≤ (IntKind.i64.wrap (2 * s39.1)) ∧ (IntKind.i64.wrap (2 * s39.1)) ≤ (IntKind.i64.wrap (2 * (IntKind.i64.wrap (s39.1 + 1)))) ∧ (IntKind.i64.wrap (2 * (IntKind.i64.wrap (s39.1 + 1)))) ≤ (List.length t10.2.2.1 : Int) then ((octet_Read.f fu (cut t10.2.2.1 (IntKind.i64.wrap (2 * s39.1)) (IntKind.i64.wrap (2 * (IntKind.i64.wrap (s39.1 + 1))))) : Option Int).bind fun t56 => (if List.length s39.2 + List.length [(IntKind.i64.wrap t56)] ≤ LIM then some (Sum.inr ((IntKind.i64.wrap (s39.1 + 1)), (s39.2 ++ [(IntKind.i64.wrap t56)]))) else none)) else none) else some (Sum.inl (s39.2)))
def label_GetDir.f (fu : Nat) (a0 : List Int) : Option (S_api_Dir × Bool) := ((block_Open.f fu a0 : Option (Int × Int × (List Int) × Bool)).bind fun t10 => (((if (!t10.2.2.2) = true then some (true) else (if (!decide (t10.1 = 6)) = true then some (true) else (if (decide (t10.2.1 > 16)) = true then some (true) else ((octet_Noughts.f fu t10.2.2.1 (IntKind.i64.wrap (2 * t10.2.1)) (IntKind.i64.wrap ((List.length t10.2.2.1 : Int) - (IntKind.i64.wrap (2 * t10.2.1)))) : Option Bool).bind fun t22 => some ((!t22)))))) : Option Bool).bind fun x17 => (if x17 = true then some ((⟨[]⟩ : S_api_Dir), false) else ((loopM (label_GetDir.s0 fu t10) fu (0, [])).bind fun e40 => ((label_RightDir.f fu (⟨e40⟩ : S_api_Dir) : Option Bool).bind fun t87 => (if (!t87) = true then some ((⟨[]⟩ : S_api_Dir), false) else some ((⟨e40⟩ : S_api_Dir), true)))))))
set_option maxRecDepth 100000 in
set_option maxHeartbeats 400000 in
theorem label_GetDir.ok (fu : Nat) (w : World) (a0 : List Int) (V0_0 : Value) (R0_0 : Rd (kI .u8) w V0_0 a0) (r : S_api_Dir × Bool) (h : label_GetDir.f fu a0 = some r) :
    Calls Try.prog 82 (([V0_0] : List Value).toArray) w (fun e w' => ∃ v, e = .returned v ∧ ∃ u1 : Value, ∃ o2 : Own (kI .i64) 3 w' w.heap.size u1 r.1.Queues, v = .tuple #[aggV [Seg.cell u1 o2.one], .bool r.2] ∧ Gr w w') := by
  unfold label_GetDir.f at h
  have fB : Gr w w := Fr.refl _ _
  refine calls_cw Try.func82 rfl Try.ntmps82 rfl ?_
  refine cw_seq ?_
  refine cw_region ?_
  refine ol_op (by exact opv_alloc (ss := [Seg.cell (.slice none 0 0) (by rfl)]) rfl ze107 rfl) rfl rfl rfl ?_
  rintro _ w9 ⟨G4, rfl, b5, q6, z7⟩
  have z7 := Nat.le_trans fB.size z7
  have fB := fB.gr q6
  refine ol_val (v := .bool false) (by exact xr_assign rfl rfl) rfl rfl rfl ?_
  refine ol_nil ?_
  refine cw_seq ?_
  refine cw_region ?_
  refine ol_val (v := V0_0) (by exact xr_move rfl rfl) rfl rfl rfl ?_
  obtain ⟨t10, k11, h⟩ := bs h
  refine ol_op (by exact opv_call rfl cal29 (ac rfl an) (block_Open.ok fu _ a0 V0_0 (R0_0.gr fB) _ k11)) rfl rfl rfl ?_
  rintro _ w16 ⟨u12, o13, rfl, q15⟩
  have o13 := Own.base o13 fB.size
  have b5 := b5.gr q15
  have fB := fB.gr q15
  refine ol_val (v := .tuple #[.int .i64 t10.1, .int .i64 t10.2.1, u12, .bool t10.2.2.2]) (by exact xr_move rfl rfl) rfl rfl rfl ?_
  refine ol_val (v := .int .i64 t10.1) (by exact xr_extract rfl rfl rfl) rfl rfl rfl ?_
  refine ol_val (v := .int .i64 t10.2.1) (by exact xr_extract rfl rfl rfl) rfl rfl rfl ?_
  refine ol_val (v := u12) (by exact xr_extract rfl rfl rfl) rfl rfl rfl ?_
  refine ol_val (v := .bool t10.2.2.2) (by exact xr_extract rfl rfl rfl) rfl rfl rfl ?_
  refine ol_val (v := .int .i64 t10.1) (by exact xr_assign rfl rfl) rfl rfl rfl ?_
  refine ol_val (v := .int .i64 t10.2.1) (by exact xr_assign rfl rfl) rfl rfl rfl ?_
  refine ol_val (v := u12) (by exact xr_assign rfl rfl) rfl rfl rfl ?_
  refine ol_val (v := .bool t10.2.2.2) (by exact xr_assign rfl rfl) rfl rfl rfl ?_
  refine ol_nil ?_
  refine cw_seq ?_
  refine cw_seq ?_
  obtain ⟨x17, j18, h⟩ := bs h
  refine cw_mid (fun ρ' w' => ρ' 2 = .pointer (some ⟨G4, 0, none⟩) ∧ ρ' 5 = .int .i64 t10.2.1 ∧ ρ' 6 = u12 ∧ ρ' 38 = .bool x17 ∧ Gr w16 w') ?_ ?_
  · skip
    refine cw_region ?_
    refine ol_val (v := .bool t10.2.2.2) (by exact xr_move rfl rfl) rfl rfl rfl ?_
    refine ol_val (v := .bool (!t10.2.2.2)) (by exact xr_not rfl rfl) rfl rfl rfl ?_
    refine ol_val (v := .bool (!t10.2.2.2)) (by exact xr_move rfl rfl) rfl rfl rfl ?_
    rcases is j18 with ⟨c19, j18⟩ | ⟨c19, j18⟩
    · skip
      refine ol_gskip rfl rfl rfl rfl rfl c19 ?_
      refine ol_gskip rfl rfl rfl rfl rfl c19 ?_
      refine ol_val (v := .bool true) (by exact xr_pickT rfl rfl c19 rfl) rfl rfl rfl ?_
      refine ol_val (v := .bool true) (by exact xr_move rfl rfl) rfl rfl rfl ?_
      refine ol_gskip rfl rfl rfl rfl rfl rfl ?_
      refine ol_gskip rfl rfl rfl rfl rfl rfl ?_
      refine ol_val (v := .bool true) (by exact xr_pickT rfl rfl rfl rfl) rfl rfl rfl ?_
      refine ol_val (v := .bool true) (by exact xr_move rfl rfl) rfl rfl rfl ?_
      refine ol_gskip rfl rfl rfl rfl rfl rfl ?_
      refine ol_gskip rfl rfl rfl rfl rfl rfl ?_
      refine ol_gskip rfl rfl rfl rfl rfl rfl ?_
      refine ol_gskip rfl rfl rfl rfl rfl rfl ?_
      refine ol_gskip rfl rfl rfl rfl rfl rfl ?_
      refine ol_gskip rfl rfl rfl rfl rfl rfl ?_
      refine ol_gskip rfl rfl rfl rfl rfl rfl ?_
      refine ol_gskip rfl rfl rfl rfl rfl rfl ?_
      refine ol_gskip rfl rfl rfl rfl rfl rfl ?_
      refine ol_gskip rfl rfl rfl rfl rfl rfl ?_
      refine ol_val (v := .bool true) (by exact xr_pickT rfl rfl rfl rfl) rfl rfl rfl ?_
      refine ol_nil ?_
      obtain rfl := Option.some.inj j18
      refine thn_i ?_
      exact ⟨rfl, rfl, rfl, rfl, Fr.refl _ _⟩
    · skip
      refine ol_gval (v := .int .i64 t10.1) (by exact xr_move rfl rfl) rfl rfl rfl rfl rfl c19 ?_
      refine ol_gval (v := .bool (!decide (t10.1 = 6))) (by exact xr_neI rfl Try.underlying3 rfl rfl rfl) rfl rfl rfl rfl rfl c19 ?_
      refine ol_val (v := .bool (!decide (t10.1 = 6))) (by exact xr_pickF rfl rfl c19 rfl) rfl rfl rfl ?_
      refine ol_val (v := .bool (!decide (t10.1 = 6))) (by exact xr_move rfl rfl) rfl rfl rfl ?_
      rcases is j18 with ⟨c20, j18⟩ | ⟨c20, j18⟩
      · skip
        refine ol_gskip rfl rfl rfl rfl rfl c20 ?_
        refine ol_gskip rfl rfl rfl rfl rfl c20 ?_
        refine ol_val (v := .bool true) (by exact xr_pickT rfl rfl c20 rfl) rfl rfl rfl ?_
        refine ol_val (v := .bool true) (by exact xr_move rfl rfl) rfl rfl rfl ?_
        refine ol_gskip rfl rfl rfl rfl rfl rfl ?_
        refine ol_gskip rfl rfl rfl rfl rfl rfl ?_
        refine ol_gskip rfl rfl rfl rfl rfl rfl ?_
        refine ol_gskip rfl rfl rfl rfl rfl rfl ?_
        refine ol_gskip rfl rfl rfl rfl rfl rfl ?_
        refine ol_gskip rfl rfl rfl rfl rfl rfl ?_
        refine ol_gskip rfl rfl rfl rfl rfl rfl ?_
        refine ol_gskip rfl rfl rfl rfl rfl rfl ?_
        refine ol_gskip rfl rfl rfl rfl rfl rfl ?_
        refine ol_gskip rfl rfl rfl rfl rfl rfl ?_
        refine ol_val (v := .bool true) (by exact xr_pickT rfl rfl rfl rfl) rfl rfl rfl ?_
        refine ol_nil ?_
        obtain rfl := Option.some.inj j18
        refine thn_i ?_
        exact ⟨rfl, rfl, rfl, rfl, Fr.refl _ _⟩
      · skip
        refine ol_gval (v := .int .i64 t10.2.1) (by exact xr_move rfl rfl) rfl rfl rfl rfl rfl c20 ?_
        refine ol_gval (v := .bool (decide (t10.2.1 > 16))) (by exact xr_gtr rfl rfl rfl) rfl rfl rfl rfl rfl c20 ?_
        refine ol_val (v := .bool (decide (t10.2.1 > 16))) (by exact xr_pickF rfl rfl c20 rfl) rfl rfl rfl ?_
        refine ol_val (v := .bool (decide (t10.2.1 > 16))) (by exact xr_move rfl rfl) rfl rfl rfl ?_
        rcases is j18 with ⟨c21, j18⟩ | ⟨c21, j18⟩
        · skip
          refine ol_gskip rfl rfl rfl rfl rfl c21 ?_
          refine ol_gskip rfl rfl rfl rfl rfl c21 ?_
          refine ol_gskip rfl rfl rfl rfl rfl c21 ?_
          refine ol_gskip rfl rfl rfl rfl rfl c21 ?_
          refine ol_gskip rfl rfl rfl rfl rfl c21 ?_
          refine ol_gskip rfl rfl rfl rfl rfl c21 ?_
          refine ol_gskip rfl rfl rfl rfl rfl c21 ?_
          refine ol_gskip rfl rfl rfl rfl rfl c21 ?_
          refine ol_gskip rfl rfl rfl rfl rfl c21 ?_
          refine ol_gskip rfl rfl rfl rfl rfl c21 ?_
          refine ol_val (v := .bool true) (by exact xr_pickT rfl rfl c21 rfl) rfl rfl rfl ?_
          refine ol_nil ?_
          obtain rfl := Option.some.inj j18
          refine thn_i ?_
          exact ⟨rfl, rfl, rfl, rfl, Fr.refl _ _⟩
        · skip
          refine ol_gval (v := u12) (by exact xr_move rfl rfl) rfl rfl rfl rfl rfl c21 ?_
          refine ol_gval (v := .int .i64 t10.2.1) (by exact xr_move rfl rfl) rfl rfl rfl rfl rfl c21 ?_
          refine ol_gval (v := .int .i64 (IntKind.i64.wrap (2 * t10.2.1))) (by exact xr_mul rfl rfl rfl) rfl rfl rfl rfl rfl c21 ?_
          refine ol_gval (v := u12) (by exact xr_move rfl rfl) rfl rfl rfl rfl rfl c21 ?_
          refine ol_gval (v := .int .i64 (List.length t10.2.2.1 : Int)) (by exact xr_lenR rfl Try.underlying22 rfl o13.rd) rfl rfl rfl rfl rfl c21 ?_
          refine ol_gval (v := .int .i64 t10.2.1) (by exact xr_move rfl rfl) rfl rfl rfl rfl rfl c21 ?_
          refine ol_gval (v := .int .i64 (IntKind.i64.wrap (2 * t10.2.1))) (by exact xr_mul rfl rfl rfl) rfl rfl rfl rfl rfl c21 ?_
          refine ol_gval (v := .int .i64 (IntKind.i64.wrap ((List.length t10.2.2.1 : Int) - (IntKind.i64.wrap (2 * t10.2.1))))) (by exact xr_sub rfl rfl rfl) rfl rfl rfl rfl rfl c21 ?_
          obtain ⟨t22, k23, j18⟩ := bs j18
          refine ol_gop (by exact opv_call rfl cal102 (ac rfl (ac rfl (ac rfl an))) (octet_Noughts.ok fu _ t10.2.2.1 u12 (o13.rd) (IntKind.i64.wrap (2 * t10.2.1)) (IntKind.i64.wrap ((List.length t10.2.2.1 : Int) - (IntKind.i64.wrap (2 * t10.2.1)))) _ k23)) rfl rfl rfl rfl rfl c21 ?_
          rintro _ w25 ⟨rfl, q24⟩
          have b5 := b5.gr q24
          have o13 := o13.gr q24
          have fB := fB.gr q24
          refine ol_gval (v := .bool (!t22)) (by exact xr_not rfl rfl) rfl rfl rfl rfl rfl c21 ?_
          refine ol_val (v := .bool (!t22)) (by exact xr_pickF rfl rfl c21 rfl) rfl rfl rfl ?_
          refine ol_nil ?_
          obtain rfl := Option.some.inj j18
          refine thn_i ?_
          exact ⟨rfl, rfl, rfl, rfl, q24⟩
  · skip
    rintro ρ26 w27 ⟨e2, e5, e6, e38, q28⟩
    have b5 := b5.gr q28
    have o13 := o13.gr q28
    have fB := fB.gr q28
    rcases is h with ⟨c29, h⟩ | ⟨c29, h⟩
    · refine cw_condT e38 c29 ?_
      refine cw_seq ?_
      refine cw_region ?_
      refine ol_val (v := aggV [Seg.cell (.slice none 0 0) (by rfl)]) (by exact xr_build (vals := []) rfl trivial (bl107_ _)) rfl rfl rfl ?_
      refine ol_op0 (by exact opv_store (ss' := [Seg.cell (.slice none 0 0) (by rfl)]) (xs := cellsOf [Seg.cell (.slice none 0 0) (by rfl)]) rfl sz107 e2 rfl rfl (len_cellsOf _) (one_cellsOf _) b5 (Spl.segs _ 0 1 [Seg.cell (.slice none 0 0) (by rfl)] rfl rfl)) rfl rfl ?_
      rintro _ w31 ⟨b5, q30⟩
      have fB := fB.wr q30 z7
      refine ol_val (v := .bool false) (by exact xr_assign rfl rfl) rfl rfl rfl ?_
      refine ol_nil ?_
      refine cw_ret ?_
      repeat (first | with_reducible refine thn_r ?_ | with_reducible refine blk_r ?_)
      obtain rfl := Option.some.inj h
      refine fin_cell_tmp Try.results82 e2 ag107 sz107 b5 (by rfl) rfl ?_
      exact ⟨_, rfl, (.slice none 0 0), Own.nil _ _ _ _, rfl, fB⟩
    · refine cw_condF e38 c29 ?_
      refine cw_skip ?_
      refine cw_seq ?_
      refine cw_region ?_
      refine ol_op (by exact opv_alloc (ss := [Seg.cell (.slice none 0 0) (by rfl)]) rfl ze107 rfl) rfl rfl rfl ?_
      rintro _ w37 ⟨G32, rfl, b33, q34, z35⟩
      have n38 := b5.ne z35
      have z35 := Nat.le_trans fB.size z35
      have b5 := b5.gr q34
      have o13 := o13.gr q34
      have fB := fB.gr q34
      refine ol_nil ?_
      refine cw_seq ?_
      refine cw_seq ?_
      refine cw_region ?_
      refine ol_val (v := .int .i64 t10.2.1) (by exact xr_move rfl e5) rfl rfl rfl ?_
      refine ol_val (v := .int .i64 0) (by exact xr_move rfl rfl) rfl rfl rfl ?_
      refine ol_nil ?_
      obtain ⟨e40, l41, h42⟩ := bs h
      refine cw_mid (fun ρ' w' => ∃ v43 : Value, ∃ o44 : Own (kI .i64) 3 w' w.heap.size v43 e40, ρ' 2 = .pointer (some ⟨G4, 0, none⟩) ∧ ρ' 8 = .pointer (some ⟨G32, 0, none⟩) ∧ Blk w' G4 107 [Seg.cell (.slice none 0 0) (by rfl)] ∧ Blk w' G32 107 [Seg.cell v43 o44.one] ∧ Gr w w') ?_ ?_
      · refine cw_block ?_
        refine cw_round (fun (s39 : Int × (List Int)) ρ' w' => ∃ v46 : Value, ∃ o13 : Own (kI .u8) 5 w' w.heap.size u12 t10.2.2.1, ∃ o47 : Own (kI .i64) 3 w' w.heap.size v46 s39.2, ρ' 2 = .pointer (some ⟨G4, 0, none⟩) ∧ ρ' 6 = u12 ∧ ρ' 8 = .pointer (some ⟨G32, 0, none⟩) ∧ ρ' 40 = .int .i64 t10.2.1 ∧ ρ' 41 = .int .i64 s39.1 ∧ Blk w' G4 107 [Seg.cell (.slice none 0 0) (by rfl)] ∧ Blk w' G32 107 [Seg.cell v46 o47.one] ∧ Gr w w') l41 ?_ ?_
        · skip
          exact ⟨(.slice none 0 0), o13, Own.nil _ _ _ _, e2, e6, rfl, rfl, rfl, b5, b33, fB⟩
        · rintro s39 x51 ρ49 w50 ⟨v46, o13, o47, e2, e6, e8, e40, e41, b5, b33, fB⟩ h
          unfold label_GetDir.s0 at h
          refine cw_seq ?_
          refine cw_region ?_
          refine ol_val (v := .bool (decide (s39.1 < t10.2.1))) (by exact xr_lss rfl e41 e40) rfl rfl rfl ?_
          refine ol_nil ?_
          refine cw_seq ?_
          rcases is h with ⟨c52, h⟩ | ⟨c52, h⟩
          · refine cw_condT rfl c52 ?_
            refine cw_skip ?_
            refine cw_seq ?_
            refine cw_block ?_
            refine cw_seq ?_
            refine cw_region ?_
            refine ol_val (v := .int .i64 s39.1) (by exact xr_move rfl e41) rfl rfl rfl ?_
            refine ol_val (v := .int .i64 s39.1) (by exact xr_assign rfl rfl) rfl rfl rfl ?_
            refine ol_nil ?_
            obtain ⟨g54, h⟩ := gs h
            obtain ⟨t56, k57, h⟩ := bs h
            refine cw_drawL 12 [fun vz wz => vz = (.pointer (some ⟨G32, 0, none⟩) : Value), fun vz wz => vz = (v46 : Value), fun vz wz => vz = (u12 : Value), fun vz wz => vz = (.int .i64 s39.1 : Value), fun vz wz => vz = (.int .i64 (IntKind.i64.wrap (2 * s39.1)) : Value), fun vz wz => vz = (.int .i64 s39.1 : Value), fun vz wz => vz = (.int .i64 (IntKind.i64.wrap (s39.1 + 1)) : Value), fun vz wz => vz = (.int .i64 (IntKind.i64.wrap (2 * (IntKind.i64.wrap (s39.1 + 1)))) : Value), fun vz wz => ∃ u55 : Value, ∃ r53 : Rd (kI .u8) wz u55 (cut t10.2.2.1 (IntKind.i64.wrap (2 * s39.1)) (IntKind.i64.wrap (2 * (IntKind.i64.wrap (s39.1 + 1))))), vz = (u55 : Value), fun vz wz => vz = (.int .u64 t56 : Value), fun vz wz => vz = (.int .i64 (IntKind.i64.wrap t56) : Value), fun vz wz => ∃ v59 : Value, ∃ o61 : Own (kI .i64) 3 wz w.heap.size v59 [(IntKind.i64.wrap t56)], vz = (v59 : Value)] mo rfl ⟨fun _ _ _ h _ => h, fun _ _ _ h _ => h, fun _ _ _ h _ => h, fun _ _ _ h _ => h, fun _ _ _ h _ => h, fun _ _ _ h _ => h, fun _ _ _ h _ => h, fun _ _ _ h _ => h, fun _ _ _ ⟨u55, r53, h⟩ q => ⟨u55, r53.gr q, h⟩, fun _ _ _ h _ => h, fun _ _ _ h _ => h, fun _ _ _ ⟨v59, o61, h⟩ q => ⟨v59, o61.gr q, h⟩, trivial⟩ ?_ ?_
            · refine ⟨?_, ?_, ?_, ?_, ?_, ?_, ?_, ?_, ?_, ?_, ?_, ?_, trivial⟩
              · intro ρz wz hz hk hd
                exact sk_val (v := .pointer (some ⟨G32, 0, none⟩)) (by exact xr_fieldAddr (p := 0) (q := 0) rfl fl107_0 ((hk 8 rfl).trans e8)) rfl rfl
              · intro ρz wz hz hk hd
                have d44 := hd 0 rfl 44 rfl
                exact sk_val (v := v46) (by exact xr_load1 (v := v46) rfl ag45 d44 ((b33.gr hz).seg 0 rfl rfl)) rfl rfl
              · intro ρz wz hz hk hd
                exact sk_val (v := u12) (by exact xr_move rfl ((hk 6 rfl).trans e6)) rfl rfl
              · intro ρz wz hz hk hd
                exact sk_val (v := .int .i64 s39.1) (by exact xr_move rfl ((hk 9 rfl).trans rfl)) rfl rfl
              · intro ρz wz hz hk hd
                have d47 := hd 3 rfl 47 rfl
                exact sk_val (v := .int .i64 (IntKind.i64.wrap (2 * s39.1))) (by exact xr_mul rfl rfl d47) rfl rfl
              · intro ρz wz hz hk hd
                exact sk_val (v := .int .i64 s39.1) (by exact xr_move rfl ((hk 9 rfl).trans rfl)) rfl rfl
              · intro ρz wz hz hk hd
                have d49 := hd 5 rfl 49 rfl
                exact sk_val (v := .int .i64 (IntKind.i64.wrap (s39.1 + 1))) (by exact xr_add rfl d49 rfl) rfl rfl
              · intro ρz wz hz hk hd
                have d50 := hd 6 rfl 50 rfl
                exact sk_val (by exact xr_mul rfl rfl d50) rfl rfl
              · intro ρz wz hz hk hd
                have d46 := hd 2 rfl 46 rfl
                have d48 := hd 4 rfl 48 rfl
                have d51 := hd 7 rfl 51 rfl
                exact sk_val (by exact xr_slice_lh (K := (kI .u8)) (v := u12) rfl Try.underlying22 sz5 d46 (o13.gr hz).rd d48 d51 g54.1 g54.2.1 g54.2.2) rfl ⟨_, (o13.gr hz).rd.cut (lo := (IntKind.i64.wrap (2 * s39.1))) (hi := (IntKind.i64.wrap (2 * (IntKind.i64.wrap (s39.1 + 1))))) g54.1 g54.2.1 g54.2.2, rfl⟩
              · intro ρz wz hz hk hd
                obtain ⟨u55, r53, d52⟩ := hd 8 rfl 52 rfl
                refine sk_op (by exact opv_call rfl cal112 (ac d52 an) (octet_Read.ok fu _ (cut t10.2.2.1 (IntKind.i64.wrap (2 * s39.1)) (IntKind.i64.wrap (2 * (IntKind.i64.wrap (s39.1 + 1))))) u55 (r53) _ k57)) rfl ?_
                rintro _ wy ⟨rfl, q58⟩
                exact ⟨rfl, q58⟩
              · intro ρz wz hz hk hd
                have d53 := hd 9 rfl 53 rfl
                exact sk_val (v := .int .i64 (IntKind.i64.wrap t56)) (by exact xr_conv rfl Try.underlying129 Try.underlying3 d53) rfl rfl
              · intro ρz wz hz hk hd
                have d54 := hd 10 rfl 54 rfl
                refine sk_op (by exact opv_buildSlice (K := (kI .i64)) (xs := [(IntKind.i64.wrap t56)]) (vals := [.int .i64 (IntKind.i64.wrap t56)]) rfl Try.underlying45 el3 rfl rfl ⟨rfl, d54, trivial⟩ rfl rfl rfl (Nat.le_trans fB.size hz.size)) rfl ?_
                rintro v59 wy ⟨o61, q60, z62⟩
                exact ⟨⟨v59, o61, rfl⟩, q60⟩
            · intro ρ64 w65 q66 hk hd
              have e2 := (hk 2 rfl).trans e2
              have e6 := (hk 6 rfl).trans e6
              have e8 := (hk 8 rfl).trans e8
              have e40 := (hk 40 rfl).trans e40
              have e41 := (hk 41 rfl).trans e41
              have e45 := hd 1 rfl 45 rfl
              obtain ⟨v67, o68, e55⟩ := hd 11 rfl 55 rfl
              have b5 := b5.gr q66
              have b33 := b33.gr q66
              have o13 := o13.gr q66
              have o47 := o47.gr q66
              have fB := fB.gr q66
              obtain ⟨g74, h⟩ := gs h
              have f76 := off_ty b5 o47 (by decide)
              have f77 := off_ty b33 o47 (by decide)
              have f78 := OffV.ty o13 o47 (by decide)
              have f79 := o47.geO
              refine ol_op (by exact opv_append (K := (kI .i64)) rfl Try.underlying45 el3 rfl rfl rfl e45 e55 o47 o68.rd g74 fB.size) rfl rfl rfl ?_
              rintro v70 w80 ⟨o71, q72, n73⟩
              have b5 := b5.wrO q72 f76
              have b33 := b33.wrO q72 f77
              have o13 := o13.wrV q72 f78
              have fB := fB.wrO q72 f79
              refine ol_val (v := .pointer (some ⟨G32, 0, none⟩)) (by exact xr_fieldAddr (p := 0) (q := 0) rfl fl107_0 e8) rfl rfl rfl ?_
              have f82 := off_ty b33 o13 (by decide)
              have f83 := off_ty b33 o71 (by decide)
              refine ol_op0 (by exact opv_store (ss' := [Seg.cell v70 o71.one]) (xs := cellsOf [Seg.cell v70 o71.one]) rfl sz45 rfl rfl (cells_one o71.one) (len_cellsOf _) (one_cellsOf _) b33 (Spl.segs _ 0 1 [Seg.cell v70 o71.one] rfl rfl)) rfl rfl ?_
              rintro _ w84 ⟨b33, q81⟩
              have b5 := b5.wr q81 n38
              have o13 := o13.wr q81 f82
              have o71 := o71.wr q81 f83
              have fB := fB.wr q81 z35
              refine ol_nil ?_
              refine blk_i ?_
              refine cw_region ?_
              refine ol_val (v := .int .i64 (IntKind.i64.wrap (s39.1 + 1))) (by exact xr_add rfl e41 rfl) rfl rfl rfl ?_
              refine ol_val (v := .int .i64 (IntKind.i64.wrap (s39.1 + 1))) (by exact xr_move rfl rfl) rfl rfl rfl ?_
              refine ol_nil ?_
              obtain rfl := Option.some.inj h
              refine lp_in ?_
              exact ⟨v70, o13, o71, e2, e6, e8, e40, rfl, b5, b33, fB⟩
          · refine cw_condF rfl c52 ?_
            refine cw_exit ?_
            repeat (first | with_reducible refine thn_e ?_ | with_reducible refine blk_e rfl ?_)
            obtain rfl := Option.some.inj h
            refine lp_exit ?_
            rintro rfl
            refine thn_x ?_
            exact ⟨v46, o47, e2, e8, b5, b33, fB⟩
      · rintro ρ85 w86 ⟨v43, o44, e2, e8, b5, b33, fB⟩
        have h := h42
        refine cw_seq ?_
        refine cw_seq ?_
        refine cw_region ?_
        refine ol_val (v := aggV [Seg.cell v43 o44.one]) (by exact xr_loadS (ss := [Seg.cell v43 o44.one]) rfl ag107 sz107 rfl e8 (b33.segs 0 1 rfl)) rfl rfl rfl ?_
        obtain ⟨t87, k88, h⟩ := bs h
        refine ol_op (by exact opv_call rfl cal83 (ac rfl an) (label_RightDir.ok fu _ (⟨e40⟩ : S_api_Dir) v43 (o44.rd) _ k88)) rfl rfl rfl ?_
        rintro _ w90 ⟨rfl, q89⟩
        have b5 := b5.gr q89
        have b33 := b33.gr q89
        have o44 := o44.gr q89
        have fB := fB.gr q89
        refine ol_val (v := .bool (!t87)) (by exact xr_not rfl rfl) rfl rfl rfl ?_
        refine ol_nil ?_
        rcases is h with ⟨c91, h⟩ | ⟨c91, h⟩
        · refine cw_condT rfl c91 ?_
          refine cw_seq ?_
          refine cw_region ?_
          refine ol_val (v := aggV [Seg.cell (.slice none 0 0) (by rfl)]) (by exact xr_build (vals := []) rfl trivial (bl107_ _)) rfl rfl rfl ?_
          refine ol_op0 (by exact opv_store (ss' := [Seg.cell (.slice none 0 0) (by rfl)]) (xs := cellsOf [Seg.cell (.slice none 0 0) (by rfl)]) rfl sz107 e2 rfl rfl (len_cellsOf _) (one_cellsOf _) b5 (Spl.segs _ 0 1 [Seg.cell (.slice none 0 0) (by rfl)] rfl rfl)) rfl rfl ?_
          rintro _ w93 ⟨b5, q92⟩
          have fB := fB.wr q92 z7
          refine ol_val (v := .bool false) (by exact xr_assign rfl rfl) rfl rfl rfl ?_
          refine ol_nil ?_
          refine cw_ret ?_
          repeat (first | with_reducible refine thn_r ?_ | with_reducible refine blk_r ?_)
          obtain rfl := Option.some.inj h
          refine fin_cell_tmp Try.results82 e2 ag107 sz107 b5 (by rfl) rfl ?_
          exact ⟨_, rfl, (.slice none 0 0), Own.nil _ _ _ _, rfl, fB⟩
        · refine cw_condF rfl c91 ?_
          refine cw_skip ?_
          refine cw_seq ?_
          refine cw_region ?_
          refine ol_val (v := aggV [Seg.cell v43 o44.one]) (by exact xr_loadS (ss := [Seg.cell v43 o44.one]) rfl ag107 sz107 rfl e8 (b33.segs 0 1 rfl)) rfl rfl rfl ?_
          have f95 := off_ty b5 o44 (by decide)
          refine ol_op0 (by exact opv_store (ss' := [Seg.cell v43 o44.one]) (xs := cellsOf [Seg.cell v43 o44.one]) rfl sz107 e2 rfl rfl (len_cellsOf _) (one_cellsOf _) b5 (Spl.segs _ 0 1 [Seg.cell v43 o44.one] rfl rfl)) rfl rfl ?_
          rintro _ w96 ⟨b5, q94⟩
          have o44 := o44.wr q94 f95
          have fB := fB.wr q94 z7
          refine ol_val (v := .bool true) (by exact xr_assign rfl rfl) rfl rfl rfl ?_
          refine ol_nil ?_
          refine cw_ret ?_
          repeat (first | with_reducible refine thn_r ?_ | with_reducible refine blk_r ?_)
          obtain rfl := Option.some.inj h
          refine fin_cell_tmp Try.results82 e2 ag107 sz107 b5 (by rfl) rfl ?_
          exact ⟨_, rfl, v43, o44, rfl, fB⟩
end Go.Proofs.Ytjhajfkfhdnciaa

/- rickyard/rickyardlaw11.LabelDirs: its model, and that the Go function computes it: written by gen.py. -/
set_option linter.unusedVariables false
namespace Go.Proofs.Ytjhajfkfhdnciaa
open Go Go.Xw
def rickyardlaw11_LabelDirs.f (fu : Nat) (a0 : S_api_Dir) : Option Bool := ((((rickyardlaw11_awake.f fu : Option Bool).bind fun t9 => (if (!t9) = true then some (true) else some ((decide ((List.length a0.Queues : Int) > 60))))) : Option Bool).bind fun x7 => (if x7 = true then ((rickyardlaw11_awake.f fu : Option Bool).bind fun t18 => some (t18)) else (if List.length ([] : List Int) + List.length a0.Queues ≤ LIM then ((label_PutDir.f fu a0 : Option ((List Int) × Bool)).bind fun t37 => ((rickyardref11_Dir.f fu (([] : List Int) ++ a0.Queues) : Option ((List UInt8) × Bool)).bind fun t44 => ((label_GetDir.f fu t37.1 : Option (S_api_Dir × Bool)).bind fun t48 => (((if (decide (t37.2 = t44.2)) = true then (if (decide ((List.map toB t37.1) = t44.1)) = true then ((label_RightDir.f fu a0 : Option Bool).bind fun t72 => (if (decide (t72 = t44.2)) = true then (if (decide (t48.2 = t44.2)) = true then (if (!t48.2) = true then ((rickyardref01_Ints.f fu a0.Queues (([] : List Int) ++ a0.Queues) : Option Bool).bind fun t79 => some (t79)) else ((rickyardref01_Ints.f fu t48.1.Queues (([] : List Int) ++ a0.Queues) : Option Bool).bind fun t83 => (if t83 = true then ((rickyardref01_Ints.f fu a0.Queues (([] : List Int) ++ a0.Queues) : Option Bool).bind fun t88 => some (t88)) else some (false)))) else some (false)) else some (false))) else some (false)) else some (false)) : Option Bool).bind fun x68 => some (x68))))) else none)))
set_option maxRecDepth 100000 in
set_option maxHeartbeats 400000 in
theorem rickyardlaw11_LabelDirs.ok (fu : Nat) (w : World) (a0 : S_api_Dir) (V0_0 : Value) (R0_0 : Rd (kI .i64) w V0_0 a0.Queues) (r : Bool) (h : rickyardlaw11_LabelDirs.f fu a0 = some r) :
    Calls Try.prog 21 (([aggV [Seg.cell V0_0 R0_0.one]] : List Value).toArray) w (fun e w' => ∃ v, e = .returned v ∧ v = .bool r ∧ Gr w w') := by
  unfold rickyardlaw11_LabelDirs.f at h
  have fB : Gr w w := Fr.refl _ _
  refine calls_cw Try.func21 rfl Try.ntmps21 rfl ?_
  refine cw_seq ?_
  refine cw_region ?_
  refine ol_op (by exact opv_box (ss := [Seg.cell V0_0 R0_0.one]) rfl rfl rfl) rfl rfl rfl ?_
  rintro _ w6 ⟨G1, rfl, b2, q3, z4⟩
  have z4 := Nat.le_trans fB.size z4
  have fB := fB.gr q3
  refine ol_val (v := .bool false) (by exact xr_assign rfl rfl) rfl rfl rfl ?_
  refine ol_nil ?_
  refine cw_seq ?_
  refine cw_seq ?_
  obtain ⟨x7, j8, h⟩ := bs h
  refine cw_mid (fun ρ' w' => ρ' 1 = .pointer (some ⟨G1, 0, none⟩) ∧ ρ' 17 = .bool x7 ∧ Gr w6 w') ?_ ?_
  · skip
    refine cw_region ?_
    obtain ⟨t9, k10, j8⟩ := bs j8
    refine ol_op (by exact opv_call rfl cal73 an (rickyardlaw11_awake.ok fu _ _ k10)) rfl rfl rfl ?_
    rintro _ w12 ⟨rfl, q11⟩
    have b2 := b2.gr q11
    have fB := fB.gr q11
    refine ol_val (v := .bool (!t9)) (by exact xr_not rfl rfl) rfl rfl rfl ?_
    refine ol_val (v := .bool (!t9)) (by exact xr_move rfl rfl) rfl rfl rfl ?_
    rcases is j8 with ⟨c13, j8⟩ | ⟨c13, j8⟩
    · skip
      refine ol_gskip rfl rfl rfl rfl rfl c13 ?_
      refine ol_gskip rfl rfl rfl rfl rfl c13 ?_
      refine ol_gskip rfl rfl rfl rfl rfl c13 ?_
      refine ol_gskip rfl rfl rfl rfl rfl c13 ?_
      refine ol_val (v := .bool true) (by exact xr_pickT rfl rfl c13 rfl) rfl rfl rfl ?_
      refine ol_nil ?_
      obtain rfl := Option.some.inj j8
      refine thn_i ?_
      exact ⟨rfl, rfl, q11⟩
    · skip
      refine ol_gval (v := .pointer (some ⟨G1, 0, none⟩)) (by exact xr_fieldAddr (p := 0) (q := 0) rfl fl107_0 rfl) rfl rfl rfl rfl rfl c13 ?_
      refine ol_gval (v := V0_0) (by exact xr_load1 (v := V0_0) rfl ag45 rfl (b2.seg 0 rfl rfl)) rfl rfl rfl rfl rfl c13 ?_
      refine ol_gval (v := .int .i64 (List.length a0.Queues : Int)) (by exact xr_lenR rfl Try.underlying45 rfl (R0_0.gr fB)) rfl rfl rfl rfl rfl c13 ?_
      refine ol_gval (v := .bool (decide ((List.length a0.Queues : Int) > 60))) (by exact xr_gtr rfl rfl rfl) rfl rfl rfl rfl rfl c13 ?_
      refine ol_val (v := .bool (decide ((List.length a0.Queues : Int) > 60))) (by exact xr_pickF rfl rfl c13 rfl) rfl rfl rfl ?_
      refine ol_nil ?_
      obtain rfl := Option.some.inj j8
      refine thn_i ?_
      exact ⟨rfl, rfl, q11⟩
  · skip
    rintro ρ14 w15 ⟨e1, e17, q16⟩
    have b2 := b2.gr q16
    have fB := fB.gr q16
    rcases is h with ⟨c17, h⟩ | ⟨c17, h⟩
    · refine cw_condT e17 c17 ?_
      refine cw_seq ?_
      refine cw_region ?_
      obtain ⟨t18, k19, h⟩ := bs h
      refine ol_op (by exact opv_call rfl cal73 an (rickyardlaw11_awake.ok fu _ _ k19)) rfl rfl rfl ?_
      rintro _ w21 ⟨rfl, q20⟩
      have fB := fB.gr q20
      refine ol_val (v := .bool t18) (by exact xr_assign rfl rfl) rfl rfl rfl ?_
      refine ol_nil ?_
      refine cw_ret ?_
      repeat (first | with_reducible refine thn_r ?_ | with_reducible refine blk_r ?_)
      obtain rfl := Option.some.inj h
      refine fin_ret1 Try.results21 rfl ?_
      exact ⟨_, rfl, rfl, fB⟩
    · refine cw_condF e17 c17 ?_
      refine cw_skip ?_
      refine cw_seq ?_
      refine cw_region ?_
      refine ol_op (by exact opv_buildSlice (K := (kI .i64)) (xs := ([] : List Int)) (vals := []) rfl Try.underlying45 el3 rfl rfl trivial rfl rfl rfl fB.size) rfl rfl rfl ?_
      rintro v22 w27 ⟨o24, q23, z25⟩
      have b2 := b2.gr q23
      have fB := fB.gr q23
      refine ol_val (v := .pointer (some ⟨G1, 0, none⟩)) (by exact xr_fieldAddr (p := 0) (q := 0) rfl fl107_0 e1) rfl rfl rfl ?_
      refine ol_val (v := V0_0) (by exact xr_load1 (v := V0_0) rfl ag45 rfl (b2.seg 0 rfl rfl)) rfl rfl rfl ?_
      obtain ⟨g32, h⟩ := gs h
      have f34 := off_ty b2 o24 (by decide)
      have f35 := o24.geO
      refine ol_op (by exact opv_append (K := (kI .i64)) rfl Try.underlying45 el3 rfl rfl rfl rfl rfl o24 (R0_0.gr fB) g32 fB.size) rfl rfl rfl ?_
      rintro v28 w36 ⟨o29, q30, n31⟩
      have b2 := b2.wrO q30 f34
      have fB := fB.wrO q30 f35
      refine ol_val (v := v28) (by exact xr_assign rfl rfl) rfl rfl rfl ?_
      refine ol_nil ?_
      refine cw_seq ?_
      refine cw_region ?_
      refine ol_val (v := aggV [Seg.cell V0_0 R0_0.one]) (by exact xr_loadS (ss := [Seg.cell V0_0 R0_0.one]) rfl ag107 sz107 rfl e1 (b2.segs 0 1 rfl)) rfl rfl rfl ?_
      obtain ⟨t37, k38, h⟩ := bs h
      refine ol_op (by exact opv_call rfl cal80 (ac rfl an) (label_PutDir.ok fu _ a0 V0_0 (R0_0.gr fB) _ k38)) rfl rfl rfl ?_
      rintro _ w43 ⟨u39, o40, rfl, q42⟩
      have o40 := Own.base o40 fB.size
      have b2 := b2.gr q42
      have o29 := o29.gr q42
      have fB := fB.gr q42
      refine ol_val (v := .tuple #[u39, .bool t37.2]) (by exact xr_move rfl rfl) rfl rfl rfl ?_
      refine ol_val (v := u39) (by exact xr_extract rfl rfl rfl) rfl rfl rfl ?_
      refine ol_val (v := .bool t37.2) (by exact xr_extract rfl rfl rfl) rfl rfl rfl ?_
      refine ol_val (v := u39) (by exact xr_assign rfl rfl) rfl rfl rfl ?_
      refine ol_val (v := .bool t37.2) (by exact xr_assign rfl rfl) rfl rfl rfl ?_
      refine ol_nil ?_
      refine cw_seq ?_
      refine cw_region ?_
      refine ol_val (v := v28) (by exact xr_move rfl rfl) rfl rfl rfl ?_
      obtain ⟨t44, k45, h⟩ := bs h
      refine ol_op (by exact opv_call rfl cal81 (ac rfl an) (rickyardref11_Dir.ok fu _ (([] : List Int) ++ a0.Queues) v28 (o29.rd) _ k45)) rfl rfl rfl ?_
      rintro _ w47 ⟨rfl, q46⟩
      have b2 := b2.gr q46
      have o29 := o29.gr q46
      have o40 := o40.gr q46
      have fB := fB.gr q46
      refine ol_val (v := .tuple #[sv t44.1, .bool t44.2]) (by exact xr_move rfl rfl) rfl rfl rfl ?_
      refine ol_val (v := sv t44.1) (by exact xr_extract rfl rfl rfl) rfl rfl rfl ?_
      refine ol_val (v := .bool t44.2) (by exact xr_extract rfl rfl rfl) rfl rfl rfl ?_
      refine ol_val (v := sv t44.1) (by exact xr_assign rfl rfl) rfl rfl rfl ?_
      refine ol_val (v := .bool t44.2) (by exact xr_assign rfl rfl) rfl rfl rfl ?_
      refine ol_nil ?_
      refine cw_seq ?_
      refine cw_region ?_
      refine ol_val (v := u39) (by exact xr_move rfl rfl) rfl rfl rfl ?_
      obtain ⟨t48, k49, h⟩ := bs h
      refine ol_op (by exact opv_call rfl cal82 (ac rfl an) (label_GetDir.ok fu _ t37.1 u39 (o40.rd) _ k49)) rfl rfl rfl ?_
      rintro _ w54 ⟨u50, o51, rfl, q53⟩
      have a55 := OffV.call o29 o51
      have o51 := Own.base o51 fB.size
      have b2 := b2.gr q53
      have o29 := o29.gr q53
      have o40 := o40.gr q53
      have fB := fB.gr q53
      refine ol_val (v := .tuple #[aggV [Seg.cell u50 o51.one], .bool t48.2]) (by exact xr_move rfl rfl) rfl rfl rfl ?_
      refine ol_val (v := aggV [Seg.cell u50 o51.one]) (by exact xr_extract rfl rfl rfl) rfl rfl rfl ?_
      refine ol_val (v := .bool t48.2) (by exact xr_extract rfl rfl rfl) rfl rfl rfl ?_
      refine ol_op (by exact opv_alloc (ss := [Seg.cell (.slice none 0 0) (by rfl)]) rfl ze107 rfl) rfl rfl rfl ?_
      rintro _ w61 ⟨G56, rfl, b57, q58, z59⟩
      have n62 := b2.ne z59
      have z59 := Nat.le_trans fB.size z59
      have b2 := b2.gr q58
      have o29 := o29.gr q58
      have o40 := o40.gr q58
      have o51 := o51.gr q58
      have fB := fB.gr q58
      have f64 := off_ty b57 o29 (by decide)
      have f65 := off_ty b57 o40 (by decide)
      have f66 := off_ty b57 o51 (by decide)
      refine ol_op0 (by exact opv_store (ss' := [Seg.cell u50 o51.one]) (xs := cellsOf [Seg.cell u50 o51.one]) rfl sz107 rfl rfl rfl (len_cellsOf _) (one_cellsOf _) b57 (Spl.segs _ 0 1 [Seg.cell u50 o51.one] rfl rfl)) rfl rfl ?_
      rintro _ w67 ⟨b57, q63⟩
      have b2 := b2.wr q63 n62
      have o29 := o29.wr q63 f64
      have o40 := o40.wr q63 f65
      have o51 := o51.wr q63 f66
      have fB := fB.wr q63 z59
      refine ol_val (v := .bool t48.2) (by exact xr_assign rfl rfl) rfl rfl rfl ?_
      refine ol_nil ?_
      refine cw_seq ?_
      obtain ⟨x68, j69, h⟩ := bs h
      refine cw_mid (fun ρ' w' => ρ' 2 = .bool x68 ∧ Gr w67 w') ?_ ?_
      · skip
        refine cw_region ?_
        refine ol_val (v := .bool t37.2) (by exact xr_move rfl rfl) rfl rfl rfl ?_
        refine ol_val (v := .bool t44.2) (by exact xr_move rfl rfl) rfl rfl rfl ?_
        refine ol_val (v := .bool (decide (t37.2 = t44.2))) (by exact xr_eqB rfl Try.underlying4 rfl rfl) rfl rfl rfl ?_
        refine ol_val (v := .bool (decide (t37.2 = t44.2))) (by exact xr_move rfl rfl) rfl rfl rfl ?_
        rcases is j69 with ⟨c70, j69⟩ | ⟨c70, j69⟩
        · skip
          refine ol_gval (v := u39) (by exact xr_move rfl rfl) rfl rfl rfl rfl rfl c70 ?_
          refine ol_gval (v := sv (List.map toB t37.1)) (by exact xr_toStr rfl Try.underlying22 Try.underlying5 Try.underlying9 rfl o40.rd) rfl rfl rfl rfl rfl c70 ?_
          refine ol_gval (v := sv t44.1) (by exact xr_move rfl rfl) rfl rfl rfl rfl rfl c70 ?_
          refine ol_gval (v := .bool (decide ((List.map toB t37.1) = t44.1))) (by exact xr_eqStr rfl Try.underlying9 rfl rfl) rfl rfl rfl rfl rfl c70 ?_
          refine ol_val (v := .bool (decide ((List.map toB t37.1) = t44.1))) (by exact xr_pickT rfl rfl c70 rfl) rfl rfl rfl ?_
          refine ol_val (v := .bool (decide ((List.map toB t37.1) = t44.1))) (by exact xr_move rfl rfl) rfl rfl rfl ?_
          rcases is j69 with ⟨c71, j69⟩ | ⟨c71, j69⟩
          · skip
            refine ol_gval (v := aggV [Seg.cell V0_0 R0_0.one]) (by exact xr_loadS (ss := [Seg.cell V0_0 R0_0.one]) rfl ag107 sz107 rfl e1 (b2.segs 0 1 rfl)) rfl rfl rfl rfl rfl c71 ?_
            obtain ⟨t72, k73, j69⟩ := bs j69
            refine ol_gop (by exact opv_call rfl cal83 (ac rfl an) (label_RightDir.ok fu _ a0 V0_0 (R0_0.gr fB) _ k73)) rfl rfl rfl rfl rfl c71 ?_
            rintro _ w75 ⟨rfl, q74⟩
            have b2 := b2.gr q74
            have b57 := b57.gr q74
            have o29 := o29.gr q74
            have o51 := o51.gr q74
            have fB := fB.gr q74
            refine ol_gval (v := .bool t44.2) (by exact xr_move rfl rfl) rfl rfl rfl rfl rfl c71 ?_
            refine ol_gval (v := .bool (decide (t72 = t44.2))) (by exact xr_eqB rfl Try.underlying4 rfl rfl) rfl rfl rfl rfl rfl c71 ?_
            refine ol_val (v := .bool (decide (t72 = t44.2))) (by exact xr_pickT rfl rfl c71 rfl) rfl rfl rfl ?_
            refine ol_val (v := .bool (decide (t72 = t44.2))) (by exact xr_move rfl rfl) rfl rfl rfl ?_
            rcases is j69 with ⟨c76, j69⟩ | ⟨c76, j69⟩
            · skip
              refine ol_gval (v := .bool t48.2) (by exact xr_move rfl rfl) rfl rfl rfl rfl rfl c76 ?_
              refine ol_gval (v := .bool t44.2) (by exact xr_move rfl rfl) rfl rfl rfl rfl rfl c76 ?_
              refine ol_gval (v := .bool (decide (t48.2 = t44.2))) (by exact xr_eqB rfl Try.underlying4 rfl rfl) rfl rfl rfl rfl rfl c76 ?_
              refine ol_val (v := .bool (decide (t48.2 = t44.2))) (by exact xr_pickT rfl rfl c76 rfl) rfl rfl rfl ?_
              refine ol_val (v := .bool (decide (t48.2 = t44.2))) (by exact xr_move rfl rfl) rfl rfl rfl ?_
              rcases is j69 with ⟨c77, j69⟩ | ⟨c77, j69⟩
              · skip
                refine ol_gval (v := .bool t48.2) (by exact xr_move rfl rfl) rfl rfl rfl rfl rfl c77 ?_
                refine ol_gval (v := .bool (!t48.2)) (by exact xr_not rfl rfl) rfl rfl rfl rfl rfl c77 ?_
                refine ol_gval (v := .bool (!t48.2)) (by exact xr_move rfl rfl) rfl rfl rfl rfl rfl c77 ?_
                rcases is j69 with ⟨c78, j69⟩ | ⟨c78, j69⟩
                · skip
                  refine ol_gskip rfl rfl rfl rfl rfl c78 ?_
                  refine ol_gskip rfl rfl rfl rfl rfl c78 ?_
                  refine ol_gskip rfl rfl rfl rfl rfl c78 ?_
                  refine ol_gskip rfl rfl rfl rfl rfl c78 ?_
                  refine ol_gval (v := .bool true) (by exact xr_pickT rfl rfl c78 rfl) rfl rfl rfl rfl rfl c77 ?_
                  refine ol_val (v := .bool true) (by exact xr_pickT rfl rfl c77 rfl) rfl rfl rfl ?_
                  refine ol_val (v := .bool true) (by exact xr_move rfl rfl) rfl rfl rfl ?_
                  refine ol_gval (v := .pointer (some ⟨G1, 0, none⟩)) (by exact xr_fieldAddr (p := 0) (q := 0) rfl fl107_0 e1) rfl rfl rfl rfl rfl rfl ?_
                  refine ol_gval (v := V0_0) (by exact xr_load1 (v := V0_0) rfl ag45 rfl (b2.seg 0 rfl rfl)) rfl rfl rfl rfl rfl rfl ?_
                  refine ol_gval (v := v28) (by exact xr_move rfl rfl) rfl rfl rfl rfl rfl rfl ?_
                  obtain ⟨t79, k80, j69⟩ := bs j69
                  refine ol_gop (by exact opv_call rfl cal66 (ac rfl (ac rfl an)) (rickyardref01_Ints.ok fu _ a0.Queues V0_0 (R0_0.gr fB) (([] : List Int) ++ a0.Queues) v28 (o29.rd) _ k80)) rfl rfl rfl rfl rfl rfl ?_
                  rintro _ w82 ⟨rfl, q81⟩
                  have fB := fB.gr q81
                  refine ol_val (v := .bool t79) (by exact xr_pickT rfl rfl rfl rfl) rfl rfl rfl ?_
                  refine ol_val (v := .bool t79) (by exact xr_assign rfl rfl) rfl rfl rfl ?_
                  refine ol_nil ?_
                  obtain rfl := Option.some.inj j69
                  refine thn_i ?_
                  exact ⟨rfl, (q74.gr q81)⟩
                · skip
                  refine ol_gval (v := .pointer (some ⟨G56, 0, none⟩)) (by exact xr_fieldAddr (p := 0) (q := 0) rfl fl107_0 rfl) rfl rfl rfl rfl rfl c78 ?_
                  refine ol_gval (v := u50) (by exact xr_load1 (v := u50) rfl ag45 rfl (b57.seg 0 rfl rfl)) rfl rfl rfl rfl rfl c78 ?_
                  refine ol_gval (v := v28) (by exact xr_move rfl rfl) rfl rfl rfl rfl rfl c78 ?_
                  obtain ⟨t83, k84, j69⟩ := bs j69
                  refine ol_gop (by exact opv_call rfl cal66 (ac rfl (ac rfl an)) (rickyardref01_Ints.ok fu _ t48.1.Queues u50 (o51.rd) (([] : List Int) ++ a0.Queues) v28 (o29.rd) _ k84)) rfl rfl rfl rfl rfl c78 ?_
                  rintro _ w86 ⟨rfl, q85⟩
                  have b2 := b2.gr q85
                  have o29 := o29.gr q85
                  have fB := fB.gr q85
                  refine ol_gval (v := .bool t83) (by exact xr_pickF rfl rfl c78 rfl) rfl rfl rfl rfl rfl c77 ?_
                  refine ol_val (v := .bool t83) (by exact xr_pickT rfl rfl c77 rfl) rfl rfl rfl ?_
                  refine ol_val (v := .bool t83) (by exact xr_move rfl rfl) rfl rfl rfl ?_
                  rcases is j69 with ⟨c87, j69⟩ | ⟨c87, j69⟩
                  · skip
                    refine ol_gval (v := .pointer (some ⟨G1, 0, none⟩)) (by exact xr_fieldAddr (p := 0) (q := 0) rfl fl107_0 e1) rfl rfl rfl rfl rfl c87 ?_
                    refine ol_gval (v := V0_0) (by exact xr_load1 (v := V0_0) rfl ag45 rfl (b2.seg 0 rfl rfl)) rfl rfl rfl rfl rfl c87 ?_
                    refine ol_gval (v := v28) (by exact xr_move rfl rfl) rfl rfl rfl rfl rfl c87 ?_
                    obtain ⟨t88, k89, j69⟩ := bs j69
                    refine ol_gop (by exact opv_call rfl cal66 (ac rfl (ac rfl an)) (rickyardref01_Ints.ok fu _ a0.Queues V0_0 (R0_0.gr fB) (([] : List Int) ++ a0.Queues) v28 (o29.rd) _ k89)) rfl rfl rfl rfl rfl c87 ?_
                    rintro _ w91 ⟨rfl, q90⟩
                    have fB := fB.gr q90
                    refine ol_val (v := .bool t88) (by exact xr_pickT rfl rfl c87 rfl) rfl rfl rfl ?_
                    refine ol_val (v := .bool t88) (by exact xr_assign rfl rfl) rfl rfl rfl ?_
                    refine ol_nil ?_
                    obtain rfl := Option.some.inj j69
                    refine thn_i ?_
                    exact ⟨rfl, ((q74.gr q85).gr q90)⟩
                  · skip
                    refine ol_gskip rfl rfl rfl rfl rfl c87 ?_
                    refine ol_gskip rfl rfl rfl rfl rfl c87 ?_
                    refine ol_gskip rfl rfl rfl rfl rfl c87 ?_
                    refine ol_gskip rfl rfl rfl rfl rfl c87 ?_
                    refine ol_val (v := .bool false) (by exact xr_pickF rfl rfl c87 rfl) rfl rfl rfl ?_
                    refine ol_val (v := .bool false) (by exact xr_assign rfl rfl) rfl rfl rfl ?_
                    refine ol_nil ?_
                    obtain rfl := Option.some.inj j69
                    refine thn_i ?_
                    exact ⟨rfl, (q74.gr q85)⟩
              · skip
                refine ol_gskip rfl rfl rfl rfl rfl c77 ?_
                refine ol_gskip rfl rfl rfl rfl rfl c77 ?_
                refine ol_gskip rfl rfl rfl rfl rfl c77 ?_
                refine ol_uskip rfl rfl rfl rfl rfl ?_
                refine ol_uskip rfl rfl rfl rfl rfl ?_
                refine ol_uskip rfl rfl rfl rfl rfl ?_
                refine ol_uskip rfl rfl rfl rfl rfl ?_
                refine ol_gskip rfl rfl rfl rfl rfl c77 ?_
                refine ol_val (v := .bool false) (by exact xr_pickF rfl rfl c77 rfl) rfl rfl rfl ?_
                refine ol_val (v := .bool false) (by exact xr_move rfl rfl) rfl rfl rfl ?_
                refine ol_gskip rfl rfl rfl rfl rfl rfl ?_
                refine ol_gskip rfl rfl rfl rfl rfl rfl ?_
                refine ol_gskip rfl rfl rfl rfl rfl rfl ?_
                refine ol_gskip rfl rfl rfl rfl rfl rfl ?_
                refine ol_val (v := .bool false) (by exact xr_pickF rfl rfl rfl rfl) rfl rfl rfl ?_
                refine ol_val (v := .bool false) (by exact xr_assign rfl rfl) rfl rfl rfl ?_
                refine ol_nil ?_
                obtain rfl := Option.some.inj j69
                refine thn_i ?_
                exact ⟨rfl, q74⟩
            · skip
              refine ol_gskip rfl rfl rfl rfl rfl c76 ?_
              refine ol_gskip rfl rfl rfl rfl rfl c76 ?_
              refine ol_gskip rfl rfl rfl rfl rfl c76 ?_
              refine ol_val (v := .bool false) (by exact xr_pickF rfl rfl c76 rfl) rfl rfl rfl ?_
              refine ol_val (v := .bool false) (by exact xr_move rfl rfl) rfl rfl rfl ?_
              refine ol_gskip rfl rfl rfl rfl rfl rfl ?_
              refine ol_gskip rfl rfl rfl rfl rfl rfl ?_
              refine ol_gskip rfl rfl rfl rfl rfl rfl ?_
              refine ol_uskip rfl rfl rfl rfl rfl ?_
              refine ol_uskip rfl rfl rfl rfl rfl ?_
              refine ol_uskip rfl rfl rfl rfl rfl ?_
              refine ol_uskip rfl rfl rfl rfl rfl ?_
              refine ol_gskip rfl rfl rfl rfl rfl rfl ?_
              refine ol_val (v := .bool false) (by exact xr_pickF rfl rfl rfl rfl) rfl rfl rfl ?_
              refine ol_val (v := .bool false) (by exact xr_move rfl rfl) rfl rfl rfl ?_
              refine ol_gskip rfl rfl rfl rfl rfl rfl ?_
              refine ol_gskip rfl rfl rfl rfl rfl rfl ?_
              refine ol_gskip rfl rfl rfl rfl rfl rfl ?_
              refine ol_gskip rfl rfl rfl rfl rfl rfl ?_
              refine ol_val (v := .bool false) (by exact xr_pickF rfl rfl rfl rfl) rfl rfl rfl ?_
              refine ol_val (v := .bool false) (by exact xr_assign rfl rfl) rfl rfl rfl ?_
              refine ol_nil ?_
              obtain rfl := Option.some.inj j69
              refine thn_i ?_
              exact ⟨rfl, q74⟩
          · skip
            refine ol_gskip rfl rfl rfl rfl rfl c71 ?_
            refine ol_gskip rfl rfl rfl rfl rfl c71 ?_
            refine ol_gskip rfl rfl rfl rfl rfl c71 ?_
            refine ol_gskip rfl rfl rfl rfl rfl c71 ?_
            refine ol_val (v := .bool false) (by exact xr_pickF rfl rfl c71 rfl) rfl rfl rfl ?_
            refine ol_val (v := .bool false) (by exact xr_move rfl rfl) rfl rfl rfl ?_
            refine ol_gskip rfl rfl rfl rfl rfl rfl ?_
            refine ol_gskip rfl rfl rfl rfl rfl rfl ?_
            refine ol_gskip rfl rfl rfl rfl rfl rfl ?_
            refine ol_val (v := .bool false) (by exact xr_pickF rfl rfl rfl rfl) rfl rfl rfl ?_
            refine ol_val (v := .bool false) (by exact xr_move rfl rfl) rfl rfl rfl ?_
            refine ol_gskip rfl rfl rfl rfl rfl rfl ?_
            refine ol_gskip rfl rfl rfl rfl rfl rfl ?_
            refine ol_gskip rfl rfl rfl rfl rfl rfl ?_
            refine ol_uskip rfl rfl rfl rfl rfl ?_
            refine ol_uskip rfl rfl rfl rfl rfl ?_
            refine ol_uskip rfl rfl rfl rfl rfl ?_
            refine ol_uskip rfl rfl rfl rfl rfl ?_
            refine ol_gskip rfl rfl rfl rfl rfl rfl ?_
            refine ol_val (v := .bool false) (by exact xr_pickF rfl rfl rfl rfl) rfl rfl rfl ?_
            refine ol_val (v := .bool false) (by exact xr_move rfl rfl) rfl rfl rfl ?_
            refine ol_gskip rfl rfl rfl rfl rfl rfl ?_
            refine ol_gskip rfl rfl rfl rfl rfl rfl ?_
            refine ol_gskip rfl rfl rfl rfl rfl rfl ?_
            refine ol_gskip rfl rfl rfl rfl rfl rfl ?_
            refine ol_val (v := .bool false) (by exact xr_pickF rfl rfl rfl rfl) rfl rfl rfl ?_
            refine ol_val (v := .bool false) (by exact xr_assign rfl rfl) rfl rfl rfl ?_
            refine ol_nil ?_
            obtain rfl := Option.some.inj j69
            refine thn_i ?_
            exact ⟨rfl, Fr.refl _ _⟩
        · skip
          refine ol_gskip rfl rfl rfl rfl rfl c70 ?_
          refine ol_gskip rfl rfl rfl rfl rfl c70 ?_
          refine ol_gskip rfl rfl rfl rfl rfl c70 ?_
          refine ol_gskip rfl rfl rfl rfl rfl c70 ?_
          refine ol_val (v := .bool false) (by exact xr_pickF rfl rfl c70 rfl) rfl rfl rfl ?_
          refine ol_val (v := .bool false) (by exact xr_move rfl rfl) rfl rfl rfl ?_
          refine ol_gskip rfl rfl rfl rfl rfl rfl ?_
          refine ol_gskip rfl rfl rfl rfl rfl rfl ?_
          refine ol_gskip rfl rfl rfl rfl rfl rfl ?_
          refine ol_gskip rfl rfl rfl rfl rfl rfl ?_
          refine ol_val (v := .bool false) (by exact xr_pickF rfl rfl rfl rfl) rfl rfl rfl ?_
          refine ol_val (v := .bool false) (by exact xr_move rfl rfl) rfl rfl rfl ?_
          refine ol_gskip rfl rfl rfl rfl rfl rfl ?_
          refine ol_gskip rfl rfl rfl rfl rfl rfl ?_
          refine ol_gskip rfl rfl rfl rfl rfl rfl ?_
          refine ol_val (v := .bool false) (by exact xr_pickF rfl rfl rfl rfl) rfl rfl rfl ?_
          refine ol_val (v := .bool false) (by exact xr_move rfl rfl) rfl rfl rfl ?_
          refine ol_gskip rfl rfl rfl rfl rfl rfl ?_
          refine ol_gskip rfl rfl rfl rfl rfl rfl ?_
          refine ol_gskip rfl rfl rfl rfl rfl rfl ?_
          refine ol_uskip rfl rfl rfl rfl rfl ?_
          refine ol_uskip rfl rfl rfl rfl rfl ?_
          refine ol_uskip rfl rfl rfl rfl rfl ?_
          refine ol_uskip rfl rfl rfl rfl rfl ?_
          refine ol_gskip rfl rfl rfl rfl rfl rfl ?_
          refine ol_val (v := .bool false) (by exact xr_pickF rfl rfl rfl rfl) rfl rfl rfl ?_
          refine ol_val (v := .bool false) (by exact xr_move rfl rfl) rfl rfl rfl ?_
          refine ol_gskip rfl rfl rfl rfl rfl rfl ?_
          refine ol_gskip rfl rfl rfl rfl rfl rfl ?_
          refine ol_gskip rfl rfl rfl rfl rfl rfl ?_
          refine ol_gskip rfl rfl rfl rfl rfl rfl ?_
          refine ol_val (v := .bool false) (by exact xr_pickF rfl rfl rfl rfl) rfl rfl rfl ?_
          refine ol_val (v := .bool false) (by exact xr_assign rfl rfl) rfl rfl rfl ?_
          refine ol_nil ?_
          obtain rfl := Option.some.inj j69
          refine thn_i ?_
          exact ⟨rfl, Fr.refl _ _⟩
      · skip
        rintro ρ92 w93 ⟨e2, q94⟩
        have fB := fB.gr q94
        refine cw_ret ?_
        repeat (first | with_reducible refine thn_r ?_ | with_reducible refine blk_r ?_)
        obtain rfl := Option.some.inj h
        refine fin_ret1 Try.results21 e2 ?_
        exact ⟨_, rfl, rfl, fB⟩
end Go.Proofs.Ytjhajfkfhdnciaa

/- What a row's arguments are: the readings of arguments opened into records, lists and their facts. -/
set_option linter.unusedVariables false
set_option linter.unusedSimpArgs false
namespace Go.Xw
open Go
variable {P : Program} {w : World}
def Opn {α : Type} (P : Program) (w : World) (T : TypeId) (K : Kd α) (ok : α → Prop) : Prop :=
  ∀ {H : Type} (enc : TypeId × Value → H) (base : Nat) (sp : Nat → Bool) (held : Bool) (fuel : Nat) (cs : List Value) (x : DataW H × List MemPlace), DataW.trod enc P w base sp held fuel T cs = some x → ∃ a : α, cs = K.enc a ∧ ok a
theorem opn_int {T : TypeId} {k : IntKind} (ht : P.underlying T = some (.int k)) : Opn P w T (kI k) (fun n => (Lit.int k n).wf = true) := by
  intro H enc base sp held fuel cs x h
  obtain ⟨n, rfl, _, hw⟩ := DataW.trod_int ht h
  exact ⟨n, rfl, hw⟩
theorem opn_bool {T : TypeId} (ht : P.underlying T = some .bool) : Opn P w T kB (fun _ => True) := by
  intro H enc base sp held fuel cs x h
  obtain ⟨b, rfl, _⟩ := DataW.trod_bool ht h
  exact ⟨b, rfl, trivial⟩
theorem opn_str {T : TypeId} (ht : P.underlying T = some .string) : Opn P w T kS (fun l => l.length ≤ maxLen) := by
  intro H enc base sp held fuel cs x h
  obtain ⟨⟨⟨l⟩⟩, rfl, _, hs⟩ := DataW.trod_string ht h
  exact ⟨l, rfl, by simpa [ByteArray.size] using hs⟩
theorem chunks {α : Type} (K : Kd α) (ok : α → Prop) : ∀ (n : Nat) (cs : List Value), cs.length = n * K.size → (∀ i, i < n → ∃ a, (cs.drop (i * K.size)).take K.size = K.enc a ∧ ok a) → ∃ l : List α, l.length = n ∧ cs = l.flatMap K.enc ∧ ∀ a ∈ l, ok a
  | 0, cs, hl, _ => ⟨[], rfl, by simpa using hl, by simp⟩
  | n + 1, cs, hl, h => by
    obtain ⟨a, ha, hok⟩ := h 0 (by omega)
    rw [Nat.zero_mul, List.drop_zero] at ha
    have hl' : cs.length = n * K.size + K.size := by rw [hl, Nat.succ_mul]
    obtain ⟨l, h1, h2, h3⟩ := chunks K ok n (cs.drop K.size) (by rw [List.length_drop]; omega) (fun i hi => by
      have := h (i + 1) (by omega)
      rw [List.drop_drop, Nat.add_comm, ← Nat.succ_mul]
      exact this)
    refine ⟨a :: l, by simp [h1], ?_, ?_⟩
    · rw [List.flatMap_cons, ← h2, ← ha, List.take_append_drop]
    · intro b hb
      rcases List.mem_cons.1 hb with rfl | hb
      · exact hok
      · exact h3 b hb
theorem ms_len {α β : Type} {f : α → Option β} : ∀ {l : List α} {ys : List β}, l.mapM f = some ys → ys.length = l.length
  | [], ys, h => by simp at h; subst h; rfl
  | a :: l, ys, h => by
    rw [List.mapM_cons] at h
    obtain ⟨b, _, h⟩ := Option.bind_eq_some_iff.1 h
    obtain ⟨bs, hb, h⟩ := Option.bind_eq_some_iff.1 h
    simp at h
    subst h
    simp [ms_len hb]
theorem ms_get {α β : Type} {f : α → Option β} : ∀ {l : List α} {ys : List β}, l.mapM f = some ys → ∀ (i : Nat) (a : α), l[i]? = some a → ∃ y, ys[i]? = some y ∧ f a = some y
  | [], ys, h, i, a, ha => by simp at ha
  | b :: l, ys, h, i, a, ha => by
    rw [List.mapM_cons] at h
    obtain ⟨c, hc, h⟩ := Option.bind_eq_some_iff.1 h
    obtain ⟨bs, hb, h⟩ := Option.bind_eq_some_iff.1 h
    simp at h
    subst h
    cases i with
    | zero =>
      simp at ha
      subst ha
      exact ⟨c, rfl, hc⟩
    | succ i =>
      simp at ha
      obtain ⟨y, h1, h2⟩ := ms_get hb i a ha
      exact ⟨y, by simpa using h1, h2⟩
theorem trod_arr {H : Type} {enc : TypeId × Value → H} {base : Nat} {sp : Nat → Bool} {held : Bool} {fuel : Nat} {T e : TypeId} {n : Nat} {cs : List Value} {x : DataW H × List MemPlace} (ht : P.underlying T = some (.array n e)) (h : DataW.trod enc P w base sp held fuel T cs = some x) :
    cs.length = P.cellsOf T ∧ ∃ m, ∀ i, i < n → ∃ y, DataW.trod enc P w base sp held m e ((cs.drop (i * P.cellsOf e)).take (P.cellsOf e)) = some y := by
  cases fuel with
  | zero => simp [DataW.trod] at h
  | succ m =>
    unfold DataW.trod at h
    rw [ht] at h
    simp only at h
    split at h
    · rename_i hl
      refine ⟨hl, m, fun i hi => ?_⟩
      obtain ⟨xs, hx, _⟩ := Option.map_eq_some_iff.1 h
      obtain ⟨y, _, hy⟩ := ms_get hx i i (by simp [hi])
      exact ⟨y, hy⟩
    · cases h
theorem opn_arr {α : Type} {K : Kd α} {ok : α → Prop} {T e : TypeId} {n : Nat} (ht : P.underlying T = some (.array n e)) (hc : P.cellsOf T = n * P.cellsOf e) (he : P.cellsOf e = K.size) (ho : Opn P w e K ok) : Opn P w T (kA n K) (fun a => ∀ x ∈ a.l, ok x) := by
  intro H enc base sp held fuel cs x h
  obtain ⟨hl, m, hm⟩ := trod_arr ht h
  obtain ⟨l, h1, h2, h3⟩ := chunks K ok n cs (by rw [hl, hc, he]) (fun i hi => by
    obtain ⟨y, hy⟩ := hm i hi
    obtain ⟨a, ha⟩ := ho enc base sp held m _ y hy
    rw [he] at ha
    exact ⟨a, ha⟩)
  exact ⟨⟨l, h1⟩, h2, h3⟩
/-- The fields of a struct, one behind another. -/
theorem fld_cons {cs : List Value} {o n : Nat} {c r : List Value} (h : (cs.drop o).take n = c) (hr : cs.drop (o + n) = r) : cs.drop o = c ++ r := by
  rw [← h, ← hr, ← List.drop_drop, List.take_append_drop]
theorem trod_st {H : Type} {enc : TypeId × Value → H} {base : Nat} {sp : Nat → Bool} {held : Bool} {fuel : Nat} {T : TypeId} {fs : Array Field} {cs : List Value} {x : DataW H × List MemPlace} (ht : P.underlying T = some (.struct fs)) (h : DataW.trod enc P w base sp held fuel T cs = some x) :
    cs.length = P.cellsOf T ∧ ∃ m, ∀ (i : Nat) (f : Field), fs[i]? = some f → ∃ y, DataW.trod enc P w base sp held m f.type ((cs.drop f.offset).take (P.cellsOf f.type)) = some y := by
  obtain ⟨xs, m, _, _, hl, hn, hf⟩ := DataW.trod_struct ht h
  refine ⟨hl, m, fun i f hi => ?_⟩
  have hx : i < xs.length := by rw [hn]; exact (Array.getElem?_eq_some_iff.1 hi).1
  exact ⟨xs[i], by rw [hf i f hi, List.getElem?_eq_getElem hx]⟩
/-- Slices: a cell that reads as a list. -/
def OpnS {α : Type} (P : Program) (w : World) (T : TypeId) (K : Kd α) (ok : α → Prop) : Prop :=
  ∀ {H : Type} (enc : TypeId × Value → H) (base : Nat) (sp : Nat → Bool) (held : Bool) (fuel : Nat) (cs : List Value) (x : DataW H × List MemPlace), DataW.trod enc P w base sp held fuel T cs = some x → ∃ (l : List α) (V : Value), cs = [V] ∧ Rd K w V l ∧ (∀ a ∈ l, ok a) ∧ l.length ≤ maxLen ∧ (sb V < w.heap.size ∨ l = [])
theorem cells_get {base : Nat} {a : Addr} {n : Nat} {cs : List Value} (h : w.cells? base a n = some cs) : cs.length = n ∧ ∀ j, j < n → w.cell? (a.add j) = cs[j]? := by
  unfold World.cells? at h
  split at h
  · refine ⟨by simpa using ms_len h, fun j hj => ?_⟩
    obtain ⟨y, h1, h2⟩ := ms_get h j j (by simp [hj])
    rw [h1, h2]
  · cases h
theorem opn_slice {α : Type} {K : Kd α} {ok : α → Prop} {T e : TypeId} (ht : P.underlying T = some (.slice e)) (he : P.cellsOf e = K.size) (hk : 0 < K.size) (ho : Opn P w e K ok) : OpnS P w T K ok := by
  intro H enc base sp held fuel cs x h
  rcases DataW.trod_slice ht h with ⟨rfl, _⟩ | ⟨a, len, cap, elems, rest, n, rfl, rfl, _, _, hl, hm, hlen, hel, _, _⟩
  · exact ⟨[], _, rfl, Rd.nil K w, by simp, by simp, .inr rfl⟩
  · have hex : ∀ i, i < len → ∃ b, (∀ j z, (K.enc b)[j]? = some z → w.cell? (a.add (i * K.size + j)) = some z) ∧ ok b := by
      intro i hi
      have h1 := hel i hi
      rw [List.getElem?_eq_getElem (by omega)] at h1
      obtain ⟨cs, h2, h3⟩ := Option.bind_eq_some_iff.1 h1
      obtain ⟨b, rfl, hb⟩ := ho enc base sp held n cs _ h3
      obtain ⟨h4, h5⟩ := cells_get h2
      rw [he] at h4 h5
      refine ⟨b, fun j z hz => ?_, hb⟩
      have hj : j < K.size := by rw [← h4]; exact (List.getElem?_eq_some_iff.1 hz).1
      have := h5 j hj
      rw [hz] at this
      rw [← this]
      congr 1
      unfold Addr.add
      by_cases hi0 : i * K.size = 0
      · by_cases hj0 : j = 0
        · simp [hi0, hj0]
        · simp [hi0, hj0]
      · by_cases hj0 : j = 0
        · simp [hi0, hj0]
        · have : i * K.size + j ≠ 0 := by omega
          simp [hi0, hj0, this, Nat.add_assoc]
    have hlist : ∀ m, m ≤ len → ∃ l : List α, l.length = m ∧ (∀ b ∈ l, ok b) ∧ ∀ j z, (l.flatMap K.enc)[j]? = some z → w.cell? (a.add j) = some z := by
      intro m
      induction m with
      | zero => intro _; exact ⟨[], rfl, by simp, by simp⟩
      | succ m ih =>
        intro hm
        obtain ⟨l, h1, h2, h3⟩ := ih (by omega)
        obtain ⟨b, h4, h5⟩ := hex m (by omega)
        refine ⟨l ++ [b], by simp [h1], ?_, ?_⟩
        · intro c hc
          rcases List.mem_append.1 hc with hc | hc
          · exact h2 c hc
          · obtain rfl := List.mem_singleton.1 hc
            exact h5
        · intro j z hz
          have hL : (l.flatMap K.enc).length = m * K.size := by rw [len_flat, h1]
          simp only [List.flatMap_append, List.flatMap_cons, List.flatMap_nil, List.append_nil] at hz
          by_cases hj : j < m * K.size
          · rw [List.getElem?_append_left (by omega)] at hz
            exact h3 j z hz
          · rw [List.getElem?_append_right (by omega), hL] at hz
            have := h4 (j - m * K.size) z hz
            rwa [show m * K.size + (j - m * K.size) = j from by omega] at this
    obtain ⟨l, h1, h2, h3⟩ := hlist len (Nat.le_refl _)
    have hpos : 0 < l.length → ∃ z, w.cell? a = some z := by
      intro hp
      cases l with
      | nil => simp at hp
      | cons b l =>
        have hb : (K.enc b).length = K.size := K.len b
        have : ∃ z, ((b :: l).flatMap K.enc)[0]? = some z := ⟨_, List.getElem?_eq_getElem (by simp [List.flatMap_cons, hb]; omega)⟩
        obtain ⟨z, hz⟩ := this
        have := h3 0 z hz
        exact ⟨z, by simpa [Addr.add] using this⟩
    refine ⟨l, _, rfl, ⟨some a, cap, by rw [h1], by omega, fun hp => ?_⟩, h2, by omega, ?_⟩
    · obtain ⟨z, hz⟩ := hpos hp
      obtain ⟨b, o, s⟩ := a
      have hs : s = none := by
        unfold World.cell? at hz
        split at hz
        · cases s with
          | none => rfl
          | some _ => simp at hz
        · cases hz
      subst hs
      refine ⟨b, o, rfl, fun j v hv => ?_⟩
      have := h3 j v hv
      rwa [Addr.add_lit] at this
    · rcases Nat.eq_zero_or_pos l.length with h0 | hp
      · exact .inr (List.eq_nil_of_length_eq_zero h0)
      · obtain ⟨z, hz⟩ := hpos hp
        refine .inl ?_
        unfold World.cell? at hz
        split at hz
        · rename_i hh
          exact (Array.getElem?_eq_some_iff.1 hh).1
        · cases hz
theorem agg_of {T : TypeId} {v : Value} {cs : List Value} {base : Nat} (h : aggB P T = some true) (hv : Value.okWide P w .any base T v) (hc : v.cells.toList = cs) : v = .agg cs.toArray := by
  unfold aggB at h
  obtain ⟨d, hu, hd⟩ := Option.map_eq_some_iff.1 h
  unfold Value.okWide at hv
  rw [hu] at hv
  cases d <;> simp at hd <;> (obtain ⟨c2, rfl, _⟩ := hv; subst hc; simp [Value.cells])
end Go.Xw

/- What the laws' arguments open into: written by rows.py. -/
set_option linter.unusedVariables false
set_option linter.unusedSimpArgs false
namespace Go.Proofs.Ytjhajfkfhdnciaa
open Go Go.Xw
def ok_api_Queue (a : S_api_Queue) : Prop := List.length a.Name ≤ maxLen ∧ (Lit.int .i64 a.Count).wf = true ∧ (∀ x ∈ a.Roots.l, (Lit.int .i64 x).wf = true)
theorem opn_api_Queue {w : World} : Opn Try.prog w 98 k_api_Queue ok_api_Queue := by
  intro H enc base sp held fuel cs x h
  obtain ⟨hl, m, hf⟩ := trod_st Try.underlying98 h
  obtain ⟨y0, h0⟩ := hf 0 _ rfl
  have c0 : Try.prog.cellsOf 9 = 1 := by kernel_rfl
  obtain ⟨b0, e0, o0⟩ := (opn_str Try.underlying9) enc base sp held m _ y0 h0
  have e0 : (cs.drop 0).take 1 = kS.enc b0 := (congrArg (fun n => (cs.drop 0).take n) c0).symm.trans e0
  obtain ⟨y1, h1⟩ := hf 1 _ rfl
  have c1 : Try.prog.cellsOf 3 = 1 := by kernel_rfl
  obtain ⟨b1, e1, o1⟩ := (opn_int Try.underlying3) enc base sp held m _ y1 h1
  have e1 : (cs.drop 1).take 1 = (kI .i64).enc b1 := (congrArg (fun n => (cs.drop 1).take n) c1).symm.trans e1
  obtain ⟨y2, h2⟩ := hf 2 _ rfl
  have c2 : Try.prog.cellsOf 96 = 12 := by kernel_rfl
  obtain ⟨b2, e2, o2⟩ := (opn_arr Try.underlying96 (by kernel_rfl) (by kernel_rfl) (opn_int Try.underlying3)) enc base sp held m _ y2 h2
  have e2 : (cs.drop 2).take 12 = (kA 12 (kI .i64)).enc b2 := (congrArg (fun n => (cs.drop 2).take n) c2).symm.trans e2
  have hn : cs.drop 14 = [] := List.drop_eq_nil_of_le (by rw [hl]; exact Nat.le_of_eq (by kernel_rfl))
  have hc : cs = kS.enc b0 ++ ((kI .i64).enc b1 ++ ((kA 12 (kI .i64)).enc b2 ++ [])) := (fld_cons (o := 0) (n := 1) e0 (fld_cons (o := 1) (n := 1) e1 (fld_cons (o := 2) (n := 12) e2 hn)))
  refine ⟨⟨b0, b1, b2⟩, ?_, o0, o1, o2⟩
  rw [hc]
  simp [kA, kI, kB, kS, kT, cellsOf, Seg.cell, Kd.seg, k_api_Queue, segs_api_Queue]
def ok_api_Dir (a : S_api_Dir) : Prop := ((∀ x ∈ a.Queues, (Lit.int .i64 x).wf = true) ∧ List.length a.Queues ≤ maxLen)
theorem opn_api_Dir {w : World} {H : Type} (enc : TypeId × Value → H) (base : Nat) (sp : Nat → Bool) (held : Bool) (fuel : Nat) (cs : List Value) (x : DataW H × List MemPlace) (h : DataW.trod enc Try.prog w base sp held fuel 107 cs = some x) : ∃ a : S_api_Dir, ∃ V0 : Value, ∃ R0 : Rd (kI .i64) w V0 a.Queues, cs = cellsOf [Seg.cell V0 R0.one] ∧ ok_api_Dir a := by
  obtain ⟨hl, m, hf⟩ := trod_st Try.underlying107 h
  obtain ⟨y0, h0⟩ := hf 0 _ rfl
  have c0 : Try.prog.cellsOf 45 = 1 := by kernel_rfl
  obtain ⟨b0, W0, e0, r0, o0, l0, _⟩ := (opn_slice (K := (kI .i64)) Try.underlying45 (by kernel_rfl) (by decide) (opn_int Try.underlying3)) enc base sp held m _ y0 h0
  have e0 : (cs.drop 0).take 1 = [W0] := (congrArg (fun n => (cs.drop 0).take n) c0).symm.trans e0
  have hn : cs.drop 1 = [] := List.drop_eq_nil_of_le (by rw [hl]; exact Nat.le_of_eq (by kernel_rfl))
  have hc : cs = [W0] ++ [] := (fld_cons (o := 0) (n := 1) e0 hn)
  refine ⟨⟨b0⟩, W0, r0, ?_, ⟨o0, l0⟩⟩
  rw [hc]
  simp [kA, kI, kB, kS, kT, cellsOf, Seg.cell, Kd.seg, k_api_Queue, segs_api_Queue]
end Go.Proofs.Ytjhajfkfhdnciaa

/- Plain words on the models: rounds, numbers that fit, lists. -/
set_option linter.unusedVariables false
set_option linter.unusedSimpArgs false
namespace Go.Xw
open Go
theorem w64 {n : Int} (h1 : -9223372036854775808 ≤ n) (h2 : n ≤ 9223372036854775807) : IntKind.i64.wrap n = n := by
  unfold IntKind.wrap
  simp only [IntKind.signed, IntKind.bits]
  simp
  split <;> omega
theorem wu8 {n : Int} (h1 : 0 ≤ n) (h2 : n ≤ 255) : IntKind.u8.wrap n = n := by
  unfold IntKind.wrap
  simp only [IntKind.signed, IntKind.bits]
  simp
  omega
theorem wu64 {n : Int} (h1 : 0 ≤ n) (h2 : n ≤ 18446744073709551615) : IntKind.u64.wrap n = n := by
  unfold IntKind.wrap
  simp only [IntKind.signed, IntKind.bits]
  simp
  omega
theorem wu32 {n : Int} (h1 : 0 ≤ n) (h2 : n ≤ 4294967295) : IntKind.u32.wrap n = n := by
  unfold IntKind.wrap
  simp only [IntKind.signed, IntKind.bits]
  simp
  omega
theorem wf64 {n : Int} : (Lit.int .i64 n).wf = true ↔ -9223372036854775808 ≤ n ∧ n ≤ 9223372036854775807 := by
  simp only [Lit.wf, IntKind.min, IntKind.max, IntKind.signed, IntKind.bits, Bool.and_eq_true, decide_eq_true_eq]
  simp
theorem wfu64 {n : Int} : (Lit.int .u64 n).wf = true ↔ 0 ≤ n ∧ n ≤ 18446744073709551615 := by
  simp only [Lit.wf, IntKind.min, IntKind.max, IntKind.signed, IntKind.bits, Bool.and_eq_true, decide_eq_true_eq]
  simp
theorem wf8 {n : Int} : (Lit.int .u8 n).wf = true ↔ 0 ≤ n ∧ n ≤ 255 := by
  simp only [Lit.wf, IntKind.min, IntKind.max, IntKind.signed, IntKind.bits, Bool.and_eq_true, decide_eq_true_eq]
  simp
theorem loopM_from {σ ε : Type} {step : σ → Option (Sum ε σ)} (S : Nat → σ) (n : Nat) (e : ε) (h : ∀ j, j < n → step (S j) = some (.inr (S (j + 1)))) (he : step (S n) = some (.inl e)) : ∀ k m, m ≤ n → n - m < k → loopM step k (S m) = some e
  | 0, m, _, hk => by omega
  | k + 1, m, hm, hk => by
    unfold loopM
    by_cases e1 : m = n
    · subst e1
      rw [he]
    · rw [h m (by omega)]
      exact loopM_from S n e h he k (m + 1) (by omega) (by omega)
theorem loopM_run {σ ε : Type} {step : σ → Option (Sum ε σ)} (S : Nat → σ) (n : Nat) {e : ε} {k : Nat} {s : σ} (hs : S 0 = s) (h : ∀ j, j < n → step (S j) = some (.inr (S (j + 1)))) (he : step (S n) = some (.inl e)) (hk : n < k) : loopM step k s = some e := by
  subst hs
  exact loopM_from S n e h he k 0 (by omega) (by omega)
theorem loopM_bad {σ ε : Type} {step : σ → Option (Sum ε σ)} (S : Nat → σ) (N : Nat) (good : Nat → Prop) {e : ε} {k : Nat} {s : σ} (hs : S 0 = s) (hex : ∃ j, j < N ∧ ¬ good j)
    (h : ∀ j, j < N → (∀ i, i < j → good i) → good j → step (S j) = some (.inr (S (j + 1)))) (hb : ∀ j, j < N → (∀ i, i < j → good i) → ¬ good j → step (S j) = some (.inl e)) (hk : N < k) : loopM step k s = some e := by
  have hmin : ∀ m j, j ≤ m → (j < N ∧ ¬ good j) → ∃ n, (n < N ∧ ¬ good n) ∧ ∀ i, i < n → good i := by
    intro m
    induction m with
    | zero =>
      intro j hj hjj
      exact ⟨j, hjj, fun i hi => by omega⟩
    | succ m ih =>
      intro j hj hjj
      by_cases hx : ∃ i, i < j ∧ ¬ good i
      · obtain ⟨i, hi, hgi⟩ := hx
        exact ih i (by omega) ⟨by omega, hgi⟩
      · exact ⟨j, hjj, fun i hi => Classical.byContradiction fun hg => hx ⟨i, hi, hg⟩⟩
  obtain ⟨j, hj⟩ := hex
  obtain ⟨n, ⟨hn, hg⟩, hall⟩ := hmin j j (Nat.le_refl _) hj
  exact loopM_run S n hs (fun i hi => h i (by omega) (fun q hq => hall q (by omega)) (hall i hi)) (hb n hn hall hg) (by omega)
end Go.Xw

/- Sums in plain words: steps of one bit over words of 32 bits; the program's halves of octets and the document's single steps tell the same. -/
set_option linter.unusedVariables false
set_option linter.unusedSimpArgs false
namespace Go.Proofs.Ytjhajfkfhdnciaa.Pure
open Go Go.Xw
def I32 (x : BitVec 32) : Int := (x.toNat : Int)
theorem I32_lt (x : BitVec 32) : 0 ≤ I32 x ∧ I32 x ≤ 4294967295 := by
  unfold I32
  have := x.isLt
  omega
theorem ofI (x : BitVec 32) : BitVec.ofInt 32 (I32 x) = x := by
  unfold I32
  rw [BitVec.ofInt_natCast, BitVec.ofNat_toNat, BitVec.setWidth_eq]
theorem I32_of {n : Int} (h0 : 0 ≤ n) (h1 : n ≤ 4294967295) : n = I32 (BitVec.ofNat 32 n.toNat) := by
  unfold I32
  rw [BitVec.toNat_ofNat, Nat.mod_eq_of_lt (by omega)]
  omega
theorem wI32 (x : BitVec 32) : IntKind.u32.wrap (I32 x) = I32 x := wu32 (I32_lt x).1 (I32_lt x).2
theorem bx32 (x y : BitVec 32) : bXor .u32 (I32 x) (I32 y) = I32 (x ^^^ y) := by
  unfold bXor
  show IntKind.u32.wrap (((BitVec.ofInt 32 (I32 x) ^^^ BitVec.ofInt 32 (I32 y)).toNat : Nat) : Int) = _
  rw [ofI, ofI]
  exact wI32 _
theorem ba32 (x y : BitVec 32) : bAnd .u32 (I32 x) (I32 y) = I32 (x &&& y) := by
  unfold bAnd
  show IntKind.u32.wrap (((BitVec.ofInt 32 (I32 x) &&& BitVec.ofInt 32 (I32 y)).toNat : Nat) : Int) = _
  rw [ofI, ofI]
  exact wI32 _
theorem sr32 (x : BitVec 32) (n : Nat) (hn : n ≤ 32) : shR .u32 (I32 x) (n : Int) = I32 (x >>> n) := by
  unfold shR I32
  rw [BitVec.toNat_ushiftRight, Nat.shiftRight_eq_div_pow]
  show Int.fdiv (x.toNat : Int) (2 ^ min ((n : Int).toNat) 32) = _
  rw [Int.toNat_natCast, Nat.min_eq_left hn, Int.fdiv_eq_ediv_of_nonneg _ (Int.le_of_lt (Int.pow_pos (by decide)))]
  simp
def poly : BitVec 32 := 2197175160#32
def stp (x : BitVec 32) : BitVec 32 := (x >>> 1) ^^^ (if x.getLsbD 0 then poly else 0#32)
theorem lsb_and (x : BitVec 32) : (I32 (x &&& 1#32) = 1) ↔ x.getLsbD 0 = true := by
  unfold I32
  rw [BitVec.toNat_and]
  show ((x.toNat &&& 1 : Nat) : Int) = 1 ↔ x.toNat.testBit 0 = true
  rw [Nat.and_one_is_mod, Nat.testBit_zero]
  simp
  omega
theorem step_eq (fu : Nat) (x : BitVec 32) : crc_step.f fu (I32 x) = some (I32 (stp x)) := by
  unfold crc_step.f stp
  have e1 : bAnd .u32 (I32 x) 1 = I32 (x &&& 1#32) := ba32 x 1#32
  have e2 : shR .u32 (I32 x) 1 = I32 (x >>> 1) := sr32 x 1 (by decide)
  have e3 : bXor .u32 (I32 (x >>> 1)) 2197175160 = I32 (x >>> 1 ^^^ poly) := bx32 (x >>> 1) poly
  rw [e1, e2, e3]
  by_cases h : x.getLsbD 0 = true
  · rw [if_pos (by simpa using (lsb_and x).2 h), if_pos h]
  · rw [if_neg (by simpa using fun e => h ((lsb_and x).1 e)), if_neg h]
    simp
theorem rstep_eq (fu : Nat) (x : BitVec 32) : rickyardref02_Step.f fu (I32 x) = some (I32 (stp x)) := by
  unfold rickyardref02_Step.f stp
  have hb := I32_lt x
  have e1 : Int.tmod (I32 x) 2 = I32 (x &&& 1#32) := by
    rw [Int.tmod_eq_emod_of_nonneg hb.1]
    unfold I32
    rw [BitVec.toNat_and]
    show ((x.toNat : Int)) % 2 = ((x.toNat &&& 1 : Nat) : Int)
    rw [Nat.and_one_is_mod]
    omega
  have e2 : Int.tdiv (I32 x) 2 = I32 (x >>> 1) := by
    rw [Int.tdiv_eq_ediv_of_nonneg hb.1]
    unfold I32
    rw [BitVec.toNat_ushiftRight, Nat.shiftRight_eq_div_pow]
    omega
  have e3 : bXor .u32 (I32 (x >>> 1)) 2197175160 = I32 (x >>> 1 ^^^ poly) := bx32 (x >>> 1) poly
  rw [e1, e2, wI32, e3]
  by_cases h : x.getLsbD 0 = true
  · rw [if_pos (by simpa using (lsb_and x).2 h), if_pos h]
  · rw [if_neg (by simpa using fun e => h ((lsb_and x).1 e)), if_neg h]
    simp
theorem xor4 (a b p q : BitVec 32) : (a ^^^ b) ^^^ (p ^^^ q) = (a ^^^ p) ^^^ (b ^^^ q) := by
  rw [BitVec.xor_assoc, ← BitVec.xor_assoc b, BitVec.xor_comm b p, BitVec.xor_assoc p, ← BitVec.xor_assoc]
theorem sel_xor (a b : Bool) (p : BitVec 32) : (if (a ^^ b) = true then p else 0#32) = (if a = true then p else 0#32) ^^^ (if b = true then p else 0#32) := by
  cases a <;> cases b <;> simp
theorem stp_xor (x y : BitVec 32) : stp (x ^^^ y) = stp x ^^^ stp y := by
  unfold stp
  rw [BitVec.ushiftRight_xor_distrib, BitVec.getLsbD_xor, sel_xor, xor4]
def stps : Nat → BitVec 32 → BitVec 32
  | 0, x => x
  | n + 1, x => stps n (stp x)
theorem stps_xor : ∀ (n : Nat) (x y : BitVec 32), stps n (x ^^^ y) = stps n x ^^^ stps n y
  | 0, x, y => rfl
  | n + 1, x, y => by
    unfold stps
    rw [stp_xor, stps_xor n]
theorem stps_add (m : Nat) : ∀ (n : Nat) (x : BitVec 32), stps (n + m) x = stps m (stps n x)
  | 0, x => by simp [stps]
  | n + 1, x => by
    rw [Nat.add_right_comm]
    show stps (n + m) (stp x) = stps m (stps n (stp x))
    exact stps_add m n (stp x)
theorem stps_succ (n : Nat) (x : BitVec 32) : stps (n + 1) x = stp (stps n x) := stps_add 1 n x
theorem stp_even {x : BitVec 32} (h : x.getLsbD 0 = false) : stp x = x >>> 1 := by
  unfold stp
  rw [h]
  simp
theorem stps_high (x : BitVec 32) : ∀ n, (∀ j, j < n → x.getLsbD j = false) → stps n x = x >>> n
  | 0, _ => by simp [stps]
  | n + 1, h => by
    rw [stps_succ, stps_high x n fun j hj => h j (by omega)]
    rw [stp_even (by rw [BitVec.getLsbD_ushiftRight]; exact h (n + 0) (by omega)), ← BitVec.shiftRight_add]
theorem low_bit (n j : Nat) (hj : j < n) (hn : n ≤ 32) : (BitVec.ofNat 32 (2 ^ n - 1)).getLsbD j = true := by
  rw [BitVec.getLsbD_ofNat, Nat.testBit_two_pow_sub_one]
  simp
  omega
theorem high_bit (n j : Nat) (hj : n ≤ j) : (BitVec.ofNat 32 (2 ^ n - 1)).getLsbD j = false := by
  rw [BitVec.getLsbD_ofNat, Nat.testBit_two_pow_sub_one]
  simp
  omega
/-- n steps: what is above the lowest n bits moves down, the lowest n bits make the rest. -/
theorem stps_split (n : Nat) (hn : n ≤ 32) (x : BitVec 32) : stps n x = (x >>> n) ^^^ stps n (x &&& BitVec.ofNat 32 (2 ^ n - 1)) := by
  have e : x = (x &&& ~~~ BitVec.ofNat 32 (2 ^ n - 1)) ^^^ (x &&& BitVec.ofNat 32 (2 ^ n - 1)) := by
    apply BitVec.eq_of_getLsbD_eq
    intro i hi
    rw [BitVec.getLsbD_xor, BitVec.getLsbD_and, BitVec.getLsbD_and, BitVec.getLsbD_not]
    cases x.getLsbD i <;> cases (BitVec.ofNat 32 (2 ^ n - 1)).getLsbD i <;> simp [hi]
  conv => lhs; rw [e]
  rw [stps_xor, stps_high]
  · congr 1
    apply BitVec.eq_of_getLsbD_eq
    intro i hi
    rw [BitVec.getLsbD_ushiftRight, BitVec.getLsbD_ushiftRight, BitVec.getLsbD_and, BitVec.getLsbD_not, high_bit n (n + i) (by omega)]
    by_cases h : n + i < 32
    · simp [h]
    · have : x.getLsbD (n + i) = false := BitVec.getLsbD_of_ge _ _ (by omega)
      simp [this]
  · intro j hj
    rw [BitVec.getLsbD_and, BitVec.getLsbD_not, low_bit n j hj hn]
    simp
/-- Steps lose nothing. -/
theorem stp_inj0 {x : BitVec 32} (h : stp x = 0#32) : x = 0#32 := by
  unfold stp at h
  have hp : poly.getLsbD 31 = true := by decide
  have h31 : (stp x).getLsbD 31 = x.getLsbD 0 := by
    unfold stp
    rw [BitVec.getLsbD_xor, BitVec.getLsbD_ushiftRight, BitVec.getLsbD_of_ge x (1 + 31) (by omega)]
    cases x.getLsbD 0 <;> simp [hp]
  have h0 : x.getLsbD 0 = false := by
    rw [← h31]
    unfold stp
    rw [h]
    simp
  simp only [h0] at h
  apply BitVec.eq_of_getLsbD_eq
  intro i hi
  cases i with
  | zero => rw [h0]; simp
  | succ i =>
    have := congrArg (fun z => z.getLsbD i) h
    simp [BitVec.getLsbD_ushiftRight] at this
    rw [Nat.add_comm] at this
    simpa using this
theorem stps_inj0 : ∀ (n : Nat) {x : BitVec 32}, stps n x = 0#32 → x = 0#32
  | 0, x, h => h
  | n + 1, x, h => stp_inj0 (stps_inj0 n h)
def Bytes (l : List Int) : Prop := ∀ x ∈ l, 0 ≤ x ∧ x ≤ 255
def b32 (c : Int) : BitVec 32 := BitVec.ofNat 32 c.toNat
theorem b32_eq {c : Int} (h : 0 ≤ c ∧ c ≤ 255) : IntKind.u32.wrap c = I32 (b32 c) := by
  rw [wu32 h.1 (by omega)]
  exact I32_of h.1 (by omega)
def take8 (x : BitVec 32) (c : Int) : BitVec 32 := stps 8 (x ^^^ b32 c)
def regs (x : BitVec 32) (l : List Int) : BitVec 32 := l.foldl take8 x
def tabL : List Int := (List.range 16).map fun i => I32 (stps 4 (BitVec.ofNat 32 i))
def tabA : Arr 16 Int := ⟨tabL, rfl⟩
theorem table_at (n : Nat) : crc_Table.f (n + 20) = some tabA := by kernel_rfl
theorem table_eq {fu : Nat} (h : 20 ≤ fu) : crc_Table.f fu = some tabA := by
  obtain ⟨n, rfl⟩ : ∃ n, fu = n + 20 := ⟨fu - 20, by omega⟩
  exact table_at n
theorem tab_get : ∀ i : Fin 16, Arr.get tabA ((i : Nat) : Int) = I32 (stps 4 (BitVec.ofNat 32 (i : Nat))) := by decide +kernel
theorem nib (x : BitVec 32) : bXor .u32 (shR .u32 (I32 x) 4) (Arr.get tabA (bAnd .u32 (I32 x) 15)) = I32 (stps 4 x) := by
  have e1 : bAnd .u32 (I32 x) 15 = I32 (x &&& 15#32) := ba32 x 15#32
  have e2 : shR .u32 (I32 x) 4 = I32 (x >>> 4) := sr32 x 4 (by decide)
  have hlt : (x &&& 15#32).toNat < 16 := by
    rw [BitVec.toNat_and]
    exact Nat.lt_of_le_of_lt Nat.and_le_right (by decide)
  have e3 : Arr.get tabA (I32 (x &&& 15#32)) = I32 (stps 4 (x &&& 15#32)) := by
    have := tab_get ⟨(x &&& 15#32).toNat, hlt⟩
    simp only [BitVec.ofNat_toNat, BitVec.setWidth_eq] at this
    exact this
  rw [e1, e2, e3, bx32]
  exact congrArg I32 (stps_split 4 (by decide) x).symm
theorem nib_in (x : BitVec 32) : 0 ≤ bAnd .u32 (I32 x) 15 ∧ bAnd .u32 (I32 x) 15 < 16 := by
  have e1 : bAnd .u32 (I32 x) 15 = I32 (x &&& 15#32) := ba32 x 15#32
  have hlt : (x &&& 15#32).toNat < 16 := by
    rw [BitVec.toNat_and]
    exact Nat.lt_of_le_of_lt Nat.and_le_right (by decide)
  rw [e1]
  unfold I32
  omega
theorem ix_nat {α : Type} [Inhabited α] {l : List α} {j : Nat} (h : j < l.length) : ix l (j : Int) = l[j] := by
  simp [ix, List.getD_eq_getElem?_getD, List.getElem?_eq_getElem h]
theorem take_next {α : Type} {l : List α} {j : Nat} (h : j < l.length) : l.take (j + 1) = l.take j ++ [l[j]] := by
  rw [List.take_add_one, List.getElem?_eq_getElem h]
  rfl
theorem reg_eq {fu : Nat} {x : BitVec 32} {l : List Int} (hb : Bytes l) (hl : l.length ≤ 9000000000000000000) (hf : l.length < fu) : crc_register.f fu tabA (I32 x) l = some (I32 (regs x l)) := by
  unfold crc_register.f
  have : loopM (crc_register.s0 fu tabA l) fu (I32 x, 0) = some (I32 (regs x l)) := by
    refine loopM_run (S := fun j => (I32 (regs x (l.take j)), (j : Int))) l.length (by simp [regs]) ?_ ?_ hf
    · intro j hj
      unfold crc_register.s0
      have h1 : (j : Int) < (l.length : Int) := by omega
      have w3 : IntKind.i64.wrap ((j : Int) + 1) = ((j + 1 : Nat) : Int) := by rw [w64 (by omega) (by omega)]; omega
      have hc := hb _ (List.getElem_mem hj)
      have e1 : bXor .u32 (I32 (regs x (l.take j))) (IntKind.u32.wrap (ix l (j : Int))) = I32 (regs x (l.take j) ^^^ b32 l[j]) := by
        rw [ix_nat hj, b32_eq hc, bx32]
      have e2 : regs x (l.take (j + 1)) = stps 4 (stps 4 (regs x (l.take j) ^^^ b32 l[j])) := by
        rw [take_next hj]
        unfold regs
        rw [List.foldl_append]
        exact stps_add 4 4 _
      simp only [h1, decide_true, if_true, e1, nib, w3, e2]
      rw [if_pos ⟨by omega, trivial⟩, if_pos (nib_in _), if_pos (nib_in _)]
    · unfold crc_register.s0
      simp
  rw [this]
  rfl
def ones : BitVec 32 := 4294967295#32
def crc (l : List Int) : BitVec 32 := regs ones l ^^^ ones
theorem regs_append (x : BitVec 32) (a b : List Int) : regs x (a ++ b) = regs (regs x a) b := by
  unfold regs
  rw [List.foldl_append]
theorem sum_eq {fu : Nat} {l : List Int} (hb : Bytes l) (hl : l.length ≤ 9000000000000000000) (hf : l.length + 20 < fu) : crc_Sum.f fu [l] = some (I32 (crc l)) := by
  unfold crc_Sum.f
  rw [table_eq (by omega)]
  have : loopM (crc_Sum.s0 fu [l] tabA) fu (4294967295, 0) = some (I32 (regs ones l)) := by
    refine loopM_run (S := fun j => (if j = 0 then I32 ones else I32 (regs ones l), (j : Int))) 1 rfl ?_ ?_ (by omega)
    · intro j hj
      obtain rfl : j = 0 := by omega
      unfold crc_Sum.s0
      have e0 : ix [l] ((0 : Nat) : Int) = l := rfl
      have w3 : IntKind.i64.wrap (((0 : Nat) : Int) + 1) = ((0 + 1 : Nat) : Int) := by decide
      simp only [e0, w3, if_true, reg_eq hb hl (by omega : l.length < fu)]
      simp
    · unfold crc_Sum.s0
      simp
  simp only [Option.bind_some]
  rw [this]
  simp only [Option.bind_some]
  exact congrArg some (bx32 _ ones)
theorem rsteps_eq {fu : Nat} {x : BitVec 32} (hf : 8 < fu) : rickyardref02_Steps.f fu (I32 x) 8 = some (I32 (stps 8 x)) := by
  unfold rickyardref02_Steps.f
  have : loopM (rickyardref02_Steps.s0 fu 8) fu (I32 x, 0) = some (I32 (stps 8 x)) := by
    refine loopM_run (S := fun j => (I32 (stps j x), (j : Int))) 8 rfl ?_ ?_ hf
    · intro j hj
      unfold rickyardref02_Steps.s0
      have h1 : (j : Int) < 8 := by omega
      have w3 : IntKind.i64.wrap ((j : Int) + 1) = ((j + 1 : Nat) : Int) := by rw [w64 (by omega) (by omega)]; omega
      simp only [h1, decide_true, if_true, rstep_eq, w3, stps_succ]
      rfl
    · unfold rickyardref02_Steps.s0
      simp
  rw [this]
  rfl
theorem rsum_eq {fu : Nat} {l : List Int} (hb : Bytes l) (hl : l.length ≤ 9000000000000000000) (hf : l.length + 20 < fu) : rickyardref02_Sum.f fu l = some (I32 (crc l)) := by
  unfold rickyardref02_Sum.f
  have : loopM (rickyardref02_Sum.s0 fu l) fu (4294967295, 0) = some (I32 (regs ones l)) := by
    refine loopM_run (S := fun j => (I32 (regs ones (l.take j)), (j : Int))) l.length (by simp [regs]; rfl) ?_ ?_ (by omega)
    · intro j hj
      unfold rickyardref02_Sum.s0
      have h1 : (j : Int) < (l.length : Int) := by omega
      have w3 : IntKind.i64.wrap ((j : Int) + 1) = ((j + 1 : Nat) : Int) := by rw [w64 (by omega) (by omega)]; omega
      have hc := hb _ (List.getElem_mem hj)
      have e1 : bXor .u32 (I32 (regs ones (l.take j))) (IntKind.u32.wrap (ix l (j : Int))) = I32 (regs ones (l.take j) ^^^ b32 l[j]) := by
        rw [ix_nat hj, b32_eq hc, bx32]
      have e2 : regs ones (l.take (j + 1)) = stps 8 (regs ones (l.take j) ^^^ b32 l[j]) := by
        rw [take_next hj]
        unfold regs
        rw [List.foldl_append]
        rfl
      simp only [h1, decide_true, if_true, e1, w3, e2, rsteps_eq (by omega : 8 < fu)]
      rw [if_pos ⟨by omega, trivial⟩]
      rfl
    · unfold rickyardref02_Sum.s0
      simp
  rw [this]
  have e : IntKind.u32.wrap (4294967295 - I32 (regs ones l)) = I32 (crc l) := by
    have hlt := (regs ones l).isLt
    have h2 : (crc l).toNat = 4294967295 - (regs ones l).toNat := by
      unfold crc
      have : regs ones l ^^^ ones = ~~~ (regs ones l) := by
        apply BitVec.eq_of_getLsbD_eq
        intro i hi
        have ho : ones.getLsbD i = true := by
          have := low_bit 32 i hi (by decide)
          exact this
        rw [BitVec.getLsbD_xor, BitVec.getLsbD_not, ho]
        simp [hi]
      rw [this, BitVec.toNat_not]
    unfold I32
    rw [h2, wu32 (by omega) (by omega)]
    omega
  simp only [Option.bind_some, e]
end Go.Proofs.Ytjhajfkfhdnciaa.Pure

/- Numbers as octets, in plain words. -/
set_option linter.unusedVariables false
set_option linter.unusedSimpArgs false
namespace Go.Proofs.Ytjhajfkfhdnciaa.Pure
open Go Go.Xw
def lay (v n : Nat) : List Int := (List.range n).map fun i => ((v / 256 ^ i % 256 : Nat) : Int)
theorem lay_len (v n : Nat) : (lay v n).length = n := by simp [lay]
theorem lay_succ (v n : Nat) : lay v (n + 1) = lay v n ++ [((v / 256 ^ n % 256 : Nat) : Int)] := by
  simp [lay, List.range_succ]
theorem lay_bytes (v n : Nat) : Bytes (lay v n) := by
  intro x hx
  simp only [lay, List.mem_map] at hx
  obtain ⟨i, _, rfl⟩ := hx
  omega
theorem wu8_mod {n : Nat} : IntKind.u8.wrap (n : Int) = ((n % 256 : Nat) : Int) := by
  unfold IntKind.wrap
  simp only [IntKind.signed, IntKind.bits]
  simp
theorem shr64 (n : Nat) : shR .u64 (n : Int) 8 = ((n / 256 : Nat) : Int) := by
  unfold shR
  show Int.fdiv (n : Int) (2 ^ min ((8 : Int).toNat) 64) = _
  rw [show (2 : Int) ^ min ((8 : Int).toNat) 64 = 256 from by decide, Int.fdiv_eq_ediv_of_nonneg _ (by decide)]
  omega
theorem wn64 (q : Nat) (h : q < 18446744073709551616) : IntKind.u64.wrap (q : Int) = (q : Int) := wu64 (by omega) (by omega)
theorem tdn (q : Nat) : Int.tdiv (q : Int) 256 = ((q / 256 : Nat) : Int) := by
  rw [Int.tdiv_eq_ediv_of_nonneg (by omega)]
  omega
theorem tmn (q : Nat) : Int.tmod (q : Int) 256 = ((q % 256 : Nat) : Int) := by
  rw [Int.tmod_eq_emod_of_nonneg (by omega)]
  omega
theorem wn8 (q : Nat) : IntKind.u8.wrap ((q % 256 : Nat) : Int) = ((q % 256 : Nat) : Int) := wu8 (by omega) (by omega)
theorem olay_eq {fu v n : Nat} (hn : n ≤ 8) (hf : n < fu) : octet_Lay.f fu (v : Int) (n : Int) = some (lay v n) := by
  unfold octet_Lay.f
  have h0 : ¬ ((n : Int) < 0) := by omega
  have h8 : ¬ ((n : Int) > 8) := by omega
  have hL : Int.toNat (n : Int) ≤ LIM := by
    have : (8 : Nat) ≤ LIM := by decide
    omega
  simp only [h0, h8, decide_false, Bool.false_eq_true, if_false]
  rw [if_pos ⟨by omega, hL⟩]
  have : loopM (octet_Lay.s0 fu (n : Int)) fu ((v : Int), 0, List.replicate (Int.toNat (n : Int)) (0 : Int)) = some (lay v n) := by
    refine loopM_run (S := fun j => (((v / 256 ^ j : Nat) : Int), (j : Int), lay v j ++ List.replicate (n - j) (0 : Int))) n (by simp [lay]) ?_ ?_ hf
    · intro j hj
      unfold octet_Lay.s0
      have w3 : IntKind.i64.wrap ((j : Int) + 1) = ((j + 1 : Nat) : Int) := by rw [w64 (by omega) (by omega)]; omega
      have e1 : (List.replicate (Int.toNat (n : Int)) (0 : Int)).length = n := by simp
      have e2 : (lay v j ++ List.replicate (n - j) (0 : Int)).length = n := by rw [List.length_append, lay_len, List.length_replicate]; omega
      have e3 : List.set (lay v j ++ List.replicate (n - j) (0 : Int)) (Int.toNat (j : Int)) (IntKind.u8.wrap ((v / 256 ^ j : Nat) : Int)) = lay v (j + 1) ++ List.replicate (n - (j + 1)) (0 : Int) := by
        rw [Int.toNat_natCast, List.set_append, if_neg (by rw [lay_len]; omega), lay_len, Nat.sub_self, wu8_mod, lay_succ, show n - j = n - (j + 1) + 1 from by omega, List.replicate_succ]
        simp
      have e4 : shR .u64 ((v / 256 ^ j : Nat) : Int) 8 = ((v / 256 ^ (j + 1) : Nat) : Int) := by
        rw [shr64, Nat.div_div_eq_div_mul, Nat.pow_succ]
      have h1 : (j : Int) < (n : Int) := by omega
      simp only [e1, e2, e3, e4, w3, h1, decide_true, if_true]
      rw [if_pos ⟨by omega, trivial⟩]
    · unfold octet_Lay.s0
      simp
  rw [this]
  rfl
theorem roctet_eq {fu v i : Nat} (hv : v < 18446744073709551616) (hi : i ≤ 1000) (hf : i < fu) : rickyardref01_Octet.f fu (v : Int) (i : Int) = some ((v / 256 ^ i % 256 : Nat) : Int) := by
  unfold rickyardref01_Octet.f
  have : loopM (rickyardref01_Octet.s0 fu (i : Int)) fu ((v : Int), 0) = some ((v / 256 ^ i : Nat) : Int) := by
    refine loopM_run (S := fun j => (((v / 256 ^ j : Nat) : Int), (j : Int))) i (by simp) ?_ ?_ hf
    · intro j hj
      unfold rickyardref01_Octet.s0
      have w3 : IntKind.i64.wrap ((j : Int) + 1) = ((j + 1 : Nat) : Int) := by rw [w64 (by omega) (by omega)]; omega
      have h1 : (j : Int) < (i : Int) := by omega
      have hle : v / 256 ^ j ≤ v := Nat.div_le_self _ _
      have e1 : Int.tdiv ((v / 256 ^ j : Nat) : Int) 256 = ((v / 256 ^ (j + 1) : Nat) : Int) := by
        rw [tdn, Nat.pow_succ, ← Nat.div_div_eq_div_mul]
      have hle2 : v / 256 ^ (j + 1) ≤ v := Nat.div_le_self _ _
      have e2 : IntKind.u64.wrap ((v / 256 ^ (j + 1) : Nat) : Int) = ((v / 256 ^ (j + 1) : Nat) : Int) := wn64 _ (Nat.lt_of_le_of_lt hle2 hv)
      simp only [h1, decide_true, if_true, e1, e2, w3]
    · unfold rickyardref01_Octet.s0
      simp
  rw [this]
  simp only [Option.bind_some, tmn, wn8]
theorem rlay_eq {fu v n : Nat} (hv : v < 18446744073709551616) (hn : n ≤ 8) (hf : n < fu) : rickyardref01_Lay.f fu (v : Int) (n : Int) = some ((lay v n).map toB) := by
  unfold rickyardref01_Lay.f
  have : loopM (rickyardref01_Lay.s0 fu (v : Int) (n : Int)) fu ([], 0) = some ((lay v n).map toB) := by
    refine loopM_run (S := fun j => ((lay v j).map toB, (j : Int))) n (by simp [lay]) ?_ ?_ hf
    · intro j hj
      unfold rickyardref01_Lay.s0
      have w3 : IntKind.i64.wrap ((j : Int) + 1) = ((j + 1 : Nat) : Int) := by rw [w64 (by omega) (by omega)]; omega
      have h1 : (j : Int) < (n : Int) := by omega
      have hlim : ((lay v j).map toB).length + ([((v / 256 ^ j % 256 : Nat) : Int)].map toB).length ≤ LIM := by
        have : (9 : Nat) ≤ LIM := by decide
        simp only [List.length_map, lay_len, List.length_cons, List.length_nil]
        omega
      simp only [h1, decide_true, if_true, roctet_eq (fu := fu) hv (by omega : j ≤ 1000) (by omega), Option.bind_some, w3]
      rw [if_pos hlim, lay_succ, List.map_append]
    · unfold rickyardref01_Lay.s0
      simp
  rw [this]
  rfl
def num : List Int → Nat
  | [] => 0
  | c :: l => c.toNat + 256 * num l
theorem num_append : ∀ (a b : List Int), num (a ++ b) = num a + 256 ^ a.length * num b
  | [], b => by simp [num]
  | c :: a, b => by
    simp only [List.cons_append, num, num_append a b, List.length_cons, Nat.pow_succ]
    rw [Nat.mul_add, Nat.add_assoc, ← Nat.mul_assoc, Nat.mul_comm 256 (256 ^ a.length)]
theorem num_lt : ∀ {l : List Int}, Bytes l → num l < 256 ^ l.length
  | [], _ => by simp [num]
  | c :: l, h => by
    have h1 := h c (by simp)
    have h2 := num_lt (l := l) fun x hx => h x (by simp [hx])
    simp only [num, List.length_cons, Nat.pow_succ]
    omega
theorem lay_num : ∀ {l : List Int}, Bytes l → lay (num l) l.length = l
  | [], _ => rfl
  | c :: l, h => by
    have h1 := h c (by simp)
    have h2 := lay_num (l := l) fun x hx => h x (by simp [hx])
    have e : lay (num (c :: l)) (l.length + 1) = c :: lay (num l) l.length := by
      unfold lay
      rw [List.range_succ_eq_map, List.map_cons, List.map_map]
      congr 1
      · simp only [num, Nat.pow_zero, Nat.div_one]
        omega
      · apply List.map_congr_left
        intro i hi
        simp only [Function.comp, num, Nat.succ_eq_add_one, Nat.pow_succ]
        rw [Nat.mul_comm (256 ^ i) 256, ← Nat.div_div_eq_div_mul, show (c.toNat + 256 * num l) / 256 = num l from by omega]
    rw [List.length_cons, e, h2]
theorem num_lay (v : Nat) : ∀ n, num (lay v n) = v % 256 ^ n
  | 0 => by simp [lay, num, Nat.mod_one]
  | n + 1 => by
    rw [lay_succ, num_append, num_lay v n, lay_len]
    simp only [num]
    rw [Int.toNat_natCast, Nat.mul_zero, Nat.add_zero, Nat.pow_succ, Nat.mod_mul]
theorem or_add (a c j : Nat) (ha : a < 256 ^ j) : a ||| c * 256 ^ j = a + 256 ^ j * c := by
  have e : 256 ^ j = 2 ^ (8 * j) := by rw [Nat.pow_mul]
  rw [e] at ha ⊢
  rw [Nat.mul_comm c, Nat.or_comm, ← Nat.two_pow_add_eq_or_of_lt ha, Nat.add_comm]
theorem read_eq {fu : Nat} {l : List Int} (hb : Bytes l) (hl : l.length ≤ 8) (hf : l.length < fu) : octet_Read.f fu l = some ((num l : Nat) : Int) := by
  unfold octet_Read.f
  have hm : mnI (l.length : Int) 8 = (l.length : Int) := by
    unfold mnI
    split <;> omega
  have hc : cut l 0 (l.length : Int) = l := by
    unfold cut
    simp
  rw [hm, if_pos ⟨by omega, Int.le_refl _⟩]
  have : loopM (octet_Read.s0 fu l) fu (0, 0) = some ((num l : Nat) : Int) := by
    refine loopM_run (S := fun j => (((num (l.take j) : Nat) : Int), (j : Int))) l.length (by simp [num]) ?_ ?_ hf
    · intro j hj
      unfold octet_Read.s0
      rw [hm, hc]
      have h1 : (j : Int) < (l.length : Int) := by omega
      have w3 : IntKind.i64.wrap ((j : Int) + 1) = ((j + 1 : Nat) : Int) := by rw [w64 (by omega) (by omega)]; omega
      have w4 : IntKind.i64.wrap (8 * (j : Int)) = ((8 * j : Nat) : Int) := by rw [w64 (by omega) (by omega)]; omega
      have hcb := hb _ (List.getElem_mem hj)
      obtain ⟨c, hc'⟩ : ∃ c : Nat, l[j] = (c : Int) := ⟨l[j].toNat, by omega⟩
      have hlt : num (l.take j) < 256 ^ j := by
        have := num_lt (l := l.take j) fun x hx => hb x (List.mem_of_mem_take hx)
        rwa [List.length_take, Nat.min_eq_left (by omega)] at this
      have e256 : (256 : Nat) ^ j * 256 ≤ 256 ^ 8 := by
        rw [← Nat.pow_succ]
        exact Nat.pow_le_pow_right (by decide) (by omega)
      have e8 : (256 : Nat) ^ 8 = 18446744073709551616 := by decide
      have hcj : c * 256 ^ j < 18446744073709551616 := by
        have : c * 256 ^ j ≤ 255 * 256 ^ j := Nat.mul_le_mul_right _ (by omega)
        have : 0 < 256 ^ j := Nat.pow_pos (by decide)
        omega
      have e1 : shL .u64 (IntKind.u64.wrap (ix l (j : Int))) ((8 * j : Nat) : Int) = ((c * 256 ^ j : Nat) : Int) := by
        rw [ix_nat hj, hc', wu64 (by omega) (by omega)]
        unfold shL
        rw [Int.toNat_natCast, Nat.min_eq_left (by show 8 * j ≤ 64; omega)]
        have : (c : Int) * 2 ^ (8 * j) = ((c * 256 ^ j : Nat) : Int) := by
          have h256 : ((256 ^ j : Nat) : Int) = 2 ^ (8 * j) := by
            rw [Int.natCast_pow, Int.pow_mul]
            exact congrArg (fun z : Int => z ^ j) (by decide : ((256 : Nat) : Int) = 2 ^ 8)
          rw [Int.natCast_mul, h256]
        rw [this, wu64 (by omega) (by omega)]
      have e2 : bOr .u64 ((num (l.take j) : Nat) : Int) ((c * 256 ^ j : Nat) : Int) = ((num (l.take (j + 1)) : Nat) : Int) := by
        unfold bOr
        show IntKind.u64.wrap (((BitVec.ofInt 64 ((num (l.take j) : Nat) : Int) ||| BitVec.ofInt 64 ((c * 256 ^ j : Nat) : Int)).toNat : Nat) : Int) = _
        rw [BitVec.ofInt_natCast, BitVec.ofInt_natCast, BitVec.toNat_or, BitVec.toNat_ofNat, BitVec.toNat_ofNat, Nat.mod_eq_of_lt (by omega), Nat.mod_eq_of_lt (by omega), or_add _ _ _ hlt, take_next hj, num_append]
        have hs : num (l.take j) + 256 ^ j * c < 18446744073709551616 := by
          rw [Nat.mul_comm]
          have : c * 256 ^ j ≤ 255 * 256 ^ j := Nat.mul_le_mul_right _ (by omega)
          omega
        rw [wu64 (by omega) (by omega)]
        simp only [num, hc', Int.toNat_natCast, List.length_take, Nat.min_eq_left (by omega : j ≤ l.length), Nat.mul_zero, Nat.add_zero]
      simp only [h1, decide_true, if_true, w4, e1, e2, w3]
      rw [if_pos ⟨by omega, trivial⟩, if_pos (by omega)]
    · unfold octet_Read.s0
      rw [hm, hc]
      simp
  rw [this]
  rfl
end Go.Proofs.Ytjhajfkfhdnciaa.Pure

/- rickyard/block.Kind: its model, and that the Go function computes it: written by gen.py. -/
set_option linter.unusedVariables false
namespace Go.Proofs.Ytjhajfkfhdnciaa
open Go Go.Xw
def block_Kind.f (fu : Nat) (a0 : List Int) : Option Int := ((block_right.f fu a0 : Option Bool).bind fun t1 => (if (!t1) = true then some (0) else (if (4 : Int) < (List.length a0 : Int) then some ((IntKind.i64.wrap (ix a0 4))) else none)))
set_option maxRecDepth 100000 in
set_option maxHeartbeats 400000 in
theorem block_Kind.ok (fu : Nat) (w : World) (a0 : List Int) (V0_0 : Value) (R0_0 : Rd (kI .u8) w V0_0 a0) (r : Int) (h : block_Kind.f fu a0 = some r) :
    Calls Try.prog 33 (([V0_0] : List Value).toArray) w (fun e w' => ∃ v, e = .returned v ∧ v = .int .i64 r ∧ Gr w w') := by
  unfold block_Kind.f at h
  have fB : Gr w w := Fr.refl _ _
  refine calls_cw Try.func33 rfl Try.ntmps33 rfl ?_
  refine cw_seq ?_
  refine cw_region ?_
  refine ol_val (v := .int .i64 0) (by exact xr_assign rfl rfl) rfl rfl rfl ?_
  refine ol_nil ?_
  refine cw_seq ?_
  refine cw_seq ?_
  refine cw_region ?_
  refine ol_val (v := V0_0) (by exact xr_move rfl rfl) rfl rfl rfl ?_
  obtain ⟨t1, k2, h⟩ := bs h
  refine ol_op (by exact opv_call rfl cal97 (ac rfl an) (block_right.ok fu _ a0 V0_0 (R0_0.gr fB) _ k2)) rfl rfl rfl ?_
  rintro _ w4 ⟨rfl, q3⟩
  have fB := fB.gr q3
  refine ol_val (v := .bool (!t1)) (by exact xr_not rfl rfl) rfl rfl rfl ?_
  refine ol_nil ?_
  rcases is h with ⟨c5, h⟩ | ⟨c5, h⟩
  · refine cw_condT rfl c5 ?_
    refine cw_seq ?_
    refine cw_region ?_
    refine ol_val (v := .int .i64 0) (by exact xr_assign rfl rfl) rfl rfl rfl ?_
    refine ol_nil ?_
    refine cw_ret ?_
    repeat (first | with_reducible refine thn_r ?_ | with_reducible refine blk_r ?_)
    obtain rfl := Option.some.inj h
    refine fin_ret1 Try.results33 rfl ?_
    exact ⟨_, rfl, rfl, fB⟩
  · refine cw_condF rfl c5 ?_
    refine cw_skip ?_
    refine cw_seq ?_
    refine cw_region ?_
    refine ol_val (v := V0_0) (by exact xr_move rfl rfl) rfl rfl rfl ?_
    obtain ⟨g6, h⟩ := gs h
    refine ol_val (v := .pointer (some ⟨(sb V0_0), so V0_0 + Int.toNat 4 * 1, none⟩)) (by exact xr_indexR (K := (kI .u8)) (v := V0_0) rfl Try.underlying22 sz5 rfl (R0_0.gr fB) rfl (by decide) g6) rfl rfl rfl ?_
    refine ol_val (v := .int .u8 (ix a0 4)) (by exact xr_load1 (v := .int .u8 (ix a0 4)) rfl ag5 rfl ((R0_0.gr fB).elem (by decide) g6)) rfl rfl rfl ?_
    refine ol_val (v := .int .i64 (IntKind.i64.wrap (ix a0 4))) (by exact xr_conv rfl Try.underlying5 Try.underlying3 rfl) rfl rfl rfl ?_
    refine ol_val (v := .int .i64 (IntKind.i64.wrap (ix a0 4))) (by exact xr_assign rfl rfl) rfl rfl rfl ?_
    refine ol_nil ?_
    refine cw_ret ?_
    repeat (first | with_reducible refine thn_r ?_ | with_reducible refine blk_r ?_)
    obtain rfl := Option.some.inj h
    refine fin_ret1 Try.results33 rfl ?_
    exact ⟨_, rfl, rfl, fB⟩
end Go.Proofs.Ytjhajfkfhdnciaa

/- rickyard/rickyardref07.Open: its model, and that the Go function computes it: written by gen.py. -/
set_option linter.unusedVariables false
namespace Go.Proofs.Ytjhajfkfhdnciaa
open Go Go.Xw
def rickyardref07_Open.f (fu : Nat) (a0 : List Int) : Option (Int × Int × (List UInt8) × Bool) := (((if (!decide ((List.length a0 : Int) = 64)) = true then some (true) else (if (4 : Int) < (List.length a0 : Int) then (if (decide ((ix a0 4) = 0)) = true then some (true) else (if (4 : Int) < (List.length a0 : Int) then (if (5 : Int) < (List.length a0 : Int) then (if (8 : Int) ≤ (List.length a0 : Int) then ((rickyardref07_Seal.f fu (IntKind.i64.wrap (ix a0 4)) (IntKind.i64.wrap (ix a0 5)) (List.map toB (cut a0 8 (List.length a0 : Int))) : Option (List UInt8)).bind fun t17 => some ((!decide (t17 = (List.map toB a0))))) else none) else none) else none)) else none)) : Option Bool).bind fun x1 => (if x1 = true then some (0, 0, [], false) else (if (4 : Int) < (List.length a0 : Int) then (if (5 : Int) < (List.length a0 : Int) then (if (8 : Int) ≤ (List.length a0 : Int) then some ((IntKind.i64.wrap (ix a0 4)), (IntKind.i64.wrap (ix a0 5)), (List.map toB (cut a0 8 (List.length a0 : Int))), true) else none) else none) else none)))
set_option maxRecDepth 100000 in
set_option maxHeartbeats 400000 in
theorem rickyardref07_Open.ok (fu : Nat) (w : World) (a0 : List Int) (V0_0 : Value) (R0_0 : Rd (kI .u8) w V0_0 a0) (r : Int × Int × (List UInt8) × Bool) (h : rickyardref07_Open.f fu a0 = some r) :
    Calls Try.prog 32 (([V0_0] : List Value).toArray) w (fun e w' => ∃ v, e = .returned v ∧ v = .tuple #[.int .i64 r.1, .int .i64 r.2.1, sv r.2.2.1, .bool r.2.2.2] ∧ Gr w w') := by
  unfold rickyardref07_Open.f at h
  have fB : Gr w w := Fr.refl _ _
  refine calls_cw Try.func32 rfl Try.ntmps32 rfl ?_
  refine cw_seq ?_
  refine cw_region ?_
  refine ol_val (v := .int .i64 0) (by exact xr_assign rfl rfl) rfl rfl rfl ?_
  refine ol_val (v := .int .i64 0) (by exact xr_assign rfl rfl) rfl rfl rfl ?_
  refine ol_val (v := sv []) (by exact xr_assign rfl rfl) rfl rfl rfl ?_
  refine ol_val (v := .bool false) (by exact xr_assign rfl rfl) rfl rfl rfl ?_
  refine ol_nil ?_
  refine cw_seq ?_
  refine cw_seq ?_
  obtain ⟨x1, j2, h⟩ := bs h
  refine cw_mid (fun ρ' w' => ρ' 0 = V0_0 ∧ ρ' 31 = .bool x1 ∧ Gr w w') ?_ ?_
  · skip
    rcases is j2 with ⟨c3, j2⟩ | ⟨c3, j2⟩
    · skip
      refine cw_drawL 25 [fun vz wz => vz = (V0_0 : Value), fun vz wz => vz = (.int .i64 (List.length a0 : Int) : Value), fun vz wz => vz = (.bool (!decide ((List.length a0 : Int) = 64)) : Value), fun vz wz => vz = (.bool (!decide ((List.length a0 : Int) = 64)) : Value), fun vz _ => vz = undef, fun vz _ => vz = undef, fun vz _ => vz = undef, fun vz _ => vz = undef, fun vz wz => vz = (.bool true : Value), fun vz wz => vz = (.bool true : Value), fun vz _ => vz = undef, fun vz _ => vz = undef, fun vz _ => vz = undef, fun vz _ => vz = undef, fun vz _ => vz = undef, fun vz _ => vz = undef, fun vz _ => vz = undef, fun vz _ => vz = undef, fun vz _ => vz = undef, fun vz _ => vz = undef, fun vz _ => vz = undef, fun vz _ => vz = undef, fun vz _ => vz = undef, fun vz _ => vz = undef, fun vz _ => vz = undef] mo rfl ⟨fun _ _ _ h _ => h, fun _ _ _ h _ => h, fun _ _ _ h _ => h, fun _ _ _ h _ => h, fun _ _ _ h _ => h, fun _ _ _ h _ => h, fun _ _ _ h _ => h, fun _ _ _ h _ => h, fun _ _ _ h _ => h, fun _ _ _ h _ => h, fun _ _ _ h _ => h, fun _ _ _ h _ => h, fun _ _ _ h _ => h, fun _ _ _ h _ => h, fun _ _ _ h _ => h, fun _ _ _ h _ => h, fun _ _ _ h _ => h, fun _ _ _ h _ => h, fun _ _ _ h _ => h, fun _ _ _ h _ => h, fun _ _ _ h _ => h, fun _ _ _ h _ => h, fun _ _ _ h _ => h, fun _ _ _ h _ => h, fun _ _ _ h _ => h, trivial⟩ ?_ ?_
      · refine ⟨?_, ?_, ?_, ?_, ?_, ?_, ?_, ?_, ?_, ?_, ?_, ?_, ?_, ?_, ?_, ?_, ?_, ?_, ?_, ?_, ?_, ?_, ?_, ?_, ?_, trivial⟩
        · intro ρz wz hz hk hd
          exact sk_val (v := V0_0) (by exact xr_move rfl ((hk 0 rfl).trans rfl)) rfl rfl
        · intro ρz wz hz hk hd
          have d6 := hd 0 rfl 6 rfl
          exact sk_val (v := .int .i64 (List.length a0 : Int)) (by exact xr_lenR rfl Try.underlying22 d6 (R0_0.gr (fB.gr hz))) rfl rfl
        · intro ρz wz hz hk hd
          have d7 := hd 1 rfl 7 rfl
          exact sk_val (v := .bool (!decide ((List.length a0 : Int) = 64))) (by exact xr_neI rfl Try.underlying3 rfl d7 rfl) rfl rfl
        · intro ρz wz hz hk hd
          have d8 := hd 2 rfl 8 rfl
          exact sk_val (v := .bool (!decide ((List.length a0 : Int) = 64))) (by exact xr_move rfl d8) rfl rfl
        · intro ρz wz hz hk hd
          have d9 := hd 3 rfl 9 rfl
          exact sk_skip rfl rfl d9 c3 rfl
        · intro ρz wz hz hk hd
          have d9 := hd 3 rfl 9 rfl
          exact sk_skip rfl rfl d9 c3 rfl
        · intro ρz wz hz hk hd
          have d9 := hd 3 rfl 9 rfl
          exact sk_skip rfl rfl d9 c3 rfl
        · intro ρz wz hz hk hd
          have d9 := hd 3 rfl 9 rfl
          exact sk_skip rfl rfl d9 c3 rfl
        · intro ρz wz hz hk hd
          have d9 := hd 3 rfl 9 rfl
          exact sk_val (v := .bool true) (by exact xr_pickT rfl d9 c3 rfl) rfl rfl
        · intro ρz wz hz hk hd
          have d14 := hd 8 rfl 14 rfl
          exact sk_val (v := .bool true) (by exact xr_move rfl d14) rfl rfl
        · intro ρz wz hz hk hd
          have d15 := hd 9 rfl 15 rfl
          exact sk_skip rfl rfl d15 rfl rfl
        · intro ρz wz hz hk hd
          have d15 := hd 9 rfl 15 rfl
          exact sk_skip rfl rfl d15 rfl rfl
        · intro ρz wz hz hk hd
          have d15 := hd 9 rfl 15 rfl
          exact sk_skip rfl rfl d15 rfl rfl
        · intro ρz wz hz hk hd
          have d15 := hd 9 rfl 15 rfl
          exact sk_skip rfl rfl d15 rfl rfl
        · intro ρz wz hz hk hd
          have d15 := hd 9 rfl 15 rfl
          exact sk_skip rfl rfl d15 rfl rfl
        · intro ρz wz hz hk hd
          have d15 := hd 9 rfl 15 rfl
          exact sk_skip rfl rfl d15 rfl rfl
        · intro ρz wz hz hk hd
          have d15 := hd 9 rfl 15 rfl
          exact sk_skip rfl rfl d15 rfl rfl
        · intro ρz wz hz hk hd
          have d15 := hd 9 rfl 15 rfl
          exact sk_skip rfl rfl d15 rfl rfl
        · intro ρz wz hz hk hd
          have d15 := hd 9 rfl 15 rfl
          exact sk_skip rfl rfl d15 rfl rfl
        · intro ρz wz hz hk hd
          have d15 := hd 9 rfl 15 rfl
          exact sk_skip rfl rfl d15 rfl rfl
        · intro ρz wz hz hk hd
          have d15 := hd 9 rfl 15 rfl
          exact sk_skip rfl rfl d15 rfl rfl
        · intro ρz wz hz hk hd
          have d15 := hd 9 rfl 15 rfl
          exact sk_skip rfl rfl d15 rfl rfl
        · intro ρz wz hz hk hd
          have d15 := hd 9 rfl 15 rfl
          exact sk_skip rfl rfl d15 rfl rfl
        · intro ρz wz hz hk hd
          have d15 := hd 9 rfl 15 rfl
          exact sk_skip rfl rfl d15 rfl rfl
        · intro ρz wz hz hk hd
          have d15 := hd 9 rfl 15 rfl
          exact sk_skip rfl rfl d15 rfl rfl
      · intro ρ4 w5 q6 hk hd
        have e0 := (hk 0 rfl).trans rfl
        have e15 := hd 9 rfl 15 rfl
        have fB := fB.gr q6
        refine ol_val (v := .bool true) (by exact xr_pickT rfl e15 rfl rfl) rfl rfl rfl ?_
        refine ol_nil ?_
        obtain rfl := Option.some.inj j2
        refine thn_i ?_
        exact ⟨e0, rfl, q6⟩
    · skip
      obtain ⟨g7, j2⟩ := gs j2
      rcases is j2 with ⟨c8, j2⟩ | ⟨c8, j2⟩
      · skip
        refine cw_drawL 25 [fun vz wz => vz = (V0_0 : Value), fun vz wz => vz = (.int .i64 (List.length a0 : Int) : Value), fun vz wz => vz = (.bool (!decide ((List.length a0 : Int) = 64)) : Value), fun vz wz => vz = (.bool (!decide ((List.length a0 : Int) = 64)) : Value), fun vz wz => vz = (V0_0 : Value), fun vz wz => vz = (.pointer (some ⟨(sb V0_0), so V0_0 + Int.toNat 4 * 1, none⟩) : Value), fun vz wz => vz = (.int .u8 (ix a0 4) : Value), fun vz wz => vz = (.bool (decide ((ix a0 4) = 0)) : Value), fun vz wz => vz = (.bool (decide ((ix a0 4) = 0)) : Value), fun vz wz => vz = (.bool (decide ((ix a0 4) = 0)) : Value), fun vz _ => vz = undef, fun vz _ => vz = undef, fun vz _ => vz = undef, fun vz _ => vz = undef, fun vz _ => vz = undef, fun vz _ => vz = undef, fun vz _ => vz = undef, fun vz _ => vz = undef, fun vz _ => vz = undef, fun vz _ => vz = undef, fun vz _ => vz = undef, fun vz _ => vz = undef, fun vz _ => vz = undef, fun vz _ => vz = undef, fun vz _ => vz = undef] mo rfl ⟨fun _ _ _ h _ => h, fun _ _ _ h _ => h, fun _ _ _ h _ => h, fun _ _ _ h _ => h, fun _ _ _ h _ => h, fun _ _ _ h _ => h, fun _ _ _ h _ => h, fun _ _ _ h _ => h, fun _ _ _ h _ => h, fun _ _ _ h _ => h, fun _ _ _ h _ => h, fun _ _ _ h _ => h, fun _ _ _ h _ => h, fun _ _ _ h _ => h, fun _ _ _ h _ => h, fun _ _ _ h _ => h, fun _ _ _ h _ => h, fun _ _ _ h _ => h, fun _ _ _ h _ => h, fun _ _ _ h _ => h, fun _ _ _ h _ => h, fun _ _ _ h _ => h, fun _ _ _ h _ => h, fun _ _ _ h _ => h, fun _ _ _ h _ => h, trivial⟩ ?_ ?_
        · refine ⟨?_, ?_, ?_, ?_, ?_, ?_, ?_, ?_, ?_, ?_, ?_, ?_, ?_, ?_, ?_, ?_, ?_, ?_, ?_, ?_, ?_, ?_, ?_, ?_, ?_, trivial⟩
          · intro ρz wz hz hk hd
            exact sk_val (v := V0_0) (by exact xr_move rfl ((hk 0 rfl).trans rfl)) rfl rfl
          · intro ρz wz hz hk hd
            have d6 := hd 0 rfl 6 rfl
            exact sk_val (v := .int .i64 (List.length a0 : Int)) (by exact xr_lenR rfl Try.underlying22 d6 (R0_0.gr (fB.gr hz))) rfl rfl
          · intro ρz wz hz hk hd
            have d7 := hd 1 rfl 7 rfl
            exact sk_val (v := .bool (!decide ((List.length a0 : Int) = 64))) (by exact xr_neI rfl Try.underlying3 rfl d7 rfl) rfl rfl
          · intro ρz wz hz hk hd
            have d8 := hd 2 rfl 8 rfl
            exact sk_val (v := .bool (!decide ((List.length a0 : Int) = 64))) (by exact xr_move rfl d8) rfl rfl
          · intro ρz wz hz hk hd
            have d9 := hd 3 rfl 9 rfl
            exact sk_gval (v := V0_0) (by exact xr_move rfl ((hk 0 rfl).trans rfl)) rfl rfl d9 c3 rfl
          · intro ρz wz hz hk hd
            have d10 := hd 4 rfl 10 rfl
            have d9 := hd 3 rfl 9 rfl
            exact sk_gval (by exact xr_indexR (K := (kI .u8)) (v := V0_0) rfl Try.underlying22 sz5 d10 (R0_0.gr (fB.gr hz)) rfl (by decide) g7) rfl rfl d9 c3 rfl
          · intro ρz wz hz hk hd
            have d11 := hd 5 rfl 11 rfl
            have d9 := hd 3 rfl 9 rfl
            exact sk_gval (v := .int .u8 (ix a0 4)) (by exact xr_load1 (v := .int .u8 (ix a0 4)) rfl ag5 d11 ((R0_0.gr (fB.gr hz)).elem (by decide) g7)) rfl rfl d9 c3 rfl
          · intro ρz wz hz hk hd
            have d12 := hd 6 rfl 12 rfl
            have d9 := hd 3 rfl 9 rfl
            exact sk_gval (v := .bool (decide ((ix a0 4) = 0))) (by exact xr_eqI rfl Try.underlying5 rfl d12 rfl) rfl rfl d9 c3 rfl
          · intro ρz wz hz hk hd
            have d9 := hd 3 rfl 9 rfl
            have d13 := hd 7 rfl 13 rfl
            exact sk_val (v := .bool (decide ((ix a0 4) = 0))) (by exact xr_pickF rfl d9 c3 d13) rfl rfl
          · intro ρz wz hz hk hd
            have d14 := hd 8 rfl 14 rfl
            exact sk_val (v := .bool (decide ((ix a0 4) = 0))) (by exact xr_move rfl d14) rfl rfl
          · intro ρz wz hz hk hd
            have d15 := hd 9 rfl 15 rfl
            exact sk_skip rfl rfl d15 c8 rfl
          · intro ρz wz hz hk hd
            have d15 := hd 9 rfl 15 rfl
            exact sk_skip rfl rfl d15 c8 rfl
          · intro ρz wz hz hk hd
            have d15 := hd 9 rfl 15 rfl
            exact sk_skip rfl rfl d15 c8 rfl
          · intro ρz wz hz hk hd
            have d15 := hd 9 rfl 15 rfl
            exact sk_skip rfl rfl d15 c8 rfl
          · intro ρz wz hz hk hd
            have d15 := hd 9 rfl 15 rfl
            exact sk_skip rfl rfl d15 c8 rfl
          · intro ρz wz hz hk hd
            have d15 := hd 9 rfl 15 rfl
            exact sk_skip rfl rfl d15 c8 rfl
          · intro ρz wz hz hk hd
            have d15 := hd 9 rfl 15 rfl
            exact sk_skip rfl rfl d15 c8 rfl
          · intro ρz wz hz hk hd
            have d15 := hd 9 rfl 15 rfl
            exact sk_skip rfl rfl d15 c8 rfl
          · intro ρz wz hz hk hd
            have d15 := hd 9 rfl 15 rfl
            exact sk_skip rfl rfl d15 c8 rfl
          · intro ρz wz hz hk hd
            have d15 := hd 9 rfl 15 rfl
            exact sk_skip rfl rfl d15 c8 rfl
          · intro ρz wz hz hk hd
            have d15 := hd 9 rfl 15 rfl
            exact sk_skip rfl rfl d15 c8 rfl
          · intro ρz wz hz hk hd
            have d15 := hd 9 rfl 15 rfl
            exact sk_skip rfl rfl d15 c8 rfl
          · intro ρz wz hz hk hd
            have d15 := hd 9 rfl 15 rfl
            exact sk_skip rfl rfl d15 c8 rfl
          · intro ρz wz hz hk hd
            have d15 := hd 9 rfl 15 rfl
            exact sk_skip rfl rfl d15 c8 rfl
          · intro ρz wz hz hk hd
            have d15 := hd 9 rfl 15 rfl
            exact sk_skip rfl rfl d15 c8 rfl
        · intro ρ9 w10 q11 hk hd
          have e0 := (hk 0 rfl).trans rfl
          have e15 := hd 9 rfl 15 rfl
          have fB := fB.gr q11
          refine ol_val (v := .bool true) (by exact xr_pickT rfl e15 c8 rfl) rfl rfl rfl ?_
          refine ol_nil ?_
          obtain rfl := Option.some.inj j2
          refine thn_i ?_
          exact ⟨e0, rfl, q11⟩
      · skip
        obtain ⟨g12, j2⟩ := gs j2
        obtain ⟨g13, j2⟩ := gs j2
        obtain ⟨g15, j2⟩ := gs j2
        obtain ⟨t17, k18, j2⟩ := bs j2
        refine cw_drawL 25 [fun vz wz => vz = (V0_0 : Value), fun vz wz => vz = (.int .i64 (List.length a0 : Int) : Value), fun vz wz => vz = (.bool (!decide ((List.length a0 : Int) = 64)) : Value), fun vz wz => vz = (.bool (!decide ((List.length a0 : Int) = 64)) : Value), fun vz wz => vz = (V0_0 : Value), fun vz wz => vz = (.pointer (some ⟨(sb V0_0), so V0_0 + Int.toNat 4 * 1, none⟩) : Value), fun vz wz => vz = (.int .u8 (ix a0 4) : Value), fun vz wz => vz = (.bool (decide ((ix a0 4) = 0)) : Value), fun vz wz => vz = (.bool (decide ((ix a0 4) = 0)) : Value), fun vz wz => vz = (.bool (decide ((ix a0 4) = 0)) : Value), fun vz wz => vz = (V0_0 : Value), fun vz wz => vz = (.pointer (some ⟨(sb V0_0), so V0_0 + Int.toNat 4 * 1, none⟩) : Value), fun vz wz => vz = (.int .u8 (ix a0 4) : Value), fun vz wz => vz = (.int .i64 (IntKind.i64.wrap (ix a0 4)) : Value), fun vz wz => vz = (V0_0 : Value), fun vz wz => vz = (.pointer (some ⟨(sb V0_0), so V0_0 + Int.toNat 5 * 1, none⟩) : Value), fun vz wz => vz = (.int .u8 (ix a0 5) : Value), fun vz wz => vz = (.int .i64 (IntKind.i64.wrap (ix a0 5)) : Value), fun vz wz => vz = (V0_0 : Value), fun vz wz => ∃ u16 : Value, ∃ r14 : Rd (kI .u8) wz u16 (cut a0 8 (List.length a0 : Int)), vz = (u16 : Value), fun vz wz => vz = (sv (List.map toB (cut a0 8 (List.length a0 : Int))) : Value), fun vz wz => vz = (sv t17 : Value), fun vz wz => vz = (V0_0 : Value), fun vz wz => vz = (sv (List.map toB a0) : Value), fun vz wz => vz = (.bool (!decide (t17 = (List.map toB a0))) : Value)] mo rfl ⟨fun _ _ _ h _ => h, fun _ _ _ h _ => h, fun _ _ _ h _ => h, fun _ _ _ h _ => h, fun _ _ _ h _ => h, fun _ _ _ h _ => h, fun _ _ _ h _ => h, fun _ _ _ h _ => h, fun _ _ _ h _ => h, fun _ _ _ h _ => h, fun _ _ _ h _ => h, fun _ _ _ h _ => h, fun _ _ _ h _ => h, fun _ _ _ h _ => h, fun _ _ _ h _ => h, fun _ _ _ h _ => h, fun _ _ _ h _ => h, fun _ _ _ h _ => h, fun _ _ _ h _ => h, fun _ _ _ ⟨u16, r14, h⟩ q => ⟨u16, r14.gr q, h⟩, fun _ _ _ h _ => h, fun _ _ _ h _ => h, fun _ _ _ h _ => h, fun _ _ _ h _ => h, fun _ _ _ h _ => h, trivial⟩ ?_ ?_
        · refine ⟨?_, ?_, ?_, ?_, ?_, ?_, ?_, ?_, ?_, ?_, ?_, ?_, ?_, ?_, ?_, ?_, ?_, ?_, ?_, ?_, ?_, ?_, ?_, ?_, ?_, trivial⟩
          · intro ρz wz hz hk hd
            exact sk_val (v := V0_0) (by exact xr_move rfl ((hk 0 rfl).trans rfl)) rfl rfl
          · intro ρz wz hz hk hd
            have d6 := hd 0 rfl 6 rfl
            exact sk_val (v := .int .i64 (List.length a0 : Int)) (by exact xr_lenR rfl Try.underlying22 d6 (R0_0.gr (fB.gr hz))) rfl rfl
          · intro ρz wz hz hk hd
            have d7 := hd 1 rfl 7 rfl
            exact sk_val (v := .bool (!decide ((List.length a0 : Int) = 64))) (by exact xr_neI rfl Try.underlying3 rfl d7 rfl) rfl rfl
          · intro ρz wz hz hk hd
            have d8 := hd 2 rfl 8 rfl
            exact sk_val (v := .bool (!decide ((List.length a0 : Int) = 64))) (by exact xr_move rfl d8) rfl rfl
          · intro ρz wz hz hk hd
            have d9 := hd 3 rfl 9 rfl
            exact sk_gval (v := V0_0) (by exact xr_move rfl ((hk 0 rfl).trans rfl)) rfl rfl d9 c3 rfl
          · intro ρz wz hz hk hd
            have d10 := hd 4 rfl 10 rfl
            have d9 := hd 3 rfl 9 rfl
            exact sk_gval (by exact xr_indexR (K := (kI .u8)) (v := V0_0) rfl Try.underlying22 sz5 d10 (R0_0.gr (fB.gr hz)) rfl (by decide) g7) rfl rfl d9 c3 rfl
          · intro ρz wz hz hk hd
            have d11 := hd 5 rfl 11 rfl
            have d9 := hd 3 rfl 9 rfl
            exact sk_gval (v := .int .u8 (ix a0 4)) (by exact xr_load1 (v := .int .u8 (ix a0 4)) rfl ag5 d11 ((R0_0.gr (fB.gr hz)).elem (by decide) g7)) rfl rfl d9 c3 rfl
          · intro ρz wz hz hk hd
            have d12 := hd 6 rfl 12 rfl
            have d9 := hd 3 rfl 9 rfl
            exact sk_gval (v := .bool (decide ((ix a0 4) = 0))) (by exact xr_eqI rfl Try.underlying5 rfl d12 rfl) rfl rfl d9 c3 rfl
          · intro ρz wz hz hk hd
            have d9 := hd 3 rfl 9 rfl
            have d13 := hd 7 rfl 13 rfl
            exact sk_val (v := .bool (decide ((ix a0 4) = 0))) (by exact xr_pickF rfl d9 c3 d13) rfl rfl
          · intro ρz wz hz hk hd
            have d14 := hd 8 rfl 14 rfl
            exact sk_val (v := .bool (decide ((ix a0 4) = 0))) (by exact xr_move rfl d14) rfl rfl
          · intro ρz wz hz hk hd
            have d15 := hd 9 rfl 15 rfl
            exact sk_gval (v := V0_0) (by exact xr_move rfl ((hk 0 rfl).trans rfl)) rfl rfl d15 c8 rfl
          · intro ρz wz hz hk hd
            have d16 := hd 10 rfl 16 rfl
            have d15 := hd 9 rfl 15 rfl
            exact sk_gval (by exact xr_indexR (K := (kI .u8)) (v := V0_0) rfl Try.underlying22 sz5 d16 (R0_0.gr (fB.gr hz)) rfl (by decide) g12) rfl rfl d15 c8 rfl
          · intro ρz wz hz hk hd
            have d17 := hd 11 rfl 17 rfl
            have d15 := hd 9 rfl 15 rfl
            exact sk_gval (v := .int .u8 (ix a0 4)) (by exact xr_load1 (v := .int .u8 (ix a0 4)) rfl ag5 d17 ((R0_0.gr (fB.gr hz)).elem (by decide) g12)) rfl rfl d15 c8 rfl
          · intro ρz wz hz hk hd
            have d18 := hd 12 rfl 18 rfl
            have d15 := hd 9 rfl 15 rfl
            exact sk_gval (v := .int .i64 (IntKind.i64.wrap (ix a0 4))) (by exact xr_conv rfl Try.underlying5 Try.underlying3 d18) rfl rfl d15 c8 rfl
          · intro ρz wz hz hk hd
            have d15 := hd 9 rfl 15 rfl
            exact sk_gval (v := V0_0) (by exact xr_move rfl ((hk 0 rfl).trans rfl)) rfl rfl d15 c8 rfl
          · intro ρz wz hz hk hd
            have d20 := hd 14 rfl 20 rfl
            have d15 := hd 9 rfl 15 rfl
            exact sk_gval (by exact xr_indexR (K := (kI .u8)) (v := V0_0) rfl Try.underlying22 sz5 d20 (R0_0.gr (fB.gr hz)) rfl (by decide) g13) rfl rfl d15 c8 rfl
          · intro ρz wz hz hk hd
            have d21 := hd 15 rfl 21 rfl
            have d15 := hd 9 rfl 15 rfl
            exact sk_gval (v := .int .u8 (ix a0 5)) (by exact xr_load1 (v := .int .u8 (ix a0 5)) rfl ag5 d21 ((R0_0.gr (fB.gr hz)).elem (by decide) g13)) rfl rfl d15 c8 rfl
          · intro ρz wz hz hk hd
            have d22 := hd 16 rfl 22 rfl
            have d15 := hd 9 rfl 15 rfl
            exact sk_gval (v := .int .i64 (IntKind.i64.wrap (ix a0 5))) (by exact xr_conv rfl Try.underlying5 Try.underlying3 d22) rfl rfl d15 c8 rfl
          · intro ρz wz hz hk hd
            have d15 := hd 9 rfl 15 rfl
            exact sk_gval (v := V0_0) (by exact xr_move rfl ((hk 0 rfl).trans rfl)) rfl rfl d15 c8 rfl
          · intro ρz wz hz hk hd
            have d24 := hd 18 rfl 24 rfl
            have d15 := hd 9 rfl 15 rfl
            exact sk_gval (by exact xr_slice_l (K := (kI .u8)) (v := V0_0) rfl Try.underlying22 sz5 d24 (R0_0.gr (fB.gr hz)) rfl (by decide) g15) rfl rfl d15 c8 ⟨_, (R0_0.gr (fB.gr hz)).cut (lo := 8) (hi := (List.length a0 : Int)) (by decide) g15 (Int.le_refl _), rfl⟩
          · intro ρz wz hz hk hd
            obtain ⟨u16, r14, d25⟩ := hd 19 rfl 25 rfl
            have d15 := hd 9 rfl 15 rfl
            exact sk_gval (v := sv (List.map toB (cut a0 8 (List.length a0 : Int)))) (by exact xr_toStr rfl Try.underlying22 Try.underlying5 Try.underlying9 d25 r14) rfl rfl d15 c8 rfl
          · intro ρz wz hz hk hd
            have d19 := hd 13 rfl 19 rfl
            have d23 := hd 17 rfl 23 rfl
            have d26 := hd 20 rfl 26 rfl
            have d15 := hd 9 rfl 15 rfl
            refine sk_gop (by exact opv_call rfl cal30 (ac d19 (ac d23 (ac d26 an))) (rickyardref07_Seal.ok fu _ (IntKind.i64.wrap (ix a0 4)) (IntKind.i64.wrap (ix a0 5)) (List.map toB (cut a0 8 (List.length a0 : Int))) _ k18)) rfl rfl d15 c8 ?_
            rintro _ wy ⟨rfl, q19⟩
            exact ⟨rfl, q19⟩
          · intro ρz wz hz hk hd
            have d15 := hd 9 rfl 15 rfl
            exact sk_gval (v := V0_0) (by exact xr_move rfl ((hk 0 rfl).trans rfl)) rfl rfl d15 c8 rfl
          · intro ρz wz hz hk hd
            have d28 := hd 22 rfl 28 rfl
            have d15 := hd 9 rfl 15 rfl
            exact sk_gval (v := sv (List.map toB a0)) (by exact xr_toStr rfl Try.underlying22 Try.underlying5 Try.underlying9 d28 (R0_0.gr (fB.gr hz))) rfl rfl d15 c8 rfl
          · intro ρz wz hz hk hd
            have d27 := hd 21 rfl 27 rfl
            have d29 := hd 23 rfl 29 rfl
            have d15 := hd 9 rfl 15 rfl
            exact sk_gval (v := .bool (!decide (t17 = (List.map toB a0)))) (by exact xr_neStr rfl Try.underlying9 d27 d29) rfl rfl d15 c8 rfl
        · intro ρ20 w21 q22 hk hd
          have e0 := (hk 0 rfl).trans rfl
          have e15 := hd 9 rfl 15 rfl
          have e30 := hd 24 rfl 30 rfl
          have fB := fB.gr q22
          refine ol_val (v := .bool (!decide (t17 = (List.map toB a0)))) (by exact xr_pickF rfl e15 c8 e30) rfl rfl rfl ?_
          refine ol_nil ?_
          obtain rfl := Option.some.inj j2
          refine thn_i ?_
          exact ⟨e0, rfl, q22⟩
  · skip
    rintro ρ23 w24 ⟨e0, e31, q25⟩
    have fB := fB.gr q25
    rcases is h with ⟨c26, h⟩ | ⟨c26, h⟩
    · refine cw_condT e31 c26 ?_
      refine cw_seq ?_
      refine cw_region ?_
      refine ol_val (v := .int .i64 0) (by exact xr_assign rfl rfl) rfl rfl rfl ?_
      refine ol_val (v := .int .i64 0) (by exact xr_assign rfl rfl) rfl rfl rfl ?_
      refine ol_val (v := sv []) (by exact xr_assign rfl rfl) rfl rfl rfl ?_
      refine ol_val (v := .bool false) (by exact xr_assign rfl rfl) rfl rfl rfl ?_
      refine ol_nil ?_
      refine cw_ret ?_
      repeat (first | with_reducible refine thn_r ?_ | with_reducible refine blk_r ?_)
      obtain rfl := Option.some.inj h
      refine fin_ret4 Try.results32 rfl rfl rfl rfl ?_
      exact ⟨_, rfl, rfl, fB⟩
    · refine cw_condF e31 c26 ?_
      refine cw_skip ?_
      refine cw_seq ?_
      obtain ⟨g27, h⟩ := gs h
      obtain ⟨g28, h⟩ := gs h
      obtain ⟨g30, h⟩ := gs h
      refine cw_drawL 13 [fun vz wz => vz = (V0_0 : Value), fun vz wz => vz = (.pointer (some ⟨(sb V0_0), so V0_0 + Int.toNat 4 * 1, none⟩) : Value), fun vz wz => vz = (.int .u8 (ix a0 4) : Value), fun vz wz => vz = (.int .i64 (IntKind.i64.wrap (ix a0 4)) : Value), fun vz wz => vz = (V0_0 : Value), fun vz wz => vz = (.pointer (some ⟨(sb V0_0), so V0_0 + Int.toNat 5 * 1, none⟩) : Value), fun vz wz => vz = (.int .u8 (ix a0 5) : Value), fun vz wz => vz = (.int .i64 (IntKind.i64.wrap (ix a0 5)) : Value), fun vz wz => vz = (V0_0 : Value), fun vz wz => ∃ u31 : Value, ∃ r29 : Rd (kI .u8) wz u31 (cut a0 8 (List.length a0 : Int)), vz = (u31 : Value), fun vz wz => vz = (sv (List.map toB (cut a0 8 (List.length a0 : Int))) : Value), fun vz wz => vz = (.int .i64 (IntKind.i64.wrap (ix a0 4)) : Value), fun vz wz => vz = (.int .i64 (IntKind.i64.wrap (ix a0 5)) : Value)] mo rfl ⟨fun _ _ _ h _ => h, fun _ _ _ h _ => h, fun _ _ _ h _ => h, fun _ _ _ h _ => h, fun _ _ _ h _ => h, fun _ _ _ h _ => h, fun _ _ _ h _ => h, fun _ _ _ h _ => h, fun _ _ _ h _ => h, fun _ _ _ ⟨u31, r29, h⟩ q => ⟨u31, r29.gr q, h⟩, fun _ _ _ h _ => h, fun _ _ _ h _ => h, fun _ _ _ h _ => h, trivial⟩ ?_ ?_
      · refine ⟨?_, ?_, ?_, ?_, ?_, ?_, ?_, ?_, ?_, ?_, ?_, ?_, ?_, trivial⟩
        · intro ρz wz hz hk hd
          exact sk_val (v := V0_0) (by exact xr_move rfl ((hk 0 rfl).trans e0)) rfl rfl
        · intro ρz wz hz hk hd
          have d32 := hd 0 rfl 32 rfl
          exact sk_val (by exact xr_indexR (K := (kI .u8)) (v := V0_0) rfl Try.underlying22 sz5 d32 (R0_0.gr (fB.gr hz)) rfl (by decide) g27) rfl rfl
        · intro ρz wz hz hk hd
          have d33 := hd 1 rfl 33 rfl
          exact sk_val (v := .int .u8 (ix a0 4)) (by exact xr_load1 (v := .int .u8 (ix a0 4)) rfl ag5 d33 ((R0_0.gr (fB.gr hz)).elem (by decide) g27)) rfl rfl
        · intro ρz wz hz hk hd
          have d34 := hd 2 rfl 34 rfl
          exact sk_val (v := .int .i64 (IntKind.i64.wrap (ix a0 4))) (by exact xr_conv rfl Try.underlying5 Try.underlying3 d34) rfl rfl
        · intro ρz wz hz hk hd
          exact sk_val (v := V0_0) (by exact xr_move rfl ((hk 0 rfl).trans e0)) rfl rfl
        · intro ρz wz hz hk hd
          have d36 := hd 4 rfl 36 rfl
          exact sk_val (by exact xr_indexR (K := (kI .u8)) (v := V0_0) rfl Try.underlying22 sz5 d36 (R0_0.gr (fB.gr hz)) rfl (by decide) g28) rfl rfl
        · intro ρz wz hz hk hd
          have d37 := hd 5 rfl 37 rfl
          exact sk_val (v := .int .u8 (ix a0 5)) (by exact xr_load1 (v := .int .u8 (ix a0 5)) rfl ag5 d37 ((R0_0.gr (fB.gr hz)).elem (by decide) g28)) rfl rfl
        · intro ρz wz hz hk hd
          have d38 := hd 6 rfl 38 rfl
          exact sk_val (v := .int .i64 (IntKind.i64.wrap (ix a0 5))) (by exact xr_conv rfl Try.underlying5 Try.underlying3 d38) rfl rfl
        · intro ρz wz hz hk hd
          exact sk_val (v := V0_0) (by exact xr_move rfl ((hk 0 rfl).trans e0)) rfl rfl
        · intro ρz wz hz hk hd
          have d40 := hd 8 rfl 40 rfl
          exact sk_val (by exact xr_slice_l (K := (kI .u8)) (v := V0_0) rfl Try.underlying22 sz5 d40 (R0_0.gr (fB.gr hz)) rfl (by decide) g30) rfl ⟨_, (R0_0.gr (fB.gr hz)).cut (lo := 8) (hi := (List.length a0 : Int)) (by decide) g30 (Int.le_refl _), rfl⟩
        · intro ρz wz hz hk hd
          obtain ⟨u31, r29, d41⟩ := hd 9 rfl 41 rfl
          exact sk_val (v := sv (List.map toB (cut a0 8 (List.length a0 : Int)))) (by exact xr_toStr rfl Try.underlying22 Try.underlying5 Try.underlying9 d41 r29) rfl rfl
        · intro ρz wz hz hk hd
          have d35 := hd 3 rfl 35 rfl
          exact sk_val (v := .int .i64 (IntKind.i64.wrap (ix a0 4))) (by exact xr_assign rfl d35) rfl rfl
        · intro ρz wz hz hk hd
          have d39 := hd 7 rfl 39 rfl
          exact sk_val (v := .int .i64 (IntKind.i64.wrap (ix a0 5))) (by exact xr_assign rfl d39) rfl rfl
      · intro ρ32 w33 q34 hk hd
        have e2 := hd 11 rfl 2 rfl
        have e3 := hd 12 rfl 3 rfl
        have e42 := hd 10 rfl 42 rfl
        have fB := fB.gr q34
        refine ol_val (v := sv (List.map toB (cut a0 8 (List.length a0 : Int)))) (by exact xr_assign rfl e42) rfl rfl rfl ?_
        refine ol_val (v := .bool true) (by exact xr_assign rfl rfl) rfl rfl rfl ?_
        refine ol_nil ?_
        refine cw_ret ?_
        repeat (first | with_reducible refine thn_r ?_ | with_reducible refine blk_r ?_)
        obtain rfl := Option.some.inj h
        refine fin_ret4 Try.results32 e2 e3 rfl rfl ?_
        exact ⟨_, rfl, rfl, fB⟩
end Go.Proofs.Ytjhajfkfhdnciaa

/- Blocks in plain words: how one is sealed, which octets are one, as the program and the document tell it. -/
set_option linter.unusedVariables false
set_option linter.unusedSimpArgs false
namespace Go.Proofs.Ytjhajfkfhdnciaa.Pure
open Go Go.Xw
theorem toB_inj {a b : Int} (ha : 0 ≤ a ∧ a ≤ 255) (hb : 0 ≤ b ∧ b ≤ 255) (h : toB a = toB b) : a = b := by
  unfold toB at h
  have := congrArg UInt8.toNat h
  simp only [UInt8.toNat_ofNat'] at this
  omega
theorem map_toB_inj : ∀ {a b : List Int}, Bytes a → Bytes b → a.map toB = b.map toB → a = b
  | [], [], _, _, _ => rfl
  | [], _ :: _, _, _, h => by simp at h
  | _ :: _, [], _, _, h => by simp at h
  | x :: a, y :: b, ha, hb, h => by
    simp only [List.map_cons, List.cons.injEq] at h
    rw [toB_inj (ha x (by simp)) (hb y (by simp)) h.1, map_toB_inj (fun z hz => ha z (by simp [hz])) (fun z hz => hb z (by simp [hz])) h.2]
theorem map_toB_iff {a b : List Int} (ha : Bytes a) (hb : Bytes b) : (a.map toB = b.map toB) ↔ a = b := ⟨map_toB_inj ha hb, fun h => by rw [h]⟩
theorem of_toB {l : List Int} (h : Bytes l) : (l.map toB).map ofB = l := by
  rw [List.map_map]
  conv => rhs; rw [← List.map_id l]
  apply List.map_congr_left
  intro x hx
  have := h x hx
  simp only [Function.comp, ofB, toB, UInt8.toNat_ofNat', id]
  omega
theorem Bytes.app {a b : List Int} (ha : Bytes a) (hb : Bytes b) : Bytes (a ++ b) := by
  intro x hx
  rcases List.mem_append.1 hx with h | h
  · exact ha x h
  · exact hb x h
theorem Bytes.rep (n : Nat) : Bytes (List.replicate n (0 : Int)) := by
  intro x hx
  obtain rfl := List.eq_of_mem_replicate hx
  omega
theorem Bytes.drop {l : List Int} (h : Bytes l) (n : Nat) : Bytes (l.drop n) := fun x hx => h x (List.mem_of_mem_drop hx)
theorem Bytes.take {l : List Int} (h : Bytes l) (n : Nat) : Bytes (l.take n) := fun x hx => h x (List.mem_of_mem_take hx)
/-- What is summed: kind, tag, a gap, the body with noughts behind it. -/
def summed (k t : Int) (body : List Int) : List Int := [k, t, 0, 0] ++ (body ++ List.replicate (56 - body.length) 0)
def sealed (s : List Int) : List Int := lay (crc s).toNat 4 ++ s
theorem summed_len {k t : Int} {body : List Int} (h : body.length ≤ 56) : (summed k t body).length = 60 := by
  simp [summed]
  omega
theorem summed_bytes {k t : Int} {body : List Int} (hk : 0 ≤ k ∧ k ≤ 255) (ht : 0 ≤ t ∧ t ≤ 255) (hb : Bytes body) : Bytes (summed k t body) := by
  refine Bytes.app ?_ (Bytes.app hb (Bytes.rep _))
  intro x hx
  simp only [List.mem_cons, List.not_mem_nil, or_false] at hx
  rcases hx with rfl | rfl | rfl | rfl <;> omega
theorem sealed_len {s : List Int} (h : s.length = 60) : (sealed s).length = 64 := by
  simp [sealed, lay_len, h]
theorem sealed_bytes {s : List Int} (h : Bytes s) : Bytes (sealed s) := Bytes.app (lay_bytes _ _) h
theorem x2_eq (k t : Int) : List.set (List.set (List.replicate (Int.toNat 64) (0 : Int)) (Int.toNat 4) k) (Int.toNat 5) t = [0, 0, 0, 0, k, t, 0, 0] ++ List.replicate 56 (0 : Int) := rfl
theorem x3_eq {k t : Int} {body : List Int} (h : body.length ≤ 56) : splL ([0, 0, 0, 0, k, t, 0, 0] ++ List.replicate 56 (0 : Int)) (Int.toNat 8) (List.take (List.length ([0, 0, 0, 0, k, t, 0, 0] ++ List.replicate 56 (0 : Int)) - Int.toNat 8) body) = [0, 0, 0, 0] ++ summed k t body := by
  have e : List.take (List.length ([0, 0, 0, 0, k, t, 0, 0] ++ List.replicate 56 (0 : Int)) - Int.toNat 8) body = body := List.take_of_length_le (by simpa using h)
  rw [e]
  have e2 : List.drop (8 + body.length) ([0, 0, 0, 0, k, t, 0, 0] ++ List.replicate 56 (0 : Int)) = List.replicate (56 - body.length) 0 := by
    have h8 : ([0, 0, 0, 0, k, t, 0, 0] : List Int).length = 8 := rfl
    rw [List.drop_append, List.drop_eq_nil_of_le (by rw [h8]; omega), List.nil_append, h8, List.drop_replicate]
    congr 1
    omega
  unfold splL summed
  rw [show (Int.toNat 8) = 8 from rfl, e2]
  simp
theorem lay4_eq {fu : Nat} (x : BitVec 32) (hf : 8 < fu) : octet_Lay.f fu (IntKind.u64.wrap (I32 x)) 4 = some (lay x.toNat 4) := by
  have hb := I32_lt x
  rw [wu64 hb.1 (by omega)]
  exact olay_eq (n := 4) (by decide) (by omega)
theorem rlay4_eq {fu : Nat} (x : BitVec 32) (hf : 8 < fu) : rickyardref01_Lay.f fu (IntKind.u64.wrap (I32 x)) 4 = some ((lay x.toNat 4).map toB) := by
  have hb := I32_lt x
  rw [wu64 hb.1 (by omega)]
  exact rlay_eq (n := 4) (by have := x.isLt; omega) (by decide) (by omega)
theorem seal_eq {fu : Nat} {k t : Int} {body : List Int} (hb : Bytes body) (hk : 1 ≤ k ∧ k ≤ 255) (ht : 0 ≤ t ∧ t ≤ 255) (hl : body.length ≤ 56) (hf : 100 < fu) : block_Seal.f fu k t body = some (sealed (summed k t body), true) := by
  have hs := summed_len (k := k) (t := t) hl
  have hsb := summed_bytes ⟨by omega, hk.2⟩ ht hb
  unfold block_Seal.f
  rw [wu8 (by omega : 0 ≤ k) hk.2, wu8 ht.1 ht.2]
  have c0 : (if (decide (k < 1)) = true then true else (if (decide (k ≥ 256)) = true then true else (if (decide (t < 0)) = true then true else (if (decide (t ≥ 256)) = true then true else (decide ((List.length body : Int) > 56)))))) = false := by
    have h1 : ¬ k < 1 := by omega
    have h2 : ¬ k ≥ 256 := by omega
    have h3 : ¬ t < 0 := by omega
    have h4 : ¬ t ≥ 256 := by omega
    have h5 : ¬ (List.length body : Int) > 56 := by omega
    simp [h1, h2, h3, h4, h5]
  rw [c0]
  simp only [x2_eq, x3_eq hl]
  have e1 : cut ([0, 0, 0, 0] ++ summed k t body) 4 (List.length ([0, 0, 0, 0] ++ summed k t body) : Int) = summed k t body := by
    unfold cut
    rw [Int.toNat_natCast, List.take_length]
    rfl
  have e2 : ∀ v, splL ([0, 0, 0, 0] ++ summed k t body) 0 (List.take (List.length ([0, 0, 0, 0] ++ summed k t body)) (lay v 4)) = lay v 4 ++ summed k t body := by
    intro v
    rw [List.take_of_length_le (by simp [lay_len])]
    unfold splL
    simp [lay_len]
  simp only [e1, e2, sum_eq (fu := fu) hsb (by omega) (by omega), Option.bind_some, lay4_eq (fu := fu) _ (by omega)]
  simp [hs, sealed]
theorem seal_no {fu : Nat} {k t : Int} {body : List Int} (h : k < 1 ∨ k > 255 ∨ t < 0 ∨ t > 255 ∨ body.length > 56) : block_Seal.f fu k t body = some ([], false) := by
  unfold block_Seal.f
  have c0 : (if (decide (k < 1)) = true then true else (if (decide (k ≥ 256)) = true then true else (if (decide (t < 0)) = true then true else (if (decide (t ≥ 256)) = true then true else (decide ((List.length body : Int) > 56)))))) = true := by
    by_cases h1 : k < 1
    · simp [h1]
    · by_cases h2 : k ≥ 256
      · simp [h2]
      · by_cases h3 : t < 0
        · simp [h3]
        · by_cases h4 : t ≥ 256
          · simp [h4]
          · have h5 : (List.length body : Int) > 56 := by omega
            simp [h5]
  rw [c0]
  rfl
theorem fill_eq {fu : Nat} {body : List Int} (hl : body.length ≤ 56) : rickyardref07_Fill.f fu (body.map toB) 56 = some ((body ++ List.replicate (56 - body.length) 0).map toB) := by
  unfold rickyardref07_Fill.f
  have e1 : mxI (IntKind.i64.wrap (56 - (List.length (body.map toB) : Int))) 0 = ((56 - body.length : Nat) : Int) := by
    rw [List.length_map, w64 (by omega) (by omega)]
    unfold mxI
    split <;> omega
  have hL : (100 : Nat) ≤ LIM := by decide
  rw [e1, Int.toNat_natCast, if_pos ⟨by omega, by omega⟩, if_pos (by simp only [List.length_map, List.length_replicate]; omega), List.map_append]
theorem rseal_eq {fu : Nat} {k t : Int} {body : List Int} (hb : Bytes body) (hk : 0 ≤ k ∧ k ≤ 255) (ht : 0 ≤ t ∧ t ≤ 255) (hl : body.length ≤ 56) (hf : 100 < fu) : rickyardref07_Seal.f fu k t (body.map toB) = some ((sealed (summed k t body)).map toB) := by
  have hs := summed_len (k := k) (t := t) hl
  have hsb := summed_bytes hk ht hb
  unfold rickyardref07_Seal.f
  rw [wu8 hk.1 hk.2, wu8 ht.1 ht.2]
  have e1 : List.map toB [k, t, 0, 0] ++ List.map toB (body ++ List.replicate (56 - body.length) 0) = (summed k t body).map toB := by
    rw [← List.map_append]
    rfl
  have hL : (100 : Nat) ≤ LIM := by decide
  have e2 : List.length (List.map toB [k, t, 0, 0]) + List.length (List.map toB (body ++ List.replicate (56 - body.length) 0)) ≤ LIM := by
    simp
    omega
  simp only [fill_eq (fu := fu) hl, Option.bind_some, e1, of_toB hsb, rsum_eq (fu := fu) hsb (by omega) (by omega), rlay4_eq (fu := fu) _ (by omega : 8 < fu)]
  rw [if_pos e2, if_pos (by simp [lay_len, hs]; omega)]
  simp [sealed]
theorem there_eq {fu : Nat} {b : List Int} {i n : Nat} (hl : b.length ≤ 9000000000000000000) (h : i + n ≤ b.length) : octet_there.f fu b (i : Int) (n : Int) = some true := by
  unfold octet_there.f
  have h1 : (i : Int) ≥ 0 := by omega
  have h2 : (n : Int) ≥ 0 := by omega
  have h3 : (n : Int) ≤ (b.length : Int) := by omega
  have h4 : IntKind.i64.wrap ((b.length : Int) - (n : Int)) = (b.length : Int) - (n : Int) := w64 (by omega) (by omega)
  have h5 : (i : Int) ≤ (b.length : Int) - (n : Int) := by omega
  simp [h1, h2, h3, h4, h5]
theorem noughts_from {fu : Nat} (b : List Int) (x n : Int) {C : List Int} (hC : cut b x (IntKind.i64.wrap (x + n)) = C) (hl : C.length ≤ 9000000000000000000) : ∀ k m, m ≤ C.length → C.length - m < k → loopM (octet_Noughts.s0 fu b x n) k (m : Int) = some (if ∀ y ∈ C.drop m, y = 0 then .inr () else .inl false)
  | 0, m, _, hk => by omega
  | k + 1, m, hm, hk => by
    unfold loopM
    by_cases e : m = C.length
    · subst e
      have : octet_Noughts.s0 fu b x n (C.length : Int) = some (.inl (.inr ())) := by
        unfold octet_Noughts.s0
        rw [hC]
        simp
      rw [this]
      simp
    · have hlt : m < C.length := by omega
      have hx : ix C (m : Int) = C[m] := ix_nat hlt
      rw [List.drop_eq_getElem_cons hlt]
      have h1 : (m : Int) < (C.length : Int) := by omega
      by_cases hn : C[m] = 0
      · have w3 : IntKind.i64.wrap ((m : Int) + 1) = ((m + 1 : Nat) : Int) := by rw [w64 (by omega) (by omega)]; omega
        have : octet_Noughts.s0 fu b x n (m : Int) = some (.inr ((m + 1 : Nat) : Int)) := by
          unfold octet_Noughts.s0
          rw [hC]
          simp [h1, hx, hn, w3, hlt]
        rw [this]
        simp only
        rw [noughts_from b x n hC hl k (m + 1) (by omega) (by omega)]
        have e3 : (∀ y ∈ C[m] :: C.drop (m + 1), y = 0) ↔ ∀ y ∈ C.drop (m + 1), y = 0 := by
          constructor
          · intro h y hy
            exact h y (List.mem_cons_of_mem _ hy)
          · intro h y hy
            rcases List.mem_cons.1 hy with rfl | hy
            · exact hn
            · exact h y hy
        simp only [e3]
      · have : octet_Noughts.s0 fu b x n (m : Int) = some (.inl (.inl false)) := by
          unfold octet_Noughts.s0
          rw [hC]
          simp [h1, hx, hn, hlt]
        rw [this]
        have e3 : ¬ (∀ y ∈ C[m] :: C.drop (m + 1), y = 0) := fun h => hn (h _ (List.mem_cons_self ..))
        simp only [e3, if_false]
theorem noughts_eq {fu : Nat} {b : List Int} {i n : Nat} (hl : b.length ≤ 9000000000000000000) (h : i + n ≤ b.length) (hf : n < fu) : octet_Noughts.f fu b (i : Int) (n : Int) = some (decide (∀ y ∈ (b.drop i).take n, y = 0)) := by
  unfold octet_Noughts.f
  rw [there_eq hl h]
  have w1 : IntKind.i64.wrap ((i : Int) + (n : Int)) = ((i + n : Nat) : Int) := by rw [w64 (by omega) (by omega)]; omega
  have hC : cut b (i : Int) (IntKind.i64.wrap ((i : Int) + (n : Int))) = (b.drop i).take n := by
    rw [w1]
    unfold cut
    rw [Int.toNat_natCast, Int.toNat_natCast, List.drop_take]
    congr 1
    omega
  have hlen : ((b.drop i).take n).length = n := by
    rw [List.length_take, List.length_drop]
    omega
  have := noughts_from (fu := fu) b (i : Int) (n : Int) hC (by omega) fu 0 (by omega) (by omega)
  rw [Int.natCast_zero, List.drop_zero] at this
  have c1 : 0 ≤ (i : Int) ∧ (i : Int) ≤ IntKind.i64.wrap ((i : Int) + (n : Int)) ∧ IntKind.i64.wrap ((i : Int) + (n : Int)) ≤ (b.length : Int) := by
    rw [w1]
    omega
  simp only [Option.bind_some, Bool.not_true, Bool.false_eq_true, if_false]
  rw [if_pos c1, this]
  by_cases hz : ∀ y ∈ (b.drop i).take n, y = 0
  · rw [if_pos hz]
    simp only [Option.bind_some, decide_eq_true hz]
  · rw [if_neg hz]
    simp only [Option.bind_some, decide_eq_false hz]
/-- Octets that are a block. -/
def Is (b : List Int) : Prop := b.length = 64 ∧ ix b 4 ≠ 0 ∧ b = sealed (summed (ix b 4) (ix b 5) (b.drop 8))
instance (b : List Int) : Decidable (Is b) := inferInstanceAs (Decidable (_ ∧ _))
theorem parts {b : List Int} (h : b.length = 64) : b = b.take 4 ++ ([ix b 4, ix b 5, ix b 6, ix b 7] ++ b.drop 8) := by
  have e : b.drop 4 = [ix b 4, ix b 5, ix b 6, ix b 7] ++ b.drop 8 := by
    have g : ∀ j : Nat, j < 64 → b.drop j = ix b (j : Int) :: b.drop (j + 1) := by
      intro j hj
      rw [List.drop_eq_getElem_cons (by omega), ix_nat (by omega)]
    rw [g 4 (by omega), g 5 (by omega), g 6 (by omega), g 7 (by omega)]
    rfl
  rw [← e, List.take_append_drop]
theorem gap_eq {b : List Int} (h : b.length = 64) : (b.drop 6).take 2 = [ix b 6, ix b 7] := by
  have g : ∀ j : Nat, j < 64 → b.drop j = ix b (j : Int) :: b.drop (j + 1) := by
    intro j hj
    rw [List.drop_eq_getElem_cons (by omega), ix_nat (by omega)]
  rw [g 6 (by omega), g 7 (by omega)]
  rfl
theorem drop4 {b : List Int} (h : b.length = 64) : b.drop 4 = [ix b 4, ix b 5, ix b 6, ix b 7] ++ b.drop 8 := by
  have g : ∀ j : Nat, j < 64 → b.drop j = ix b (j : Int) :: b.drop (j + 1) := by
    intro j hj
    rw [List.drop_eq_getElem_cons (by omega), ix_nat (by omega)]
  rw [g 4 (by omega), g 5 (by omega), g 6 (by omega), g 7 (by omega)]
  rfl
theorem summed_full (k t : Int) {body : List Int} (h : body.length = 56) : summed k t body = [k, t, 0, 0] ++ body := by
  unfold summed
  rw [h]
  simp
theorem is_iff {b : List Int} (hb : Bytes b) (h : b.length = 64) : b = sealed (summed (ix b 4) (ix b 5) (b.drop 8)) ↔ (ix b 6 = 0 ∧ ix b 7 = 0) ∧ num (b.take 4) = (crc (b.drop 4)).toNat := by
  have h8 : (b.drop 8).length = 56 := by rw [List.length_drop, h]
  have h4 : (b.take 4).length = 4 := by rw [List.length_take, h]; rfl
  rw [summed_full _ _ h8]
  constructor
  · intro e
    have e2 : b.take 4 ++ b.drop 4 = lay (crc ([ix b 4, ix b 5, 0, 0] ++ b.drop 8)).toNat 4 ++ ([ix b 4, ix b 5, 0, 0] ++ b.drop 8) := by
      rw [List.take_append_drop]
      exact e
    obtain ⟨e3, e4⟩ := List.append_inj e2 (by rw [h4, lay_len])
    have e5 := e4
    rw [drop4 h] at e5
    have e6 := List.append_inj_left e5 rfl
    simp only [List.cons.injEq, and_true, true_and] at e6
    refine ⟨e6, ?_⟩
    rw [e3, e4, num_lay]
    exact Nat.mod_eq_of_lt (crc _).isLt
  · rintro ⟨⟨h6, h7⟩, hn⟩
    have e4 : b.drop 4 = [ix b 4, ix b 5, 0, 0] ++ b.drop 8 := by
      have := drop4 h
      rw [h6, h7] at this
      exact this
    unfold sealed
    rw [← e4, ← hn]
    have := lay_num (hb.take 4)
    rw [h4] at this
    rw [this, List.take_append_drop]
theorem right_is {fu : Nat} {b : List Int} (hb : Bytes b) (hl : b.length ≤ 9000000000000000000) (hf : 100 < fu) : block_right.f fu b = some (decide (Is b)) := by
  unfold block_right.f
  by_cases h : b.length = 64
  · have hL : (b.length : Int) = 64 := by omega
    by_cases h4 : ix b 4 = 0
    · simp [hL, h4, Is]
    · have hn : octet_Noughts.f fu b 6 2 = some (decide (∀ y ∈ (b.drop 6).take 2, y = 0)) := noughts_eq (i := 6) (n := 2) hl (by omega) (by omega)
      have hg : (∀ y ∈ (b.drop 6).take 2, y = 0) ↔ ix b 6 = 0 ∧ ix b 7 = 0 := by
        rw [gap_eq h]
        simp
      by_cases hz : ix b 6 = 0 ∧ ix b 7 = 0
      · have c1 : cut b 0 4 = b.take 4 := by
          unfold cut
          rfl
        have c2 : cut b 4 (b.length : Int) = b.drop 4 := by
          unfold cut
          rw [Int.toNat_natCast, List.take_length]
          rfl
        have h4' : (b.take 4).length = 4 := by rw [List.length_take, h]; rfl
        have hr : octet_Read.f fu (b.take 4) = some ((num (b.take 4) : Nat) : Int) := read_eq (hb.take 4) (by omega) (by omega)
        have hlt : num (b.take 4) < 4294967296 := by
          have := num_lt (hb.take 4)
          rwa [h4'] at this
        have hd : (b.drop 4).length = 60 := by rw [List.length_drop, h]
        have hs : crc_Sum.f fu [b.drop 4] = some (I32 (crc (b.drop 4))) := sum_eq (hb.drop 4) (by omega) (by omega)
        have hw : IntKind.u32.wrap ((num (b.take 4) : Nat) : Int) = ((num (b.take 4) : Nat) : Int) := wu32 (by omega) (by omega)
        have hi : Is b ↔ num (b.take 4) = (crc (b.drop 4)).toNat := by
          unfold Is
          rw [is_iff hb h]
          exact ⟨fun x => x.2.2.2, fun x => ⟨h, h4, hz, x⟩⟩
        have hq : (I32 (crc (b.drop 4)) = ((num (b.take 4) : Nat) : Int)) ↔ Is b := by
          rw [hi]
          unfold I32
          omega
        unfold crc_Fits.f
        rw [hn, decide_eq_true (hg.2 hz), c1, c2, hr]
        simp only [Option.bind_some, hw, hs, hq]
        have hL5 : (4 : Int) < (b.length : Int) := by omega
        have hL6 : (4 : Int) ≤ (b.length : Int) := by omega
        simp [hL, h4]
      · have hi : ¬ Is b := by
          intro x
          unfold Is at x
          rw [is_iff hb h] at x
          exact hz x.2.2.1
        rw [hn, decide_eq_false (fun x => hz (hg.1 x))]
        simp [hL, h4, hi]
  · have hi : ¬ Is b := fun x => h x.1
    have hL : ¬ (b.length : Int) = 64 := by omega
    simp [hL, hi]
theorem open_eq {fu : Nat} {b : List Int} (hb : Bytes b) (hl : b.length ≤ 9000000000000000000) (hf : 100 < fu) : block_Open.f fu b = some (if Is b then (ix b 4, ix b 5, b.drop 8, true) else (0, 0, [], false)) := by
  unfold block_Open.f
  rw [right_is hb hl hf]
  by_cases h : Is b
  · have h0 := h.1
    have c2 : cut b 8 (b.length : Int) = b.drop 8 := by
      unfold cut
      rw [Int.toNat_natCast, List.take_length]
      rfl
    have hc : bytes_Clone.f fu (b.drop 8) = some (b.drop 8) := by
      unfold bytes_Clone.f
      rw [if_pos]
      rw [List.length_drop, h0]
      decide
    have h4 : 0 ≤ ix b 4 ∧ ix b 4 ≤ 255 := by
      have := ix_nat (l := b) (j := 4) (by omega)
      rw [show ((4 : Nat) : Int) = 4 from rfl] at this
      rw [this]
      exact hb _ (List.getElem_mem _)
    have h5 : 0 ≤ ix b 5 ∧ ix b 5 ≤ 255 := by
      have := ix_nat (l := b) (j := 5) (by omega)
      rw [show ((5 : Nat) : Int) = 5 from rfl] at this
      rw [this]
      exact hb _ (List.getElem_mem _)
    have w4 : IntKind.i64.wrap (ix b 4) = ix b 4 := w64 (by omega) (by omega)
    have w5 : IntKind.i64.wrap (ix b 5) = ix b 5 := w64 (by omega) (by omega)
    simp only [c2, hc, w4, w5]
    simp [h, h0]
  · simp [h]
theorem kind_eq {fu : Nat} {b : List Int} (hb : Bytes b) (hl : b.length ≤ 9000000000000000000) (hf : 100 < fu) : block_Kind.f fu b = some (if Is b then ix b 4 else 0) := by
  unfold block_Kind.f
  rw [right_is hb hl hf]
  by_cases h : Is b
  · have h0 := h.1
    have h4 : 0 ≤ ix b 4 ∧ ix b 4 ≤ 255 := by
      have := ix_nat (l := b) (j := 4) (by omega)
      rw [show ((4 : Nat) : Int) = 4 from rfl] at this
      rw [this]
      exact hb _ (List.getElem_mem _)
    have w4 : IntKind.i64.wrap (ix b 4) = ix b 4 := w64 (by omega) (by omega)
    simp [h, h0, w4]
  · simp [h]
theorem sealed_parts (k t : Int) (body : List Int) : ix (sealed (summed k t body)) 4 = k ∧ ix (sealed (summed k t body)) 5 = t ∧ (sealed (summed k t body)).drop 8 = body ++ List.replicate (56 - body.length) 0 := by
  unfold sealed
  obtain ⟨a, b, c, d, e⟩ : ∃ a b c d, lay (crc (summed k t body)).toNat 4 = [a, b, c, d] := ⟨_, _, _, _, rfl⟩
  rw [e]
  exact ⟨rfl, rfl, rfl⟩
theorem fulled (body : List Int) (h : body.length ≤ 56) : (body ++ List.replicate (56 - body.length) (0 : Int)).length = 56 := by
  simp
  omega
theorem is_sealed {k t : Int} {body : List Int} (hk : k ≠ 0) (hl : body.length ≤ 56) : Is (sealed (summed k t body)) := by
  obtain ⟨h4, h5, h8⟩ := sealed_parts k t body
  refine ⟨sealed_len (summed_len hl), by rw [h4]; exact hk, ?_⟩
  rw [h4, h5, h8, summed_full k t (fulled body hl)]
  rfl
theorem ix_byte {b : List Int} (hb : Bytes b) (j : Nat) (h : j < b.length) : 0 ≤ ix b (j : Int) ∧ ix b (j : Int) ≤ 255 := by
  rw [ix_nat h]
  exact hb _ (List.getElem_mem _)
theorem ropen_eq {fu : Nat} {b : List Int} (hb : Bytes b) (hf : 100 < fu) : rickyardref07_Open.f fu b = some (if Is b then (ix b 4, ix b 5, (b.drop 8).map toB, true) else (0, 0, [], false)) := by
  unfold rickyardref07_Open.f
  by_cases h : b.length = 64
  · have hL : (b.length : Int) = 64 := by omega
    have b4 := ix_byte hb 4 (by omega)
    have b5 := ix_byte hb 5 (by omega)
    rw [show ((4 : Nat) : Int) = 4 from rfl] at b4
    rw [show ((5 : Nat) : Int) = 5 from rfl] at b5
    have w4 : IntKind.i64.wrap (ix b 4) = ix b 4 := w64 (by omega) (by omega)
    have w5 : IntKind.i64.wrap (ix b 5) = ix b 5 := w64 (by omega) (by omega)
    have c2 : cut b 8 (b.length : Int) = b.drop 8 := by
      unfold cut
      rw [Int.toNat_natCast, List.take_length]
      rfl
    have h8 : (b.drop 8).length = 56 := by rw [List.length_drop, h]
    have hs : rickyardref07_Seal.f fu (ix b 4) (ix b 5) ((b.drop 8).map toB) = some ((sealed (summed (ix b 4) (ix b 5) (b.drop 8))).map toB) := rseal_eq (hb.drop 8) b4 b5 (by omega) hf
    have hq : (sealed (summed (ix b 4) (ix b 5) (b.drop 8))).map toB = b.map toB ↔ b = sealed (summed (ix b 4) (ix b 5) (b.drop 8)) :=
      (map_toB_iff (sealed_bytes (summed_bytes b4 b5 (hb.drop 8))) hb).trans ⟨Eq.symm, Eq.symm⟩
    rw [c2, w4, w5]
    by_cases h4 : ix b 4 = 0
    · have hi : ¬ Is b := fun x => x.2.1 h4
      simp [hL, h4, hi]
    · by_cases he : b = sealed (summed (ix b 4) (ix b 5) (b.drop 8))
      · have hi : Is b := ⟨h, h4, he⟩
        simp only [hs, hq.2 he]
        simp [hL, h4, hi]
      · have hi : ¬ Is b := fun x => he x.2.2
        have hne : ¬ (sealed (summed (ix b 4) (ix b 5) (b.drop 8))).map toB = b.map toB := fun x => he (hq.1 x)
        simp only [hs, hne]
        simp [hL, h4, hi]
        exact hne
  · have hi : ¬ Is b := fun x => h x.1
    have hL : ¬ (b.length : Int) = 64 := by omega
    simp [hL, hi]
theorem bytes_of {l : List Int} (h : ∀ x ∈ l, (Lit.int .u8 x).wf = true) : Bytes l := fun x hx => wf8.1 (h x hx)
end Go.Proofs.Ytjhajfkfhdnciaa.Pure

/- Blocks that are sealed anew; arrays filled place by place. -/
set_option linter.unusedVariables false
set_option linter.unusedSimpArgs false
namespace Go.Proofs.Ytjhajfkfhdnciaa.Pure
open Go Go.Xw
theorem summed_fulled (k t : Int) (body : List Int) (h : body.length ≤ 56) : summed k t body = summed k t (body ++ List.replicate (56 - body.length) 0) := by
  rw [summed_full k t (fulled body h)]
  rfl
theorem sealed_iff {b : List Int} (hi : Is b) {k t : Int} {body : List Int} (hl : body.length ≤ 56) : sealed (summed k t body) = b ↔ k = ix b 4 ∧ t = ix b 5 ∧ body ++ List.replicate (56 - body.length) 0 = b.drop 8 := by
  obtain ⟨p4, p5, p8⟩ := sealed_parts k t body
  constructor
  · intro e
    rw [← e]
    exact ⟨p4.symm, p5.symm, p8.symm⟩
  · rintro ⟨h1, h2, h3⟩
    rw [summed_fulled k t body hl, h1, h2, h3]
    exact hi.2.2.symm
theorem sealed_map_iff {b : List Int} (hb : Bytes b) (hi : Is b) {k t : Int} {body : List Int} (hk : 0 ≤ k ∧ k ≤ 255) (ht : 0 ≤ t ∧ t ≤ 255) (hbb : Bytes body) (hl : body.length ≤ 56) :
    (sealed (summed k t body)).map toB = b.map toB ↔ k = ix b 4 ∧ t = ix b 5 ∧ body ++ List.replicate (56 - body.length) 0 = b.drop 8 :=
  (map_toB_iff (sealed_bytes (summed_bytes hk ht hbb)) hb).trans (sealed_iff hi hl)
theorem is_tag {b : List Int} (hb : Bytes b) (hi : Is b) : (0 ≤ ix b 4 ∧ ix b 4 ≤ 255) ∧ (0 ≤ ix b 5 ∧ ix b 5 ≤ 255) := by
  have h0 := hi.1
  exact ⟨ix_byte hb 4 (by omega), ix_byte hb 5 (by omega)⟩
theorem is_body {b : List Int} (hi : Is b) : (b.drop 8).length = 56 := by rw [List.length_drop, hi.1]
theorem full_iff {body full : List Int} (hl : body.length ≤ 56) (hf : full.length = 56) : body ++ List.replicate (56 - body.length) 0 = full ↔ body = full.take body.length ∧ ∀ y ∈ full.drop body.length, y = 0 := by
  constructor
  · intro e
    subst e
    refine ⟨by simp, fun y hy => ?_⟩
    rw [List.drop_left' rfl] at hy
    exact List.eq_of_mem_replicate hy
  · rintro ⟨h1, h2⟩
    have h3 : full.drop body.length = List.replicate (56 - body.length) 0 := by
      apply List.eq_replicate_iff.2
      exact ⟨by rw [List.length_drop, hf], h2⟩
    rw [← h3]
    conv => lhs; lhs; rw [h1]
    exact List.take_append_drop _ _
/-! ### Arrays filled place by place -/
def fillA {n : Nat} {α : Type} (f : Nat → α) (a : Arr n α) : Nat → Arr n α
  | 0 => a
  | j + 1 => Arr.set (fillA f a j) (j : Int) (f j)
theorem fillA_l {n : Nat} {α : Type} (f : Nat → α) (a : Arr n α) : ∀ j, j ≤ n → (fillA f a j).l = (List.range j).map f ++ a.l.drop j
  | 0, _ => by simp [fillA]
  | j + 1, h => by
    have ih := fillA_l f a j (by omega)
    have ha := a.h
    show List.set (fillA f a j).l (Int.toNat (j : Int)) (f j) = _
    rw [ih, Int.toNat_natCast, List.set_append_right _ _ (by simp), List.length_map, List.length_range, Nat.sub_self, List.range_succ, List.map_append]
    rw [List.drop_eq_getElem_cons (by omega), List.set_cons_zero]
    simp
theorem fillA_all {n : Nat} {α : Type} (f : Nat → α) (a : Arr n α) : (fillA f a n).l = (List.range n).map f := by
  rw [fillA_l f a n (Nat.le_refl _)]
  have := a.h
  simp [← this]
theorem take_range {l : List Int} {n : Nat} (h : n ≤ l.length) : l.take n = (List.range n).map fun (j : Nat) => ix l (j : Int) := by
  apply List.ext_getElem
  · simp [h]
  · intro i h1 h2
    have hi : i < n := by simpa using h2
    simp [ix_nat (show i < l.length by omega)]
theorem getA {n : Nat} {α : Type} [Inhabited α] (a : Arr n α) {i : Nat} (hi : i < n) : Arr.get a (i : Int) = a.l[i]'(by rw [a.h]; exact hi) := by
  have hl : i < a.l.length := by rw [a.h]; exact hi
  simp [Arr.get, ix, List.getD_eq_getElem?_getD, List.getElem?_eq_getElem hl]
theorem lA {n : Nat} {α : Type} [Inhabited α] (a : Arr n α) : a.l = (List.range n).map fun (i : Nat) => Arr.get a (i : Int) := by
  apply List.ext_getElem
  · simp [a.h]
  · intro i h1 h2
    have hi : i < n := by rw [← a.h]; exact h1
    simp [getA a hi]
theorem getD_toB {l : List Int} (hb : Bytes l) {i : Nat} (h : i < l.length) : ofB (List.getD (l.map toB) (Int.toNat (i : Int)) 0) = ix l (i : Int) := by
  rw [Int.toNat_natCast, List.getD_eq_getElem?_getD, List.getElem?_map, List.getElem?_eq_getElem h, ix_nat h]
  have := of_toB (l := [l[i]]) (by intro x hx; obtain rfl := List.mem_singleton.1 hx; exact hb _ (List.getElem_mem h))
  simpa using this
end Go.Proofs.Ytjhajfkfhdnciaa.Pure

/- rickyard/rickyardref01.Number: its model, and that the Go function computes it: written by gen.py. -/
set_option linter.unusedVariables false
namespace Go.Proofs.Ytjhajfkfhdnciaa
open Go Go.Xw
def rickyardref01_Number.s0 (fu : Nat) (a0 : List UInt8) : (Int × Int) → Option (Sum Int (Int × Int)) := fun s1 => (if (decide (s1.2 ≥ 0)) = true then (((if (decide (s1.2 < 8)) = true then (if 0 ≤ s1.2 ∧ s1.2 < (List.length a0 : Int) then some ((IntKind.u64.wrap ((IntKind.u64.wrap (s1.1 * 256)) + (IntKind.u64.wrap (ofB (List.getD a0 (Int.toNat s1.2) 0)))))) else none) else some (s1.1)) : Option Int).bind fun x9 => some (Sum.inr (x9, (IntKind.i64.wrap (s1.2 - 1))))) else some (Sum.inl (s1.1)))
def rickyardref01_Number.f (fu : Nat) (a0 : List UInt8) : Option Int := ((loopM (rickyardref01_Number.s0 fu a0) fu (0, (IntKind.i64.wrap ((List.length a0 : Int) - 1)))).bind fun e2 => some (e2))
set_option maxRecDepth 100000 in
set_option maxHeartbeats 400000 in
theorem rickyardref01_Number.ok (fu : Nat) (w : World) (a0 : List UInt8) (r : Int) (h : rickyardref01_Number.f fu a0 = some r) :
    Calls Try.prog 136 (([sv a0] : List Value).toArray) w (fun e w' => ∃ v, e = .returned v ∧ v = .int .u64 r ∧ Gr w w') := by
  unfold rickyardref01_Number.f at h
  have fB : Gr w w := Fr.refl _ _
  refine calls_cw Try.func136 rfl Try.ntmps136 rfl ?_
  refine cw_seq ?_
  refine cw_region ?_
  refine ol_val (v := .int .u64 0) (by exact xr_assign rfl rfl) rfl rfl rfl ?_
  refine ol_nil ?_
  refine cw_seq ?_
  refine cw_region ?_
  refine ol_val (v := .int .u64 0) (by exact xr_assign rfl rfl) rfl rfl rfl ?_
  refine ol_nil ?_
  refine cw_seq ?_
  refine cw_seq ?_
  refine cw_region ?_
  refine ol_val (v := sv a0) (by exact xr_move rfl rfl) rfl rfl rfl ?_
  refine ol_val (v := .int .i64 (List.length a0 : Int)) (by exact xr_lenStr rfl Try.underlying9 rfl) rfl rfl rfl ?_
  refine ol_val (v := .int .i64 (IntKind.i64.wrap ((List.length a0 : Int) - 1))) (by exact xr_sub rfl rfl rfl) rfl rfl rfl ?_
  refine ol_val (v := .int .i64 (IntKind.i64.wrap ((List.length a0 : Int) - 1))) (by exact xr_assign rfl rfl) rfl rfl rfl ?_
  refine ol_nil ?_
  obtain ⟨e2, l3, h4⟩ := bs h
  refine cw_mid (fun ρ' w' => ρ' 3 = .int .u64 e2 ∧ Gr w w') ?_ ?_
  · refine cw_block ?_
    refine cw_round (fun (s1 : Int × Int) ρ' w' => ρ' 0 = sv a0 ∧ ρ' 3 = .int .u64 s1.1 ∧ ρ' 4 = .int .i64 s1.2 ∧ Gr w w') l3 ?_ ?_
    · skip
      exact ⟨rfl, rfl, rfl, fB⟩
    · rintro s1 x7 ρ5 w6 ⟨e0, e3, e4, fB⟩ h
      unfold rickyardref01_Number.s0 at h
      refine cw_seq ?_
      refine cw_seq ?_
      refine cw_region ?_
      refine ol_val (v := .int .i64 s1.2) (by exact xr_move rfl e4) rfl rfl rfl ?_
      refine ol_val (v := .bool (decide (s1.2 ≥ 0))) (by exact xr_geq rfl rfl rfl) rfl rfl rfl ?_
      refine ol_nil ?_
      rcases is h with ⟨c8, h⟩ | ⟨c8, h⟩
      · refine cw_condT rfl c8 ?_
        refine cw_skip ?_
        refine cw_seq ?_
        refine cw_block ?_
        refine cw_seq ?_
        refine cw_region ?_
        refine ol_val (v := .int .i64 s1.2) (by exact xr_move rfl e4) rfl rfl rfl ?_
        refine ol_val (v := .bool (decide (s1.2 < 8))) (by exact xr_lss rfl rfl rfl) rfl rfl rfl ?_
        refine ol_nil ?_
        obtain ⟨x9, j10, h11⟩ := bs h
        refine cw_mid (fun ρ' w' => ρ' 0 = sv a0 ∧ ρ' 3 = .int .u64 x9 ∧ ρ' 4 = .int .i64 s1.2 ∧ Gr w w') ?_ ?_
        · have h := j10
          rcases is h with ⟨c12, h⟩ | ⟨c12, h⟩
          · refine cw_condT rfl c12 ?_
            refine cw_region ?_
            refine ol_val (v := .int .u64 s1.1) (by exact xr_move rfl e3) rfl rfl rfl ?_
            refine ol_val (v := .int .u64 (IntKind.u64.wrap (s1.1 * 256))) (by exact xr_mul rfl rfl rfl) rfl rfl rfl ?_
            refine ol_val (v := sv a0) (by exact xr_move rfl e0) rfl rfl rfl ?_
            refine ol_val (v := .int .i64 s1.2) (by exact xr_move rfl e4) rfl rfl rfl ?_
            obtain ⟨g13, h⟩ := gs h
            refine ol_val (v := .int .u8 (ofB (List.getD a0 (Int.toNat s1.2) 0))) (by exact xr_indexStr rfl Try.underlying9 rfl rfl g13.1 g13.2) rfl rfl rfl ?_
            refine ol_val (v := .int .u64 (IntKind.u64.wrap (ofB (List.getD a0 (Int.toNat s1.2) 0)))) (by exact xr_conv rfl Try.underlying5 Try.underlying129 rfl) rfl rfl rfl ?_
            refine ol_val (v := .int .u64 (IntKind.u64.wrap ((IntKind.u64.wrap (s1.1 * 256)) + (IntKind.u64.wrap (ofB (List.getD a0 (Int.toNat s1.2) 0)))))) (by exact xr_add rfl rfl rfl) rfl rfl rfl ?_
            refine ol_val (v := .int .u64 (IntKind.u64.wrap ((IntKind.u64.wrap (s1.1 * 256)) + (IntKind.u64.wrap (ofB (List.getD a0 (Int.toNat s1.2) 0)))))) (by exact xr_assign rfl rfl) rfl rfl rfl ?_
            refine ol_nil ?_
            obtain rfl := Option.some.inj h
            refine thn_i ?_
            exact ⟨e0, rfl, e4, fB⟩
          · refine cw_condF rfl c12 ?_
            refine cw_skip ?_
            obtain rfl := Option.some.inj h
            refine thn_i ?_
            exact ⟨e0, e3, e4, fB⟩
        · rintro ρ14 w15 ⟨e0, e3, e4, fB⟩
          have h := h11
          refine blk_i ?_
          refine cw_region ?_
          refine ol_val (v := .int .i64 s1.2) (by exact xr_move rfl e4) rfl rfl rfl ?_
          refine ol_val (v := .int .i64 (IntKind.i64.wrap (s1.2 - 1))) (by exact xr_sub rfl rfl rfl) rfl rfl rfl ?_
          refine ol_val (v := .int .i64 (IntKind.i64.wrap (s1.2 - 1))) (by exact xr_assign rfl rfl) rfl rfl rfl ?_
          refine ol_nil ?_
          obtain rfl := Option.some.inj h
          refine lp_in ?_
          exact ⟨e0, e3, rfl, fB⟩
      · refine cw_condF rfl c8 ?_
        refine cw_exit ?_
        repeat (first | with_reducible refine thn_e ?_ | with_reducible refine blk_e rfl ?_)
        obtain rfl := Option.some.inj h
        refine lp_exit ?_
        rintro rfl
        refine thn_x ?_
        exact ⟨e3, fB⟩
  · rintro ρ16 w17 ⟨e3, fB⟩
    have h := h4
    refine cw_seq ?_
    refine cw_region ?_
    refine ol_val (v := .int .u64 e2) (by exact xr_move rfl e3) rfl rfl rfl ?_
    refine ol_val (v := .int .u64 e2) (by exact xr_assign rfl rfl) rfl rfl rfl ?_
    refine ol_nil ?_
    refine cw_ret ?_
    repeat (first | with_reducible refine thn_r ?_ | with_reducible refine blk_r ?_)
    obtain rfl := Option.some.inj h
    refine fin_ret1 Try.results136 rfl ?_
    exact ⟨_, rfl, rfl, fB⟩
end Go.Proofs.Ytjhajfkfhdnciaa

/- rickyard/rickyardref01.Int: its model, and that the Go function computes it: written by gen.py. -/
set_option linter.unusedVariables false
namespace Go.Proofs.Ytjhajfkfhdnciaa
open Go Go.Xw
def rickyardref01_Int.f (fu : Nat) (a0 : List UInt8) : Option Int := ((rickyardref01_Number.f fu a0 : Option Int).bind fun t1 => some ((IntKind.i64.wrap t1)))
set_option maxRecDepth 100000 in
set_option maxHeartbeats 400000 in
theorem rickyardref01_Int.ok (fu : Nat) (w : World) (a0 : List UInt8) (r : Int) (h : rickyardref01_Int.f fu a0 = some r) :
    Calls Try.prog 103 (([sv a0] : List Value).toArray) w (fun e w' => ∃ v, e = .returned v ∧ v = .int .i64 r ∧ Gr w w') := by
  unfold rickyardref01_Int.f at h
  have fB : Gr w w := Fr.refl _ _
  refine calls_cw Try.func103 rfl Try.ntmps103 rfl ?_
  refine cw_seq ?_
  refine cw_region ?_
  refine ol_val (v := .int .i64 0) (by exact xr_assign rfl rfl) rfl rfl rfl ?_
  refine ol_nil ?_
  refine cw_seq ?_
  refine cw_region ?_
  refine ol_val (v := sv a0) (by exact xr_move rfl rfl) rfl rfl rfl ?_
  obtain ⟨t1, k2, h⟩ := bs h
  refine ol_op (by exact opv_call rfl cal136 (ac rfl an) (rickyardref01_Number.ok fu _ a0 _ k2)) rfl rfl rfl ?_
  rintro _ w4 ⟨rfl, q3⟩
  have fB := fB.gr q3
  refine ol_val (v := .int .i64 (IntKind.i64.wrap t1)) (by exact xr_conv rfl Try.underlying129 Try.underlying3 rfl) rfl rfl rfl ?_
  refine ol_val (v := .int .i64 (IntKind.i64.wrap t1)) (by exact xr_assign rfl rfl) rfl rfl rfl ?_
  refine ol_nil ?_
  refine cw_ret ?_
  repeat (first | with_reducible refine thn_r ?_ | with_reducible refine blk_r ?_)
  obtain rfl := Option.some.inj h
  refine fin_ret1 Try.results103 rfl ?_
  exact ⟨_, rfl, rfl, fB⟩
end Go.Proofs.Ytjhajfkfhdnciaa

/- Numbers laid as octets and read again, as the program and the document do it. -/
set_option linter.unusedVariables false
set_option linter.unusedSimpArgs false
namespace Go.Proofs.Ytjhajfkfhdnciaa.Pure
open Go Go.Xw
def u64n (x : Int) : Nat := (x % 18446744073709551616).toNat
theorem u64_wrap (x : Int) : IntKind.u64.wrap x = (u64n x : Int) := by
  unfold u64n IntKind.wrap
  simp only [IntKind.signed, IntKind.bits]
  simp
  omega
theorem u64n_lt (x : Int) : u64n x < 18446744073709551616 := by
  unfold u64n
  omega
theorem u64n_of {x : Int} (h0 : 0 ≤ x) (h1 : x ≤ 18446744073709551615) : u64n x = x.toNat := by
  unfold u64n
  rw [Int.emod_eq_of_lt h0 (by omega)]
theorem i64_u64 {x : Int} (h0 : -9223372036854775808 ≤ x) (h1 : x ≤ 9223372036854775807) : IntKind.i64.wrap (u64n x : Int) = x := by
  unfold u64n IntKind.wrap
  simp only [IntKind.signed, IntKind.bits]
  simp
  split <;> omega
theorem olay64 {fu n : Nat} {x : Int} (hn : n ≤ 8) (hf : n < fu) : octet_Lay.f fu (IntKind.u64.wrap x) (n : Int) = some (lay (u64n x) n) := by
  rw [u64_wrap]
  exact olay_eq hn hf
theorem rlay64 {fu n : Nat} {x : Int} (hn : n ≤ 8) (hf : n < fu) : rickyardref01_Lay.f fu (IntKind.u64.wrap x) (n : Int) = some ((lay (u64n x) n).map toB) := by
  rw [u64_wrap]
  exact rlay_eq (u64n_lt x) hn hf
theorem num_lt8 {l : List Int} (hb : Bytes l) (hl : l.length ≤ 8) : num l < 18446744073709551616 := by
  have h1 := num_lt hb
  have h2 : (256 : Nat) ^ l.length ≤ 256 ^ 8 := Nat.pow_le_pow_right (by decide) hl
  have h3 : (256 : Nat) ^ 8 = 18446744073709551616 := by decide
  omega
theorem rnumber_eq {fu : Nat} {l : List Int} (hb : Bytes l) (hl : l.length ≤ 8) (hf : l.length < fu) : rickyardref01_Number.f fu (l.map toB) = some ((num l : Nat) : Int) := by
  unfold rickyardref01_Number.f
  have w0 : IntKind.i64.wrap (((l.map toB).length : Int) - 1) = (l.length : Int) - 1 := by rw [List.length_map, w64 (by omega) (by omega)]
  rw [w0]
  have : loopM (rickyardref01_Number.s0 fu (l.map toB)) fu (0, (l.length : Int) - 1) = some ((num l : Nat) : Int) := by
    refine loopM_run (S := fun j => (((num (l.drop (l.length - j)) : Nat) : Int), (l.length : Int) - 1 - (j : Int))) l.length (by simp [num]) ?_ ?_ hf
    · intro j hj
      unfold rickyardref01_Number.s0
      obtain ⟨i, hi⟩ : ∃ i : Nat, l.length - j = i + 1 := ⟨l.length - j - 1, by omega⟩
      have e1 : (l.length : Int) - 1 - (j : Int) = (i : Int) := by omega
      have hil : i < l.length := by omega
      have e2 : l.length - (j + 1) = i := by omega
      have c1 : (i : Int) ≥ 0 := by omega
      have c2 : (i : Int) < 8 := by omega
      have c3 : True ∧ (i : Int) < ((l.map toB).length : Int) := ⟨trivial, by rw [List.length_map]; omega⟩
      have w1 : IntKind.i64.wrap ((i : Int) - 1) = (l.length : Int) - 1 - ((j + 1 : Nat) : Int) := by rw [w64 (by omega) (by omega)]; omega
      have hcb := hb _ (List.getElem_mem hil)
      obtain ⟨c, hc⟩ : ∃ c : Nat, l[i] = (c : Int) := ⟨l[i].toNat, by omega⟩
      have hd : l.drop i = l[i] :: l.drop (i + 1) := List.drop_eq_getElem_cons hil
      have hn : num (l.drop i) = c + 256 * num (l.drop (i + 1)) := by rw [hd, num, hc, Int.toNat_natCast]
      have hlt := num_lt8 (hb.drop i) (by rw [List.length_drop]; omega)
      rw [hn] at hlt
      have w2 : IntKind.u64.wrap (((num (l.drop (i + 1)) : Nat) : Int) * 256) = ((num (l.drop (i + 1)) : Nat) : Int) * 256 := wu64 (by omega) (by omega)
      have w3 : IntKind.u64.wrap (ix l (i : Int)) = (c : Int) := by rw [ix_nat hil, hc, wu64 (by omega) (by omega)]
      have w4 : IntKind.u64.wrap (((num (l.drop (i + 1)) : Nat) : Int) * 256 + (c : Int)) = ((num (l.drop i) : Nat) : Int) := by rw [wu64 (by omega) (by omega), hn]; omega
      simp only [e1, hi, e2, getD_toB hb hil, w1, w2, w3, w4, c1, c2, decide_true, if_true]
      rw [if_pos c3]
      rfl
    · unfold rickyardref01_Number.s0
      have : ¬ (l.length : Int) - 1 - (l.length : Int) ≥ 0 := by omega
      simp only [this]
      simp
  rw [this]
  rfl
theorem rint_eq {fu : Nat} {l : List Int} (hb : Bytes l) (hl : l.length ≤ 8) (hf : l.length < fu) : rickyardref01_Int.f fu (l.map toB) = some (IntKind.i64.wrap ((num l : Nat) : Int)) := by
  unfold rickyardref01_Int.f
  rw [rnumber_eq hb hl hf]
  rfl
theorem num_small {l : List Int} (hb : Bytes l) (hl : l.length ≤ 7) : IntKind.i64.wrap ((num l : Nat) : Int) = ((num l : Nat) : Int) := by
  have h1 := num_lt hb
  have h2 : (256 : Nat) ^ l.length ≤ 256 ^ 7 := Nat.pow_le_pow_right (by decide) hl
  have h3 : (256 : Nat) ^ 7 = 72057594037927936 := by decide
  exact w64 (by omega) (by omega)
/-! ### Rows of fields of one width -/
/-- The i-th field of w octets. -/
def fieldAt (l : List Int) (w i : Nat) : List Int := (l.drop (w * i)).take w
theorem fieldAt_len {l : List Int} {w i n : Nat} (h : w * n ≤ l.length) (hi : i < n) : (fieldAt l w i).length = w := by
  have : w * (i + 1) ≤ w * n := Nat.mul_le_mul_left w hi
  rw [Nat.mul_succ] at this
  unfold fieldAt
  rw [List.length_take, List.length_drop]
  omega
theorem fieldAt_bytes {l : List Int} (hb : Bytes l) (w i : Nat) : Bytes (fieldAt l w i) := (hb.drop _).take _
theorem cut_eq (l : List Int) (i n : Nat) : cut l (i : Int) ((i + n : Nat) : Int) = (l.drop i).take n := by
  unfold cut
  rw [Int.toNat_natCast, Int.toNat_natCast, List.drop_take]
  congr 1
  omega
theorem flat_len {α : Type} {g : Nat → List α} {w : Nat} (hg : ∀ i, (g i).length = w) : ∀ n, ((List.range n).flatMap g).length = w * n
  | 0 => by simp
  | n + 1 => by
    rw [List.range_succ, List.flatMap_append, List.length_append, flat_len hg n]
    simp [hg, Nat.mul_succ]
theorem flat_succ {α : Type} (g : Nat → List α) (n : Nat) : (List.range (n + 1)).flatMap g = (List.range n).flatMap g ++ g n := by
  rw [List.range_succ, List.flatMap_append]
  simp
theorem flat_field {g : Nat → List Int} {w : Nat} (hg : ∀ i, (g i).length = w) {n i : Nat} (hi : i < n) (t : List Int) : fieldAt ((List.range n).flatMap g ++ t) w i = g i := by
  have e : (List.range n).flatMap g = (List.range i).flatMap g ++ (g i ++ ((List.range (n - i - 1)).map (i + 1 + ·)).flatMap g) := by
    have h1 : n = i + (1 + (n - i - 1)) := by omega
    conv => lhs; rw [h1]
    rw [List.range_add, List.flatMap_append, List.range_add, List.map_append, List.flatMap_append]
    congr 1
    simp [List.map_map, Function.comp_def, Nat.add_assoc]
  unfold fieldAt
  rw [e, List.append_assoc, List.drop_left' (flat_len hg i), List.append_assoc, List.take_left' (hg i)]
theorem field_flat {l : List Int} {w : Nat} : ∀ n, w * n ≤ l.length → (List.range n).flatMap (fieldAt l w) = l.take (w * n)
  | 0, _ => by simp
  | n + 1, h => by
    rw [Nat.mul_succ] at h
    rw [flat_succ, field_flat n (by omega), Nat.mul_succ, List.take_add]
    rfl
theorem flat_congr {α : Type} {g k : Nat → List α} {n : Nat} (h : ∀ i, i < n → g i = k i) : (List.range n).flatMap g = (List.range n).flatMap k := by
  induction n with
  | zero => rfl
  | succ n ih => rw [flat_succ, flat_succ, ih fun i hi => h i (by omega), h n (by omega)]
theorem flat_bytes {g : Nat → List Int} (hg : ∀ i, Bytes (g i)) (n : Nat) : Bytes ((List.range n).flatMap g) := by
  intro x hx
  obtain ⟨i, _, h⟩ := List.mem_flatMap.1 hx
  exact hg i x h
theorem flat_map {g : Nat → List Int} (n : Nat) : ((List.range n).flatMap g).map toB = (List.range n).flatMap fun i => (g i).map toB := by
  induction n with
  | zero => rfl
  | succ n ih => rw [flat_succ, flat_succ, List.map_append, ih]
end Go.Proofs.Ytjhajfkfhdnciaa.Pure

/- slices.Equal[[]int,int]: its model, and that the Go function computes it: written by gen.py. -/
set_option linter.unusedVariables false
namespace Go.Proofs.Ytjhajfkfhdnciaa
open Go Go.Xw
def slices_Equal.s0 (fu : Nat) (a0 : List Int) (a1 : List Int) : Int → Option (Sum (Sum Bool Unit) Int) := fun s2 => (if (decide (s2 < (List.length a0 : Int))) = true then (if 0 ≤ s2 ∧ s2 < (List.length a0 : Int) then (if 0 ≤ s2 ∧ s2 < (List.length a1 : Int) then (if (!decide ((ix a0 s2) = (ix a1 s2))) = true then some (Sum.inl (Sum.inl (false))) else some (Sum.inr ((IntKind.i64.wrap (s2 + 1))))) else none) else none) else some (Sum.inl (Sum.inr ())))
def slices_Equal.f (fu : Nat) (a0 : List Int) (a1 : List Int) : Option Bool := (if (!decide ((List.length a0 : Int) = (List.length a1 : Int))) = true then some (false) else ((loopM (slices_Equal.s0 fu a0 a1) fu (0)).bind fun e3 => match e3 with | Sum.inl p => some p | Sum.inr x6 => some (true)))
set_option maxRecDepth 100000 in
set_option maxHeartbeats 400000 in
theorem slices_Equal.ok (fu : Nat) (w : World) (a0 : List Int) (V0_0 : Value) (R0_0 : Rd (kI .i64) w V0_0 a0) (a1 : List Int) (V1_0 : Value) (R1_0 : Rd (kI .i64) w V1_0 a1) (r : Bool) (h : slices_Equal.f fu a0 a1 = some r) :
    Calls Try.prog 110 (([V0_0, V1_0] : List Value).toArray) w (fun e w' => ∃ v, e = .returned v ∧ v = .bool r ∧ Gr w w') := by
  unfold slices_Equal.f at h
  have fB : Gr w w := Fr.refl _ _
  refine calls_cw Try.func110 rfl Try.ntmps110 rfl ?_
  refine cw_seq ?_
  refine cw_region ?_
  refine ol_val (v := .bool false) (by exact xr_assign rfl rfl) rfl rfl rfl ?_
  refine ol_nil ?_
  refine cw_seq ?_
  refine cw_seq ?_
  refine cw_region ?_
  refine ol_val (v := V0_0) (by exact xr_move rfl rfl) rfl rfl rfl ?_
  refine ol_val (v := .int .i64 (List.length a0 : Int)) (by exact xr_lenR rfl Try.underlying45 rfl (R0_0.gr fB)) rfl rfl rfl ?_
  refine ol_val (v := V1_0) (by exact xr_move rfl rfl) rfl rfl rfl ?_
  refine ol_val (v := .int .i64 (List.length a1 : Int)) (by exact xr_lenR rfl Try.underlying45 rfl (R1_0.gr fB)) rfl rfl rfl ?_
  refine ol_val (v := .bool (!decide ((List.length a0 : Int) = (List.length a1 : Int)))) (by exact xr_neI rfl Try.underlying3 rfl rfl rfl) rfl rfl rfl ?_
  refine ol_nil ?_
  rcases is h with ⟨c1, h⟩ | ⟨c1, h⟩
  · refine cw_condT rfl c1 ?_
    refine cw_seq ?_
    refine cw_region ?_
    refine ol_val (v := .bool false) (by exact xr_assign rfl rfl) rfl rfl rfl ?_
    refine ol_nil ?_
    refine cw_ret ?_
    repeat (first | with_reducible refine thn_r ?_ | with_reducible refine blk_r ?_)
    obtain rfl := Option.some.inj h
    refine fin_ret1 Try.results110 rfl ?_
    exact ⟨_, rfl, rfl, fB⟩
  · refine cw_condF rfl c1 ?_
    refine cw_skip ?_
    refine cw_seq ?_
    refine cw_seq ?_
    refine cw_region ?_
    refine ol_val (v := V0_0) (by exact xr_move rfl rfl) rfl rfl rfl ?_
    refine ol_val (v := .int .i64 (List.length a0 : Int)) (by exact xr_lenR rfl Try.underlying45 rfl (R0_0.gr fB)) rfl rfl rfl ?_
    refine ol_val (v := .int .i64 0) (by exact xr_move rfl rfl) rfl rfl rfl ?_
    refine ol_nil ?_
    obtain ⟨e3, l4, h5⟩ := bs h
    refine cw_mid (fun ρ' w' => ∃ x6, e3 = Sum.inr x6 ∧ Gr w w') ?_ ?_
    · refine cw_block ?_
      refine cw_round (fun (s2 : Int) ρ' w' => ρ' 0 = V0_0 ∧ ρ' 1 = V1_0 ∧ ρ' 12 = .int .i64 (List.length a0 : Int) ∧ ρ' 13 = .int .i64 s2 ∧ Gr w w') l4 ?_ ?_
      · skip
        exact ⟨rfl, rfl, rfl, rfl, fB⟩
      · rintro s2 x9 ρ7 w8 ⟨e0, e1, e12, e13, fB⟩ h
        unfold slices_Equal.s0 at h
        refine cw_seq ?_
        refine cw_region ?_
        refine ol_val (v := .bool (decide (s2 < (List.length a0 : Int)))) (by exact xr_lss rfl e13 e12) rfl rfl rfl ?_
        refine ol_nil ?_
        refine cw_seq ?_
        rcases is h with ⟨c10, h⟩ | ⟨c10, h⟩
        · refine cw_condT rfl c10 ?_
          refine cw_skip ?_
          refine cw_seq ?_
          refine cw_block ?_
          refine cw_seq ?_
          refine cw_region ?_
          refine ol_val (v := .int .i64 s2) (by exact xr_move rfl e13) rfl rfl rfl ?_
          refine ol_val (v := .int .i64 s2) (by exact xr_assign rfl rfl) rfl rfl rfl ?_
          refine ol_nil ?_
          refine cw_seq ?_
          obtain ⟨g11, h⟩ := gs h
          obtain ⟨g12, h⟩ := gs h
          refine cw_drawL 8 [fun vz wz => vz = (V0_0 : Value), fun vz wz => vz = (.int .i64 s2 : Value), fun vz wz => vz = (.pointer (some ⟨(sb V0_0), so V0_0 + Int.toNat s2 * 1, none⟩) : Value), fun vz wz => vz = (.int .i64 (ix a0 s2) : Value), fun vz wz => vz = (V1_0 : Value), fun vz wz => vz = (.int .i64 s2 : Value), fun vz wz => vz = (.pointer (some ⟨(sb V1_0), so V1_0 + Int.toNat s2 * 1, none⟩) : Value), fun vz wz => vz = (.int .i64 (ix a1 s2) : Value)] mo rfl ⟨fun _ _ _ h _ => h, fun _ _ _ h _ => h, fun _ _ _ h _ => h, fun _ _ _ h _ => h, fun _ _ _ h _ => h, fun _ _ _ h _ => h, fun _ _ _ h _ => h, fun _ _ _ h _ => h, trivial⟩ ?_ ?_
          · refine ⟨?_, ?_, ?_, ?_, ?_, ?_, ?_, ?_, trivial⟩
            · intro ρz wz hz hk hd
              exact sk_val (v := V0_0) (by exact xr_move rfl ((hk 0 rfl).trans e0)) rfl rfl
            · intro ρz wz hz hk hd
              exact sk_val (v := .int .i64 s2) (by exact xr_move rfl ((hk 5 rfl).trans rfl)) rfl rfl
            · intro ρz wz hz hk hd
              have d16 := hd 0 rfl 16 rfl
              have d17 := hd 1 rfl 17 rfl
              exact sk_val (by exact xr_indexR (K := (kI .i64)) (v := V0_0) rfl Try.underlying45 sz3 d16 (R0_0.gr (fB.gr hz)) d17 g11.1 g11.2) rfl rfl
            · intro ρz wz hz hk hd
              have d18 := hd 2 rfl 18 rfl
              exact sk_val (v := .int .i64 (ix a0 s2)) (by exact xr_load1 (v := .int .i64 (ix a0 s2)) rfl ag3 d18 ((R0_0.gr (fB.gr hz)).elem g11.1 g11.2)) rfl rfl
            · intro ρz wz hz hk hd
              exact sk_val (v := V1_0) (by exact xr_move rfl ((hk 1 rfl).trans e1)) rfl rfl
            · intro ρz wz hz hk hd
              exact sk_val (v := .int .i64 s2) (by exact xr_move rfl ((hk 5 rfl).trans rfl)) rfl rfl
            · intro ρz wz hz hk hd
              have d20 := hd 4 rfl 20 rfl
              have d21 := hd 5 rfl 21 rfl
              exact sk_val (by exact xr_indexR (K := (kI .i64)) (v := V1_0) rfl Try.underlying45 sz3 d20 (R1_0.gr (fB.gr hz)) d21 g12.1 g12.2) rfl rfl
            · intro ρz wz hz hk hd
              have d22 := hd 6 rfl 22 rfl
              exact sk_val (v := .int .i64 (ix a1 s2)) (by exact xr_load1 (v := .int .i64 (ix a1 s2)) rfl ag3 d22 ((R1_0.gr (fB.gr hz)).elem g12.1 g12.2)) rfl rfl
          · intro ρ13 w14 q15 hk hd
            have e0 := (hk 0 rfl).trans e0
            have e1 := (hk 1 rfl).trans e1
            have e12 := (hk 12 rfl).trans e12
            have e13 := (hk 13 rfl).trans e13
            have e19 := hd 3 rfl 19 rfl
            have e23 := hd 7 rfl 23 rfl
            have fB := fB.gr q15
            refine ol_val (v := .bool (!decide ((ix a0 s2) = (ix a1 s2)))) (by exact xr_neI rfl Try.underlying3 rfl e19 e23) rfl rfl rfl ?_
            refine ol_nil ?_
            rcases is h with ⟨c16, h⟩ | ⟨c16, h⟩
            · refine cw_condT rfl c16 ?_
              refine cw_seq ?_
              refine cw_region ?_
              refine ol_val (v := .bool false) (by exact xr_assign rfl rfl) rfl rfl rfl ?_
              refine ol_nil ?_
              refine cw_ret ?_
              repeat (first | with_reducible refine thn_r ?_ | with_reducible refine blk_r ?_)
              obtain rfl := Option.some.inj h
              refine lp_ret ?_
              rintro rfl
              repeat (first | with_reducible refine thn_r ?_ | with_reducible refine blk_r ?_)
              have h := h5
              obtain rfl := Option.some.inj h
              refine fin_ret1 Try.results110 rfl ?_
              exact ⟨_, rfl, rfl, fB⟩
            · refine cw_condF rfl c16 ?_
              refine cw_skip ?_
              refine blk_i ?_
              refine cw_region ?_
              refine ol_val (v := .int .i64 (IntKind.i64.wrap (s2 + 1))) (by exact xr_add rfl e13 rfl) rfl rfl rfl ?_
              refine ol_val (v := .int .i64 (IntKind.i64.wrap (s2 + 1))) (by exact xr_move rfl rfl) rfl rfl rfl ?_
              refine ol_nil ?_
              obtain rfl := Option.some.inj h
              refine lp_in ?_
              exact ⟨e0, e1, e12, rfl, fB⟩
        · refine cw_condF rfl c10 ?_
          refine cw_exit ?_
          repeat (first | with_reducible refine thn_e ?_ | with_reducible refine blk_e rfl ?_)
          obtain rfl := Option.some.inj h
          refine lp_exit ?_
          rintro rfl
          refine thn_x ?_
          exact ⟨_, rfl, fB⟩
    · rintro ρ17 w18 ⟨x6, rfl, fB⟩
      have h := h5
      refine cw_seq ?_
      refine cw_region ?_
      refine ol_val (v := .bool true) (by exact xr_assign rfl rfl) rfl rfl rfl ?_
      refine ol_nil ?_
      refine cw_ret ?_
      repeat (first | with_reducible refine thn_r ?_ | with_reducible refine blk_r ?_)
      obtain rfl := Option.some.inj h
      refine fin_ret1 Try.results110 rfl ?_
      exact ⟨_, rfl, rfl, fB⟩
end Go.Proofs.Ytjhajfkfhdnciaa
