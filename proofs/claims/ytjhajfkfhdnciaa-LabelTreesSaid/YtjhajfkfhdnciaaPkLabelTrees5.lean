/- LabelTrees: texts merged, part 5 of 6. The last part proves that the law LabelTrees holds for every input. -/
import Derived.Test.YtjhajfkfhdnciaaPkLabelTrees4
/- rickyard/rickyardref04.Of: its model, and that the Go function computes it: written by gen.py. -/
set_option linter.unusedVariables false
namespace Go.Proofs.Ytjhajfkfhdnciaa
open Go Go.Xw
def rickyardref04_Of.f (fu : Nat) (a0 : Int) : Option Bool := some ((if (decide (a0 ≥ 97)) = true then (if (decide (a0 ≤ 122)) = true then true else (if (decide (a0 ≥ 65)) = true then (if (decide (a0 ≤ 90)) = true then true else (if (decide (a0 ≥ 48)) = true then (if (decide (a0 ≤ 57)) = true then true else (if (decide (a0 = 45)) = true then true else (if (decide (a0 = 95)) = true then true else (if (decide (a0 ≥ 161)) = true then (decide (a0 ≤ 65519)) else false)))) else (if (decide (a0 = 45)) = true then true else (if (decide (a0 = 95)) = true then true else (if (decide (a0 ≥ 161)) = true then (decide (a0 ≤ 65519)) else false))))) else (if (decide (a0 ≥ 48)) = true then (if (decide (a0 ≤ 57)) = true then true else (if (decide (a0 = 45)) = true then true else (if (decide (a0 = 95)) = true then true else (if (decide (a0 ≥ 161)) = true then (decide (a0 ≤ 65519)) else false)))) else (if (decide (a0 = 45)) = true then true else (if (decide (a0 = 95)) = true then true else (if (decide (a0 ≥ 161)) = true then (decide (a0 ≤ 65519)) else false)))))) else (if (decide (a0 ≥ 65)) = true then (if (decide (a0 ≤ 90)) = true then true else (if (decide (a0 ≥ 48)) = true then (if (decide (a0 ≤ 57)) = true then true else (if (decide (a0 = 45)) = true then true else (if (decide (a0 = 95)) = true then true else (if (decide (a0 ≥ 161)) = true then (decide (a0 ≤ 65519)) else false)))) else (if (decide (a0 = 45)) = true then true else (if (decide (a0 = 95)) = true then true else (if (decide (a0 ≥ 161)) = true then (decide (a0 ≤ 65519)) else false))))) else (if (decide (a0 ≥ 48)) = true then (if (decide (a0 ≤ 57)) = true then true else (if (decide (a0 = 45)) = true then true else (if (decide (a0 = 95)) = true then true else (if (decide (a0 ≥ 161)) = true then (decide (a0 ≤ 65519)) else false)))) else (if (decide (a0 = 45)) = true then true else (if (decide (a0 = 95)) = true then true else (if (decide (a0 ≥ 161)) = true then (decide (a0 ≤ 65519)) else false)))))))
set_option maxRecDepth 100000 in
set_option maxHeartbeats 400000 in
theorem rickyardref04_Of.ok (fu : Nat) (w : World) (a0 : Int) (r : Bool) (h : rickyardref04_Of.f fu a0 = some r) :
    Calls Try.prog 140 (([.int .i64 a0] : List Value).toArray) w (fun e w' => ∃ v, e = .returned v ∧ v = .bool r ∧ Gr w w') := by
  unfold rickyardref04_Of.f at h
  have fB : Gr w w := Fr.refl _ _
  refine calls_cw Try.func140 rfl Try.ntmps140 rfl ?_
  refine cw_seq ?_
  refine cw_region ?_
  refine ol_val (v := .bool false) (by exact xr_assign rfl rfl) rfl rfl rfl ?_
  refine ol_nil ?_
  refine cw_seq ?_
  refine cw_mid (fun ρ' w' => ρ' 2 = .bool (if (decide (a0 ≥ 97)) = true then (if (decide (a0 ≤ 122)) = true then true else (if (decide (a0 ≥ 65)) = true then (if (decide (a0 ≤ 90)) = true then true else (if (decide (a0 ≥ 48)) = true then (if (decide (a0 ≤ 57)) = true then true else (if (decide (a0 = 45)) = true then true else (if (decide (a0 = 95)) = true then true else (if (decide (a0 ≥ 161)) = true then (decide (a0 ≤ 65519)) else false)))) else (if (decide (a0 = 45)) = true then true else (if (decide (a0 = 95)) = true then true else (if (decide (a0 ≥ 161)) = true then (decide (a0 ≤ 65519)) else false))))) else (if (decide (a0 ≥ 48)) = true then (if (decide (a0 ≤ 57)) = true then true else (if (decide (a0 = 45)) = true then true else (if (decide (a0 = 95)) = true then true else (if (decide (a0 ≥ 161)) = true then (decide (a0 ≤ 65519)) else false)))) else (if (decide (a0 = 45)) = true then true else (if (decide (a0 = 95)) = true then true else (if (decide (a0 ≥ 161)) = true then (decide (a0 ≤ 65519)) else false)))))) else (if (decide (a0 ≥ 65)) = true then (if (decide (a0 ≤ 90)) = true then true else (if (decide (a0 ≥ 48)) = true then (if (decide (a0 ≤ 57)) = true then true else (if (decide (a0 = 45)) = true then true else (if (decide (a0 = 95)) = true then true else (if (decide (a0 ≥ 161)) = true then (decide (a0 ≤ 65519)) else false)))) else (if (decide (a0 = 45)) = true then true else (if (decide (a0 = 95)) = true then true else (if (decide (a0 ≥ 161)) = true then (decide (a0 ≤ 65519)) else false))))) else (if (decide (a0 ≥ 48)) = true then (if (decide (a0 ≤ 57)) = true then true else (if (decide (a0 = 45)) = true then true else (if (decide (a0 = 95)) = true then true else (if (decide (a0 ≥ 161)) = true then (decide (a0 ≤ 65519)) else false)))) else (if (decide (a0 = 45)) = true then true else (if (decide (a0 = 95)) = true then true else (if (decide (a0 ≥ 161)) = true then (decide (a0 ≤ 65519)) else false)))))) ∧ w = w') ?_ ?_
  · skip
    refine cw_region ?_
    refine ol_val (v := .int .i64 a0) (by exact xr_move rfl rfl) rfl rfl rfl ?_
    refine ol_val (v := .bool (decide (a0 ≥ 97))) (by exact xr_geq rfl rfl rfl) rfl rfl rfl ?_
    refine ol_val (v := .bool (decide (a0 ≥ 97))) (by exact xr_move rfl rfl) rfl rfl rfl ?_
    rcases bt (decide (a0 ≥ 97)) with c1 | c1
    · skip
      refine ol_gval (v := .int .i64 a0) (by exact xr_move rfl rfl) rfl rfl rfl rfl rfl c1 ?_
      refine ol_gval (v := .bool (decide (a0 ≤ 122))) (by exact xr_leq rfl rfl rfl) rfl rfl rfl rfl rfl c1 ?_
      refine ol_val (v := .bool (decide (a0 ≤ 122))) (by exact xr_pickT rfl rfl c1 rfl) rfl rfl rfl ?_
      refine ol_val (v := .bool (decide (a0 ≤ 122))) (by exact xr_move rfl rfl) rfl rfl rfl ?_
      rcases bt (decide (a0 ≤ 122)) with c2 | c2
      · skip
        refine ol_gskip rfl rfl rfl rfl rfl c2 ?_
        refine ol_gskip rfl rfl rfl rfl rfl c2 ?_
        refine ol_gskip rfl rfl rfl rfl rfl c2 ?_
        refine ol_uskip rfl rfl rfl rfl rfl ?_
        refine ol_uskip rfl rfl rfl rfl rfl ?_
        refine ol_gskip rfl rfl rfl rfl rfl c2 ?_
        refine ol_val (v := .bool true) (by exact xr_pickT rfl rfl c2 rfl) rfl rfl rfl ?_
        refine ol_val (v := .bool true) (by exact xr_move rfl rfl) rfl rfl rfl ?_
        refine ol_gskip rfl rfl rfl rfl rfl rfl ?_
        refine ol_gskip rfl rfl rfl rfl rfl rfl ?_
        refine ol_gskip rfl rfl rfl rfl rfl rfl ?_
        refine ol_uskip rfl rfl rfl rfl rfl ?_
        refine ol_uskip rfl rfl rfl rfl rfl ?_
        refine ol_gskip rfl rfl rfl rfl rfl rfl ?_
        refine ol_val (v := .bool true) (by exact xr_pickT rfl rfl rfl rfl) rfl rfl rfl ?_
        refine ol_val (v := .bool true) (by exact xr_move rfl rfl) rfl rfl rfl ?_
        refine ol_gskip rfl rfl rfl rfl rfl rfl ?_
        refine ol_gskip rfl rfl rfl rfl rfl rfl ?_
        refine ol_val (v := .bool true) (by exact xr_pickT rfl rfl rfl rfl) rfl rfl rfl ?_
        refine ol_val (v := .bool true) (by exact xr_move rfl rfl) rfl rfl rfl ?_
        refine ol_gskip rfl rfl rfl rfl rfl rfl ?_
        refine ol_gskip rfl rfl rfl rfl rfl rfl ?_
        refine ol_val (v := .bool true) (by exact xr_pickT rfl rfl rfl rfl) rfl rfl rfl ?_
        refine ol_val (v := .bool true) (by exact xr_move rfl rfl) rfl rfl rfl ?_
        refine ol_gskip rfl rfl rfl rfl rfl rfl ?_
        refine ol_gskip rfl rfl rfl rfl rfl rfl ?_
        refine ol_gskip rfl rfl rfl rfl rfl rfl ?_
        refine ol_uskip rfl rfl rfl rfl rfl ?_
        refine ol_uskip rfl rfl rfl rfl rfl ?_
        refine ol_gskip rfl rfl rfl rfl rfl rfl ?_
        refine ol_val (v := .bool true) (by exact xr_pickT rfl rfl rfl rfl) rfl rfl rfl ?_
        refine ol_val (v := .bool true) (by exact xr_assign rfl rfl) rfl rfl rfl ?_
        refine ol_nil ?_
        refine thn_i ?_
        exact ⟨(rfl).trans (congrArg (fun z => (.bool z : Value)) (show true = (if (decide (a0 ≥ 97)) = true then (if (decide (a0 ≤ 122)) = true then true else (if (decide (a0 ≥ 65)) = true then (if (decide (a0 ≤ 90)) = true then true else (if (decide (a0 ≥ 48)) = true then (if (decide (a0 ≤ 57)) = true then true else (if (decide (a0 = 45)) = true then true else (if (decide (a0 = 95)) = true then true else (if (decide (a0 ≥ 161)) = true then (decide (a0 ≤ 65519)) else false)))) else (if (decide (a0 = 45)) = true then true else (if (decide (a0 = 95)) = true then true else (if (decide (a0 ≥ 161)) = true then (decide (a0 ≤ 65519)) else false))))) else (if (decide (a0 ≥ 48)) = true then (if (decide (a0 ≤ 57)) = true then true else (if (decide (a0 = 45)) = true then true else (if (decide (a0 = 95)) = true then true else (if (decide (a0 ≥ 161)) = true then (decide (a0 ≤ 65519)) else false)))) else (if (decide (a0 = 45)) = true then true else (if (decide (a0 = 95)) = true then true else (if (decide (a0 ≥ 161)) = true then (decide (a0 ≤ 65519)) else false)))))) else (if (decide (a0 ≥ 65)) = true then (if (decide (a0 ≤ 90)) = true then true else (if (decide (a0 ≥ 48)) = true then (if (decide (a0 ≤ 57)) = true then true else (if (decide (a0 = 45)) = true then true else (if (decide (a0 = 95)) = true then true else (if (decide (a0 ≥ 161)) = true then (decide (a0 ≤ 65519)) else false)))) else (if (decide (a0 = 45)) = true then true else (if (decide (a0 = 95)) = true then true else (if (decide (a0 ≥ 161)) = true then (decide (a0 ≤ 65519)) else false))))) else (if (decide (a0 ≥ 48)) = true then (if (decide (a0 ≤ 57)) = true then true else (if (decide (a0 = 45)) = true then true else (if (decide (a0 = 95)) = true then true else (if (decide (a0 ≥ 161)) = true then (decide (a0 ≤ 65519)) else false)))) else (if (decide (a0 = 45)) = true then true else (if (decide (a0 = 95)) = true then true else (if (decide (a0 ≥ 161)) = true then (decide (a0 ≤ 65519)) else false)))))) from by rw [ite_t c1, ite_t c2])), rfl⟩
      · skip
        refine ol_gval (v := .int .i64 a0) (by exact xr_move rfl rfl) rfl rfl rfl rfl rfl c2 ?_
        refine ol_gval (v := .bool (decide (a0 ≥ 65))) (by exact xr_geq rfl rfl rfl) rfl rfl rfl rfl rfl c2 ?_
        refine ol_gval (v := .bool (decide (a0 ≥ 65))) (by exact xr_move rfl rfl) rfl rfl rfl rfl rfl c2 ?_
        rcases bt (decide (a0 ≥ 65)) with c3 | c3
        · skip
          refine ol_gval (v := .int .i64 a0) (by exact xr_move rfl rfl) rfl rfl rfl rfl rfl c3 ?_
          refine ol_gval (v := .bool (decide (a0 ≤ 90))) (by exact xr_leq rfl rfl rfl) rfl rfl rfl rfl rfl c3 ?_
          refine ol_gval (v := .bool (decide (a0 ≤ 90))) (by exact xr_pickT rfl rfl c3 rfl) rfl rfl rfl rfl rfl c2 ?_
          refine ol_val (v := .bool (decide (a0 ≤ 90))) (by exact xr_pickF rfl rfl c2 rfl) rfl rfl rfl ?_
          refine ol_val (v := .bool (decide (a0 ≤ 90))) (by exact xr_move rfl rfl) rfl rfl rfl ?_
          rcases bt (decide (a0 ≤ 90)) with c4 | c4
          · skip
            refine ol_gskip rfl rfl rfl rfl rfl c4 ?_
            refine ol_gskip rfl rfl rfl rfl rfl c4 ?_
            refine ol_gskip rfl rfl rfl rfl rfl c4 ?_
            refine ol_uskip rfl rfl rfl rfl rfl ?_
            refine ol_uskip rfl rfl rfl rfl rfl ?_
            refine ol_gskip rfl rfl rfl rfl rfl c4 ?_
            refine ol_val (v := .bool true) (by exact xr_pickT rfl rfl c4 rfl) rfl rfl rfl ?_
            refine ol_val (v := .bool true) (by exact xr_move rfl rfl) rfl rfl rfl ?_
            refine ol_gskip rfl rfl rfl rfl rfl rfl ?_
            refine ol_gskip rfl rfl rfl rfl rfl rfl ?_
            refine ol_val (v := .bool true) (by exact xr_pickT rfl rfl rfl rfl) rfl rfl rfl ?_
            refine ol_val (v := .bool true) (by exact xr_move rfl rfl) rfl rfl rfl ?_
            refine ol_gskip rfl rfl rfl rfl rfl rfl ?_
            refine ol_gskip rfl rfl rfl rfl rfl rfl ?_
            refine ol_val (v := .bool true) (by exact xr_pickT rfl rfl rfl rfl) rfl rfl rfl ?_
            refine ol_val (v := .bool true) (by exact xr_move rfl rfl) rfl rfl rfl ?_
            refine ol_gskip rfl rfl rfl rfl rfl rfl ?_
            refine ol_gskip rfl rfl rfl rfl rfl rfl ?_
            refine ol_gskip rfl rfl rfl rfl rfl rfl ?_
            refine ol_uskip rfl rfl rfl rfl rfl ?_
            refine ol_uskip rfl rfl rfl rfl rfl ?_
            refine ol_gskip rfl rfl rfl rfl rfl rfl ?_
            refine ol_val (v := .bool true) (by exact xr_pickT rfl rfl rfl rfl) rfl rfl rfl ?_
            refine ol_val (v := .bool true) (by exact xr_assign rfl rfl) rfl rfl rfl ?_
            refine ol_nil ?_
            refine thn_i ?_
            exact ⟨(rfl).trans (congrArg (fun z => (.bool z : Value)) (show true = (if (decide (a0 ≥ 97)) = true then (if (decide (a0 ≤ 122)) = true then true else (if (decide (a0 ≥ 65)) = true then (if (decide (a0 ≤ 90)) = true then true else (if (decide (a0 ≥ 48)) = true then (if (decide (a0 ≤ 57)) = true then true else (if (decide (a0 = 45)) = true then true else (if (decide (a0 = 95)) = true then true else (if (decide (a0 ≥ 161)) = true then (decide (a0 ≤ 65519)) else false)))) else (if (decide (a0 = 45)) = true then true else (if (decide (a0 = 95)) = true then true else (if (decide (a0 ≥ 161)) = true then (decide (a0 ≤ 65519)) else false))))) else (if (decide (a0 ≥ 48)) = true then (if (decide (a0 ≤ 57)) = true then true else (if (decide (a0 = 45)) = true then true else (if (decide (a0 = 95)) = true then true else (if (decide (a0 ≥ 161)) = true then (decide (a0 ≤ 65519)) else false)))) else (if (decide (a0 = 45)) = true then true else (if (decide (a0 = 95)) = true then true else (if (decide (a0 ≥ 161)) = true then (decide (a0 ≤ 65519)) else false)))))) else (if (decide (a0 ≥ 65)) = true then (if (decide (a0 ≤ 90)) = true then true else (if (decide (a0 ≥ 48)) = true then (if (decide (a0 ≤ 57)) = true then true else (if (decide (a0 = 45)) = true then true else (if (decide (a0 = 95)) = true then true else (if (decide (a0 ≥ 161)) = true then (decide (a0 ≤ 65519)) else false)))) else (if (decide (a0 = 45)) = true then true else (if (decide (a0 = 95)) = true then true else (if (decide (a0 ≥ 161)) = true then (decide (a0 ≤ 65519)) else false))))) else (if (decide (a0 ≥ 48)) = true then (if (decide (a0 ≤ 57)) = true then true else (if (decide (a0 = 45)) = true then true else (if (decide (a0 = 95)) = true then true else (if (decide (a0 ≥ 161)) = true then (decide (a0 ≤ 65519)) else false)))) else (if (decide (a0 = 45)) = true then true else (if (decide (a0 = 95)) = true then true else (if (decide (a0 ≥ 161)) = true then (decide (a0 ≤ 65519)) else false)))))) from by rw [ite_t c1, ite_f c2, ite_t c3, ite_t c4])), rfl⟩
          · skip
            refine ol_gval (v := .int .i64 a0) (by exact xr_move rfl rfl) rfl rfl rfl rfl rfl c4 ?_
            refine ol_gval (v := .bool (decide (a0 ≥ 48))) (by exact xr_geq rfl rfl rfl) rfl rfl rfl rfl rfl c4 ?_
            refine ol_gval (v := .bool (decide (a0 ≥ 48))) (by exact xr_move rfl rfl) rfl rfl rfl rfl rfl c4 ?_
            rcases bt (decide (a0 ≥ 48)) with c5 | c5
            · skip
              refine ol_gval (v := .int .i64 a0) (by exact xr_move rfl rfl) rfl rfl rfl rfl rfl c5 ?_
              refine ol_gval (v := .bool (decide (a0 ≤ 57))) (by exact xr_leq rfl rfl rfl) rfl rfl rfl rfl rfl c5 ?_
              refine ol_gval (v := .bool (decide (a0 ≤ 57))) (by exact xr_pickT rfl rfl c5 rfl) rfl rfl rfl rfl rfl c4 ?_
              refine ol_val (v := .bool (decide (a0 ≤ 57))) (by exact xr_pickF rfl rfl c4 rfl) rfl rfl rfl ?_
              refine ol_val (v := .bool (decide (a0 ≤ 57))) (by exact xr_move rfl rfl) rfl rfl rfl ?_
              rcases bt (decide (a0 ≤ 57)) with c6 | c6
              · skip
                refine ol_gskip rfl rfl rfl rfl rfl c6 ?_
                refine ol_gskip rfl rfl rfl rfl rfl c6 ?_
                refine ol_val (v := .bool true) (by exact xr_pickT rfl rfl c6 rfl) rfl rfl rfl ?_
                refine ol_val (v := .bool true) (by exact xr_move rfl rfl) rfl rfl rfl ?_
                refine ol_gskip rfl rfl rfl rfl rfl rfl ?_
                refine ol_gskip rfl rfl rfl rfl rfl rfl ?_
                refine ol_val (v := .bool true) (by exact xr_pickT rfl rfl rfl rfl) rfl rfl rfl ?_
                refine ol_val (v := .bool true) (by exact xr_move rfl rfl) rfl rfl rfl ?_
                refine ol_gskip rfl rfl rfl rfl rfl rfl ?_
                refine ol_gskip rfl rfl rfl rfl rfl rfl ?_
                refine ol_gskip rfl rfl rfl rfl rfl rfl ?_
                refine ol_uskip rfl rfl rfl rfl rfl ?_
                refine ol_uskip rfl rfl rfl rfl rfl ?_
                refine ol_gskip rfl rfl rfl rfl rfl rfl ?_
                refine ol_val (v := .bool true) (by exact xr_pickT rfl rfl rfl rfl) rfl rfl rfl ?_
                refine ol_val (v := .bool true) (by exact xr_assign rfl rfl) rfl rfl rfl ?_
                refine ol_nil ?_
                refine thn_i ?_
                exact ⟨(rfl).trans (congrArg (fun z => (.bool z : Value)) (show true = (if (decide (a0 ≥ 97)) = true then (if (decide (a0 ≤ 122)) = true then true else (if (decide (a0 ≥ 65)) = true then (if (decide (a0 ≤ 90)) = true then true else (if (decide (a0 ≥ 48)) = true then (if (decide (a0 ≤ 57)) = true then true else (if (decide (a0 = 45)) = true then true else (if (decide (a0 = 95)) = true then true else (if (decide (a0 ≥ 161)) = true then (decide (a0 ≤ 65519)) else false)))) else (if (decide (a0 = 45)) = true then true else (if (decide (a0 = 95)) = true then true else (if (decide (a0 ≥ 161)) = true then (decide (a0 ≤ 65519)) else false))))) else (if (decide (a0 ≥ 48)) = true then (if (decide (a0 ≤ 57)) = true then true else (if (decide (a0 = 45)) = true then true else (if (decide (a0 = 95)) = true then true else (if (decide (a0 ≥ 161)) = true then (decide (a0 ≤ 65519)) else false)))) else (if (decide (a0 = 45)) = true then true else (if (decide (a0 = 95)) = true then true else (if (decide (a0 ≥ 161)) = true then (decide (a0 ≤ 65519)) else false)))))) else (if (decide (a0 ≥ 65)) = true then (if (decide (a0 ≤ 90)) = true then true else (if (decide (a0 ≥ 48)) = true then (if (decide (a0 ≤ 57)) = true then true else (if (decide (a0 = 45)) = true then true else (if (decide (a0 = 95)) = true then true else (if (decide (a0 ≥ 161)) = true then (decide (a0 ≤ 65519)) else false)))) else (if (decide (a0 = 45)) = true then true else (if (decide (a0 = 95)) = true then true else (if (decide (a0 ≥ 161)) = true then (decide (a0 ≤ 65519)) else false))))) else (if (decide (a0 ≥ 48)) = true then (if (decide (a0 ≤ 57)) = true then true else (if (decide (a0 = 45)) = true then true else (if (decide (a0 = 95)) = true then true else (if (decide (a0 ≥ 161)) = true then (decide (a0 ≤ 65519)) else false)))) else (if (decide (a0 = 45)) = true then true else (if (decide (a0 = 95)) = true then true else (if (decide (a0 ≥ 161)) = true then (decide (a0 ≤ 65519)) else false)))))) from by rw [ite_t c1, ite_f c2, ite_t c3, ite_f c4, ite_t c5, ite_t c6])), rfl⟩
              · skip
                refine ol_gval (v := .int .i64 a0) (by exact xr_move rfl rfl) rfl rfl rfl rfl rfl c6 ?_
                refine ol_gval (v := .bool (decide (a0 = 45))) (by exact xr_eqI rfl Try.underlying3 rfl rfl rfl) rfl rfl rfl rfl rfl c6 ?_
                refine ol_val (v := .bool (decide (a0 = 45))) (by exact xr_pickF rfl rfl c6 rfl) rfl rfl rfl ?_
                refine ol_val (v := .bool (decide (a0 = 45))) (by exact xr_move rfl rfl) rfl rfl rfl ?_
                rcases bt (decide (a0 = 45)) with c7 | c7
                · skip
                  refine ol_gskip rfl rfl rfl rfl rfl c7 ?_
                  refine ol_gskip rfl rfl rfl rfl rfl c7 ?_
                  refine ol_val (v := .bool true) (by exact xr_pickT rfl rfl c7 rfl) rfl rfl rfl ?_
                  refine ol_val (v := .bool true) (by exact xr_move rfl rfl) rfl rfl rfl ?_
                  refine ol_gskip rfl rfl rfl rfl rfl rfl ?_
                  refine ol_gskip rfl rfl rfl rfl rfl rfl ?_
                  refine ol_gskip rfl rfl rfl rfl rfl rfl ?_
                  refine ol_uskip rfl rfl rfl rfl rfl ?_
                  refine ol_uskip rfl rfl rfl rfl rfl ?_
                  refine ol_gskip rfl rfl rfl rfl rfl rfl ?_
                  refine ol_val (v := .bool true) (by exact xr_pickT rfl rfl rfl rfl) rfl rfl rfl ?_
                  refine ol_val (v := .bool true) (by exact xr_assign rfl rfl) rfl rfl rfl ?_
                  refine ol_nil ?_
                  refine thn_i ?_
                  exact ⟨(rfl).trans (congrArg (fun z => (.bool z : Value)) (show true = (if (decide (a0 ≥ 97)) = true then (if (decide (a0 ≤ 122)) = true then true else (if (decide (a0 ≥ 65)) = true then (if (decide (a0 ≤ 90)) = true then true else (if (decide (a0 ≥ 48)) = true then (if (decide (a0 ≤ 57)) = true then true else (if (decide (a0 = 45)) = true then true else (if (decide (a0 = 95)) = true then true else (if (decide (a0 ≥ 161)) = true then (decide (a0 ≤ 65519)) else false)))) else (if (decide (a0 = 45)) = true then true else (if (decide (a0 = 95)) = true then true else (if (decide (a0 ≥ 161)) = true then (decide (a0 ≤ 65519)) else false))))) else (if (decide (a0 ≥ 48)) = true then (if (decide (a0 ≤ 57)) = true then true else (if (decide (a0 = 45)) = true then true else (if (decide (a0 = 95)) = true then true else (if (decide (a0 ≥ 161)) = true then (decide (a0 ≤ 65519)) else false)))) else (if (decide (a0 = 45)) = true then true else (if (decide (a0 = 95)) = true then true else (if (decide (a0 ≥ 161)) = true then (decide (a0 ≤ 65519)) else false)))))) else (if (decide (a0 ≥ 65)) = true then (if (decide (a0 ≤ 90)) = true then true else (if (decide (a0 ≥ 48)) = true then (if (decide (a0 ≤ 57)) = true then true else (if (decide (a0 = 45)) = true then true else (if (decide (a0 = 95)) = true then true else (if (decide (a0 ≥ 161)) = true then (decide (a0 ≤ 65519)) else false)))) else (if (decide (a0 = 45)) = true then true else (if (decide (a0 = 95)) = true then true else (if (decide (a0 ≥ 161)) = true then (decide (a0 ≤ 65519)) else false))))) else (if (decide (a0 ≥ 48)) = true then (if (decide (a0 ≤ 57)) = true then true else (if (decide (a0 = 45)) = true then true else (if (decide (a0 = 95)) = true then true else (if (decide (a0 ≥ 161)) = true then (decide (a0 ≤ 65519)) else false)))) else (if (decide (a0 = 45)) = true then true else (if (decide (a0 = 95)) = true then true else (if (decide (a0 ≥ 161)) = true then (decide (a0 ≤ 65519)) else false)))))) from by rw [ite_t c1, ite_f c2, ite_t c3, ite_f c4, ite_t c5, ite_f c6, ite_t c7])), rfl⟩
                · skip
                  refine ol_gval (v := .int .i64 a0) (by exact xr_move rfl rfl) rfl rfl rfl rfl rfl c7 ?_
                  refine ol_gval (v := .bool (decide (a0 = 95))) (by exact xr_eqI rfl Try.underlying3 rfl rfl rfl) rfl rfl rfl rfl rfl c7 ?_
                  refine ol_val (v := .bool (decide (a0 = 95))) (by exact xr_pickF rfl rfl c7 rfl) rfl rfl rfl ?_
                  refine ol_val (v := .bool (decide (a0 = 95))) (by exact xr_move rfl rfl) rfl rfl rfl ?_
                  rcases bt (decide (a0 = 95)) with c8 | c8
                  · skip
                    refine ol_gskip rfl rfl rfl rfl rfl c8 ?_
                    refine ol_gskip rfl rfl rfl rfl rfl c8 ?_
                    refine ol_gskip rfl rfl rfl rfl rfl c8 ?_
                    refine ol_uskip rfl rfl rfl rfl rfl ?_
                    refine ol_uskip rfl rfl rfl rfl rfl ?_
                    refine ol_gskip rfl rfl rfl rfl rfl c8 ?_
                    refine ol_val (v := .bool true) (by exact xr_pickT rfl rfl c8 rfl) rfl rfl rfl ?_
                    refine ol_val (v := .bool true) (by exact xr_assign rfl rfl) rfl rfl rfl ?_
                    refine ol_nil ?_
                    refine thn_i ?_
                    exact ⟨(rfl).trans (congrArg (fun z => (.bool z : Value)) (show true = (if (decide (a0 ≥ 97)) = true then (if (decide (a0 ≤ 122)) = true then true else (if (decide (a0 ≥ 65)) = true then (if (decide (a0 ≤ 90)) = true then true else (if (decide (a0 ≥ 48)) = true then (if (decide (a0 ≤ 57)) = true then true else (if (decide (a0 = 45)) = true then true else (if (decide (a0 = 95)) = true then true else (if (decide (a0 ≥ 161)) = true then (decide (a0 ≤ 65519)) else false)))) else (if (decide (a0 = 45)) = true then true else (if (decide (a0 = 95)) = true then true else (if (decide (a0 ≥ 161)) = true then (decide (a0 ≤ 65519)) else false))))) else (if (decide (a0 ≥ 48)) = true then (if (decide (a0 ≤ 57)) = true then true else (if (decide (a0 = 45)) = true then true else (if (decide (a0 = 95)) = true then true else (if (decide (a0 ≥ 161)) = true then (decide (a0 ≤ 65519)) else false)))) else (if (decide (a0 = 45)) = true then true else (if (decide (a0 = 95)) = true then true else (if (decide (a0 ≥ 161)) = true then (decide (a0 ≤ 65519)) else false)))))) else (if (decide (a0 ≥ 65)) = true then (if (decide (a0 ≤ 90)) = true then true else (if (decide (a0 ≥ 48)) = true then (if (decide (a0 ≤ 57)) = true then true else (if (decide (a0 = 45)) = true then true else (if (decide (a0 = 95)) = true then true else (if (decide (a0 ≥ 161)) = true then (decide (a0 ≤ 65519)) else false)))) else (if (decide (a0 = 45)) = true then true else (if (decide (a0 = 95)) = true then true else (if (decide (a0 ≥ 161)) = true then (decide (a0 ≤ 65519)) else false))))) else (if (decide (a0 ≥ 48)) = true then (if (decide (a0 ≤ 57)) = true then true else (if (decide (a0 = 45)) = true then true else (if (decide (a0 = 95)) = true then true else (if (decide (a0 ≥ 161)) = true then (decide (a0 ≤ 65519)) else false)))) else (if (decide (a0 = 45)) = true then true else (if (decide (a0 = 95)) = true then true else (if (decide (a0 ≥ 161)) = true then (decide (a0 ≤ 65519)) else false)))))) from by rw [ite_t c1, ite_f c2, ite_t c3, ite_f c4, ite_t c5, ite_f c6, ite_f c7, ite_t c8])), rfl⟩
                  · skip
                    refine ol_gval (v := .int .i64 a0) (by exact xr_move rfl rfl) rfl rfl rfl rfl rfl c8 ?_
                    refine ol_gval (v := .bool (decide (a0 ≥ 161))) (by exact xr_geq rfl rfl rfl) rfl rfl rfl rfl rfl c8 ?_
                    refine ol_gval (v := .bool (decide (a0 ≥ 161))) (by exact xr_move rfl rfl) rfl rfl rfl rfl rfl c8 ?_
                    rcases bt (decide (a0 ≥ 161)) with c9 | c9
                    · skip
                      refine ol_gval (v := .int .i64 a0) (by exact xr_move rfl rfl) rfl rfl rfl rfl rfl c9 ?_
                      refine ol_gval (v := .bool (decide (a0 ≤ 65519))) (by exact xr_leq rfl rfl rfl) rfl rfl rfl rfl rfl c9 ?_
                      refine ol_gval (v := .bool (decide (a0 ≤ 65519))) (by exact xr_pickT rfl rfl c9 rfl) rfl rfl rfl rfl rfl c8 ?_
                      refine ol_val (v := .bool (decide (a0 ≤ 65519))) (by exact xr_pickF rfl rfl c8 rfl) rfl rfl rfl ?_
                      refine ol_val (v := .bool (decide (a0 ≤ 65519))) (by exact xr_assign rfl rfl) rfl rfl rfl ?_
                      refine ol_nil ?_
                      refine thn_i ?_
                      exact ⟨(rfl).trans (congrArg (fun z => (.bool z : Value)) (show (decide (a0 ≤ 65519)) = (if (decide (a0 ≥ 97)) = true then (if (decide (a0 ≤ 122)) = true then true else (if (decide (a0 ≥ 65)) = true then (if (decide (a0 ≤ 90)) = true then true else (if (decide (a0 ≥ 48)) = true then (if (decide (a0 ≤ 57)) = true then true else (if (decide (a0 = 45)) = true then true else (if (decide (a0 = 95)) = true then true else (if (decide (a0 ≥ 161)) = true then (decide (a0 ≤ 65519)) else false)))) else (if (decide (a0 = 45)) = true then true else (if (decide (a0 = 95)) = true then true else (if (decide (a0 ≥ 161)) = true then (decide (a0 ≤ 65519)) else false))))) else (if (decide (a0 ≥ 48)) = true then (if (decide (a0 ≤ 57)) = true then true else (if (decide (a0 = 45)) = true then true else (if (decide (a0 = 95)) = true then true else (if (decide (a0 ≥ 161)) = true then (decide (a0 ≤ 65519)) else false)))) else (if (decide (a0 = 45)) = true then true else (if (decide (a0 = 95)) = true then true else (if (decide (a0 ≥ 161)) = true then (decide (a0 ≤ 65519)) else false)))))) else (if (decide (a0 ≥ 65)) = true then (if (decide (a0 ≤ 90)) = true then true else (if (decide (a0 ≥ 48)) = true then (if (decide (a0 ≤ 57)) = true then true else (if (decide (a0 = 45)) = true then true else (if (decide (a0 = 95)) = true then true else (if (decide (a0 ≥ 161)) = true then (decide (a0 ≤ 65519)) else false)))) else (if (decide (a0 = 45)) = true then true else (if (decide (a0 = 95)) = true then true else (if (decide (a0 ≥ 161)) = true then (decide (a0 ≤ 65519)) else false))))) else (if (decide (a0 ≥ 48)) = true then (if (decide (a0 ≤ 57)) = true then true else (if (decide (a0 = 45)) = true then true else (if (decide (a0 = 95)) = true then true else (if (decide (a0 ≥ 161)) = true then (decide (a0 ≤ 65519)) else false)))) else (if (decide (a0 = 45)) = true then true else (if (decide (a0 = 95)) = true then true else (if (decide (a0 ≥ 161)) = true then (decide (a0 ≤ 65519)) else false)))))) from by rw [ite_t c1, ite_f c2, ite_t c3, ite_f c4, ite_t c5, ite_f c6, ite_f c7, ite_f c8, ite_t c9])), rfl⟩
                    · skip
                      refine ol_gskip rfl rfl rfl rfl rfl c9 ?_
                      refine ol_gskip rfl rfl rfl rfl rfl c9 ?_
                      refine ol_gval (v := .bool false) (by exact xr_pickF rfl rfl c9 rfl) rfl rfl rfl rfl rfl c8 ?_
                      refine ol_val (v := .bool false) (by exact xr_pickF rfl rfl c8 rfl) rfl rfl rfl ?_
                      refine ol_val (v := .bool false) (by exact xr_assign rfl rfl) rfl rfl rfl ?_
                      refine ol_nil ?_
                      refine thn_i ?_
                      exact ⟨(rfl).trans (congrArg (fun z => (.bool z : Value)) (show false = (if (decide (a0 ≥ 97)) = true then (if (decide (a0 ≤ 122)) = true then true else (if (decide (a0 ≥ 65)) = true then (if (decide (a0 ≤ 90)) = true then true else (if (decide (a0 ≥ 48)) = true then (if (decide (a0 ≤ 57)) = true then true else (if (decide (a0 = 45)) = true then true else (if (decide (a0 = 95)) = true then true else (if (decide (a0 ≥ 161)) = true then (decide (a0 ≤ 65519)) else false)))) else (if (decide (a0 = 45)) = true then true else (if (decide (a0 = 95)) = true then true else (if (decide (a0 ≥ 161)) = true then (decide (a0 ≤ 65519)) else false))))) else (if (decide (a0 ≥ 48)) = true then (if (decide (a0 ≤ 57)) = true then true else (if (decide (a0 = 45)) = true then true else (if (decide (a0 = 95)) = true then true else (if (decide (a0 ≥ 161)) = true then (decide (a0 ≤ 65519)) else false)))) else (if (decide (a0 = 45)) = true then true else (if (decide (a0 = 95)) = true then true else (if (decide (a0 ≥ 161)) = true then (decide (a0 ≤ 65519)) else false)))))) else (if (decide (a0 ≥ 65)) = true then (if (decide (a0 ≤ 90)) = true then true else (if (decide (a0 ≥ 48)) = true then (if (decide (a0 ≤ 57)) = true then true else (if (decide (a0 = 45)) = true then true else (if (decide (a0 = 95)) = true then true else (if (decide (a0 ≥ 161)) = true then (decide (a0 ≤ 65519)) else false)))) else (if (decide (a0 = 45)) = true then true else (if (decide (a0 = 95)) = true then true else (if (decide (a0 ≥ 161)) = true then (decide (a0 ≤ 65519)) else false))))) else (if (decide (a0 ≥ 48)) = true then (if (decide (a0 ≤ 57)) = true then true else (if (decide (a0 = 45)) = true then true else (if (decide (a0 = 95)) = true then true else (if (decide (a0 ≥ 161)) = true then (decide (a0 ≤ 65519)) else false)))) else (if (decide (a0 = 45)) = true then true else (if (decide (a0 = 95)) = true then true else (if (decide (a0 ≥ 161)) = true then (decide (a0 ≤ 65519)) else false)))))) from by rw [ite_t c1, ite_f c2, ite_t c3, ite_f c4, ite_t c5, ite_f c6, ite_f c7, ite_f c8, ite_f c9])), rfl⟩
            · skip
              refine ol_gskip rfl rfl rfl rfl rfl c5 ?_
              refine ol_gskip rfl rfl rfl rfl rfl c5 ?_
              refine ol_gval (v := .bool false) (by exact xr_pickF rfl rfl c5 rfl) rfl rfl rfl rfl rfl c4 ?_
              refine ol_val (v := .bool false) (by exact xr_pickF rfl rfl c4 rfl) rfl rfl rfl ?_
              refine ol_val (v := .bool false) (by exact xr_move rfl rfl) rfl rfl rfl ?_
              refine ol_gval (v := .int .i64 a0) (by exact xr_move rfl rfl) rfl rfl rfl rfl rfl rfl ?_
              refine ol_gval (v := .bool (decide (a0 = 45))) (by exact xr_eqI rfl Try.underlying3 rfl rfl rfl) rfl rfl rfl rfl rfl rfl ?_
              refine ol_val (v := .bool (decide (a0 = 45))) (by exact xr_pickF rfl rfl rfl rfl) rfl rfl rfl ?_
              refine ol_val (v := .bool (decide (a0 = 45))) (by exact xr_move rfl rfl) rfl rfl rfl ?_
              rcases bt (decide (a0 = 45)) with c10 | c10
              · skip
                refine ol_gskip rfl rfl rfl rfl rfl c10 ?_
                refine ol_gskip rfl rfl rfl rfl rfl c10 ?_
                refine ol_val (v := .bool true) (by exact xr_pickT rfl rfl c10 rfl) rfl rfl rfl ?_
                refine ol_val (v := .bool true) (by exact xr_move rfl rfl) rfl rfl rfl ?_
                refine ol_gskip rfl rfl rfl rfl rfl rfl ?_
                refine ol_gskip rfl rfl rfl rfl rfl rfl ?_
                refine ol_gskip rfl rfl rfl rfl rfl rfl ?_
                refine ol_uskip rfl rfl rfl rfl rfl ?_
                refine ol_uskip rfl rfl rfl rfl rfl ?_
                refine ol_gskip rfl rfl rfl rfl rfl rfl ?_
                refine ol_val (v := .bool true) (by exact xr_pickT rfl rfl rfl rfl) rfl rfl rfl ?_
                refine ol_val (v := .bool true) (by exact xr_assign rfl rfl) rfl rfl rfl ?_
                refine ol_nil ?_
                refine thn_i ?_
                exact ⟨(rfl).trans (congrArg (fun z => (.bool z : Value)) (show true = (if (decide (a0 ≥ 97)) = true then (if (decide (a0 ≤ 122)) = true then true else (if (decide (a0 ≥ 65)) = true then (if (decide (a0 ≤ 90)) = true then true else (if (decide (a0 ≥ 48)) = true then (if (decide (a0 ≤ 57)) = true then true else (if (decide (a0 = 45)) = true then true else (if (decide (a0 = 95)) = true then true else (if (decide (a0 ≥ 161)) = true then (decide (a0 ≤ 65519)) else false)))) else (if (decide (a0 = 45)) = true then true else (if (decide (a0 = 95)) = true then true else (if (decide (a0 ≥ 161)) = true then (decide (a0 ≤ 65519)) else false))))) else (if (decide (a0 ≥ 48)) = true then (if (decide (a0 ≤ 57)) = true then true else (if (decide (a0 = 45)) = true then true else (if (decide (a0 = 95)) = true then true else (if (decide (a0 ≥ 161)) = true then (decide (a0 ≤ 65519)) else false)))) else (if (decide (a0 = 45)) = true then true else (if (decide (a0 = 95)) = true then true else (if (decide (a0 ≥ 161)) = true then (decide (a0 ≤ 65519)) else false)))))) else (if (decide (a0 ≥ 65)) = true then (if (decide (a0 ≤ 90)) = true then true else (if (decide (a0 ≥ 48)) = true then (if (decide (a0 ≤ 57)) = true then true else (if (decide (a0 = 45)) = true then true else (if (decide (a0 = 95)) = true then true else (if (decide (a0 ≥ 161)) = true then (decide (a0 ≤ 65519)) else false)))) else (if (decide (a0 = 45)) = true then true else (if (decide (a0 = 95)) = true then true else (if (decide (a0 ≥ 161)) = true then (decide (a0 ≤ 65519)) else false))))) else (if (decide (a0 ≥ 48)) = true then (if (decide (a0 ≤ 57)) = true then true else (if (decide (a0 = 45)) = true then true else (if (decide (a0 = 95)) = true then true else (if (decide (a0 ≥ 161)) = true then (decide (a0 ≤ 65519)) else false)))) else (if (decide (a0 = 45)) = true then true else (if (decide (a0 = 95)) = true then true else (if (decide (a0 ≥ 161)) = true then (decide (a0 ≤ 65519)) else false)))))) from by rw [ite_t c1, ite_f c2, ite_t c3, ite_f c4, ite_f c5, ite_t c10])), rfl⟩
              · skip
                refine ol_gval (v := .int .i64 a0) (by exact xr_move rfl rfl) rfl rfl rfl rfl rfl c10 ?_
                refine ol_gval (v := .bool (decide (a0 = 95))) (by exact xr_eqI rfl Try.underlying3 rfl rfl rfl) rfl rfl rfl rfl rfl c10 ?_
                refine ol_val (v := .bool (decide (a0 = 95))) (by exact xr_pickF rfl rfl c10 rfl) rfl rfl rfl ?_
                refine ol_val (v := .bool (decide (a0 = 95))) (by exact xr_move rfl rfl) rfl rfl rfl ?_
                rcases bt (decide (a0 = 95)) with c11 | c11
                · skip
                  refine ol_gskip rfl rfl rfl rfl rfl c11 ?_
                  refine ol_gskip rfl rfl rfl rfl rfl c11 ?_
                  refine ol_gskip rfl rfl rfl rfl rfl c11 ?_
                  refine ol_uskip rfl rfl rfl rfl rfl ?_
                  refine ol_uskip rfl rfl rfl rfl rfl ?_
                  refine ol_gskip rfl rfl rfl rfl rfl c11 ?_
                  refine ol_val (v := .bool true) (by exact xr_pickT rfl rfl c11 rfl) rfl rfl rfl ?_
                  refine ol_val (v := .bool true) (by exact xr_assign rfl rfl) rfl rfl rfl ?_
                  refine ol_nil ?_
                  refine thn_i ?_
                  exact ⟨(rfl).trans (congrArg (fun z => (.bool z : Value)) (show true = (if (decide (a0 ≥ 97)) = true then (if (decide (a0 ≤ 122)) = true then true else (if (decide (a0 ≥ 65)) = true then (if (decide (a0 ≤ 90)) = true then true else (if (decide (a0 ≥ 48)) = true then (if (decide (a0 ≤ 57)) = true then true else (if (decide (a0 = 45)) = true then true else (if (decide (a0 = 95)) = true then true else (if (decide (a0 ≥ 161)) = true then (decide (a0 ≤ 65519)) else false)))) else (if (decide (a0 = 45)) = true then true else (if (decide (a0 = 95)) = true then true else (if (decide (a0 ≥ 161)) = true then (decide (a0 ≤ 65519)) else false))))) else (if (decide (a0 ≥ 48)) = true then (if (decide (a0 ≤ 57)) = true then true else (if (decide (a0 = 45)) = true then true else (if (decide (a0 = 95)) = true then true else (if (decide (a0 ≥ 161)) = true then (decide (a0 ≤ 65519)) else false)))) else (if (decide (a0 = 45)) = true then true else (if (decide (a0 = 95)) = true then true else (if (decide (a0 ≥ 161)) = true then (decide (a0 ≤ 65519)) else false)))))) else (if (decide (a0 ≥ 65)) = true then (if (decide (a0 ≤ 90)) = true then true else (if (decide (a0 ≥ 48)) = true then (if (decide (a0 ≤ 57)) = true then true else (if (decide (a0 = 45)) = true then true else (if (decide (a0 = 95)) = true then true else (if (decide (a0 ≥ 161)) = true then (decide (a0 ≤ 65519)) else false)))) else (if (decide (a0 = 45)) = true then true else (if (decide (a0 = 95)) = true then true else (if (decide (a0 ≥ 161)) = true then (decide (a0 ≤ 65519)) else false))))) else (if (decide (a0 ≥ 48)) = true then (if (decide (a0 ≤ 57)) = true then true else (if (decide (a0 = 45)) = true then true else (if (decide (a0 = 95)) = true then true else (if (decide (a0 ≥ 161)) = true then (decide (a0 ≤ 65519)) else false)))) else (if (decide (a0 = 45)) = true then true else (if (decide (a0 = 95)) = true then true else (if (decide (a0 ≥ 161)) = true then (decide (a0 ≤ 65519)) else false)))))) from by rw [ite_t c1, ite_f c2, ite_t c3, ite_f c4, ite_f c5, ite_f c10, ite_t c11])), rfl⟩
                · skip
                  refine ol_gval (v := .int .i64 a0) (by exact xr_move rfl rfl) rfl rfl rfl rfl rfl c11 ?_
                  refine ol_gval (v := .bool (decide (a0 ≥ 161))) (by exact xr_geq rfl rfl rfl) rfl rfl rfl rfl rfl c11 ?_
                  refine ol_gval (v := .bool (decide (a0 ≥ 161))) (by exact xr_move rfl rfl) rfl rfl rfl rfl rfl c11 ?_
                  rcases bt (decide (a0 ≥ 161)) with c12 | c12
                  · skip
                    refine ol_gval (v := .int .i64 a0) (by exact xr_move rfl rfl) rfl rfl rfl rfl rfl c12 ?_
                    refine ol_gval (v := .bool (decide (a0 ≤ 65519))) (by exact xr_leq rfl rfl rfl) rfl rfl rfl rfl rfl c12 ?_
                    refine ol_gval (v := .bool (decide (a0 ≤ 65519))) (by exact xr_pickT rfl rfl c12 rfl) rfl rfl rfl rfl rfl c11 ?_
                    refine ol_val (v := .bool (decide (a0 ≤ 65519))) (by exact xr_pickF rfl rfl c11 rfl) rfl rfl rfl ?_
                    refine ol_val (v := .bool (decide (a0 ≤ 65519))) (by exact xr_assign rfl rfl) rfl rfl rfl ?_
                    refine ol_nil ?_
                    refine thn_i ?_
                    exact ⟨(rfl).trans (congrArg (fun z => (.bool z : Value)) (show (decide (a0 ≤ 65519)) = (if (decide (a0 ≥ 97)) = true then (if (decide (a0 ≤ 122)) = true then true else (if (decide (a0 ≥ 65)) = true then (if (decide (a0 ≤ 90)) = true then true else (if (decide (a0 ≥ 48)) = true then (if (decide (a0 ≤ 57)) = true then true else (if (decide (a0 = 45)) = true then true else (if (decide (a0 = 95)) = true then true else (if (decide (a0 ≥ 161)) = true then (decide (a0 ≤ 65519)) else false)))) else (if (decide (a0 = 45)) = true then true else (if (decide (a0 = 95)) = true then true else (if (decide (a0 ≥ 161)) = true then (decide (a0 ≤ 65519)) else false))))) else (if (decide (a0 ≥ 48)) = true then (if (decide (a0 ≤ 57)) = true then true else (if (decide (a0 = 45)) = true then true else (if (decide (a0 = 95)) = true then true else (if (decide (a0 ≥ 161)) = true then (decide (a0 ≤ 65519)) else false)))) else (if (decide (a0 = 45)) = true then true else (if (decide (a0 = 95)) = true then true else (if (decide (a0 ≥ 161)) = true then (decide (a0 ≤ 65519)) else false)))))) else (if (decide (a0 ≥ 65)) = true then (if (decide (a0 ≤ 90)) = true then true else (if (decide (a0 ≥ 48)) = true then (if (decide (a0 ≤ 57)) = true then true else (if (decide (a0 = 45)) = true then true else (if (decide (a0 = 95)) = true then true else (if (decide (a0 ≥ 161)) = true then (decide (a0 ≤ 65519)) else false)))) else (if (decide (a0 = 45)) = true then true else (if (decide (a0 = 95)) = true then true else (if (decide (a0 ≥ 161)) = true then (decide (a0 ≤ 65519)) else false))))) else (if (decide (a0 ≥ 48)) = true then (if (decide (a0 ≤ 57)) = true then true else (if (decide (a0 = 45)) = true then true else (if (decide (a0 = 95)) = true then true else (if (decide (a0 ≥ 161)) = true then (decide (a0 ≤ 65519)) else false)))) else (if (decide (a0 = 45)) = true then true else (if (decide (a0 = 95)) = true then true else (if (decide (a0 ≥ 161)) = true then (decide (a0 ≤ 65519)) else false)))))) from by rw [ite_t c1, ite_f c2, ite_t c3, ite_f c4, ite_f c5, ite_f c10, ite_f c11, ite_t c12])), rfl⟩
                  · skip
                    refine ol_gskip rfl rfl rfl rfl rfl c12 ?_
                    refine ol_gskip rfl rfl rfl rfl rfl c12 ?_
                    refine ol_gval (v := .bool false) (by exact xr_pickF rfl rfl c12 rfl) rfl rfl rfl rfl rfl c11 ?_
                    refine ol_val (v := .bool false) (by exact xr_pickF rfl rfl c11 rfl) rfl rfl rfl ?_
                    refine ol_val (v := .bool false) (by exact xr_assign rfl rfl) rfl rfl rfl ?_
                    refine ol_nil ?_
                    refine thn_i ?_
                    exact ⟨(rfl).trans (congrArg (fun z => (.bool z : Value)) (show false = (if (decide (a0 ≥ 97)) = true then (if (decide (a0 ≤ 122)) = true then true else (if (decide (a0 ≥ 65)) = true then (if (decide (a0 ≤ 90)) = true then true else (if (decide (a0 ≥ 48)) = true then (if (decide (a0 ≤ 57)) = true then true else (if (decide (a0 = 45)) = true then true else (if (decide (a0 = 95)) = true then true else (if (decide (a0 ≥ 161)) = true then (decide (a0 ≤ 65519)) else false)))) else (if (decide (a0 = 45)) = true then true else (if (decide (a0 = 95)) = true then true else (if (decide (a0 ≥ 161)) = true then (decide (a0 ≤ 65519)) else false))))) else (if (decide (a0 ≥ 48)) = true then (if (decide (a0 ≤ 57)) = true then true else (if (decide (a0 = 45)) = true then true else (if (decide (a0 = 95)) = true then true else (if (decide (a0 ≥ 161)) = true then (decide (a0 ≤ 65519)) else false)))) else (if (decide (a0 = 45)) = true then true else (if (decide (a0 = 95)) = true then true else (if (decide (a0 ≥ 161)) = true then (decide (a0 ≤ 65519)) else false)))))) else (if (decide (a0 ≥ 65)) = true then (if (decide (a0 ≤ 90)) = true then true else (if (decide (a0 ≥ 48)) = true then (if (decide (a0 ≤ 57)) = true then true else (if (decide (a0 = 45)) = true then true else (if (decide (a0 = 95)) = true then true else (if (decide (a0 ≥ 161)) = true then (decide (a0 ≤ 65519)) else false)))) else (if (decide (a0 = 45)) = true then true else (if (decide (a0 = 95)) = true then true else (if (decide (a0 ≥ 161)) = true then (decide (a0 ≤ 65519)) else false))))) else (if (decide (a0 ≥ 48)) = true then (if (decide (a0 ≤ 57)) = true then true else (if (decide (a0 = 45)) = true then true else (if (decide (a0 = 95)) = true then true else (if (decide (a0 ≥ 161)) = true then (decide (a0 ≤ 65519)) else false)))) else (if (decide (a0 = 45)) = true then true else (if (decide (a0 = 95)) = true then true else (if (decide (a0 ≥ 161)) = true then (decide (a0 ≤ 65519)) else false)))))) from by rw [ite_t c1, ite_f c2, ite_t c3, ite_f c4, ite_f c5, ite_f c10, ite_f c11, ite_f c12])), rfl⟩
        · skip
          refine ol_gskip rfl rfl rfl rfl rfl c3 ?_
          refine ol_gskip rfl rfl rfl rfl rfl c3 ?_
          refine ol_gval (v := .bool false) (by exact xr_pickF rfl rfl c3 rfl) rfl rfl rfl rfl rfl c2 ?_
          refine ol_val (v := .bool false) (by exact xr_pickF rfl rfl c2 rfl) rfl rfl rfl ?_
          refine ol_val (v := .bool false) (by exact xr_move rfl rfl) rfl rfl rfl ?_
          refine ol_gval (v := .int .i64 a0) (by exact xr_move rfl rfl) rfl rfl rfl rfl rfl rfl ?_
          refine ol_gval (v := .bool (decide (a0 ≥ 48))) (by exact xr_geq rfl rfl rfl) rfl rfl rfl rfl rfl rfl ?_
          refine ol_gval (v := .bool (decide (a0 ≥ 48))) (by exact xr_move rfl rfl) rfl rfl rfl rfl rfl rfl ?_
          rcases bt (decide (a0 ≥ 48)) with c13 | c13
          · skip
            refine ol_gval (v := .int .i64 a0) (by exact xr_move rfl rfl) rfl rfl rfl rfl rfl c13 ?_
            refine ol_gval (v := .bool (decide (a0 ≤ 57))) (by exact xr_leq rfl rfl rfl) rfl rfl rfl rfl rfl c13 ?_
            refine ol_gval (v := .bool (decide (a0 ≤ 57))) (by exact xr_pickT rfl rfl c13 rfl) rfl rfl rfl rfl rfl rfl ?_
            refine ol_val (v := .bool (decide (a0 ≤ 57))) (by exact xr_pickF rfl rfl rfl rfl) rfl rfl rfl ?_
            refine ol_val (v := .bool (decide (a0 ≤ 57))) (by exact xr_move rfl rfl) rfl rfl rfl ?_
            rcases bt (decide (a0 ≤ 57)) with c14 | c14
            · skip
              refine ol_gskip rfl rfl rfl rfl rfl c14 ?_
              refine ol_gskip rfl rfl rfl rfl rfl c14 ?_
              refine ol_val (v := .bool true) (by exact xr_pickT rfl rfl c14 rfl) rfl rfl rfl ?_
              refine ol_val (v := .bool true) (by exact xr_move rfl rfl) rfl rfl rfl ?_
              refine ol_gskip rfl rfl rfl rfl rfl rfl ?_
              refine ol_gskip rfl rfl rfl rfl rfl rfl ?_
              refine ol_val (v := .bool true) (by exact xr_pickT rfl rfl rfl rfl) rfl rfl rfl ?_
              refine ol_val (v := .bool true) (by exact xr_move rfl rfl) rfl rfl rfl ?_
              refine ol_gskip rfl rfl rfl rfl rfl rfl ?_
              refine ol_gskip rfl rfl rfl rfl rfl rfl ?_
              refine ol_gskip rfl rfl rfl rfl rfl rfl ?_
              refine ol_uskip rfl rfl rfl rfl rfl ?_
              refine ol_uskip rfl rfl rfl rfl rfl ?_
              refine ol_gskip rfl rfl rfl rfl rfl rfl ?_
              refine ol_val (v := .bool true) (by exact xr_pickT rfl rfl rfl rfl) rfl rfl rfl ?_
              refine ol_val (v := .bool true) (by exact xr_assign rfl rfl) rfl rfl rfl ?_
              refine ol_nil ?_
              refine thn_i ?_
              exact ⟨(rfl).trans (congrArg (fun z => (.bool z : Value)) (show true = (if (decide (a0 ≥ 97)) = true then (if (decide (a0 ≤ 122)) = true then true else (if (decide (a0 ≥ 65)) = true then (if (decide (a0 ≤ 90)) = true then true else (if (decide (a0 ≥ 48)) = true then (if (decide (a0 ≤ 57)) = true then true else (if (decide (a0 = 45)) = true then true else (if (decide (a0 = 95)) = true then true else (if (decide (a0 ≥ 161)) = true then (decide (a0 ≤ 65519)) else false)))) else (if (decide (a0 = 45)) = true then true else (if (decide (a0 = 95)) = true then true else (if (decide (a0 ≥ 161)) = true then (decide (a0 ≤ 65519)) else false))))) else (if (decide (a0 ≥ 48)) = true then (if (decide (a0 ≤ 57)) = true then true else (if (decide (a0 = 45)) = true then true else (if (decide (a0 = 95)) = true then true else (if (decide (a0 ≥ 161)) = true then (decide (a0 ≤ 65519)) else false)))) else (if (decide (a0 = 45)) = true then true else (if (decide (a0 = 95)) = true then true else (if (decide (a0 ≥ 161)) = true then (decide (a0 ≤ 65519)) else false)))))) else (if (decide (a0 ≥ 65)) = true then (if (decide (a0 ≤ 90)) = true then true else (if (decide (a0 ≥ 48)) = true then (if (decide (a0 ≤ 57)) = true then true else (if (decide (a0 = 45)) = true then true else (if (decide (a0 = 95)) = true then true else (if (decide (a0 ≥ 161)) = true then (decide (a0 ≤ 65519)) else false)))) else (if (decide (a0 = 45)) = true then true else (if (decide (a0 = 95)) = true then true else (if (decide (a0 ≥ 161)) = true then (decide (a0 ≤ 65519)) else false))))) else (if (decide (a0 ≥ 48)) = true then (if (decide (a0 ≤ 57)) = true then true else (if (decide (a0 = 45)) = true then true else (if (decide (a0 = 95)) = true then true else (if (decide (a0 ≥ 161)) = true then (decide (a0 ≤ 65519)) else false)))) else (if (decide (a0 = 45)) = true then true else (if (decide (a0 = 95)) = true then true else (if (decide (a0 ≥ 161)) = true then (decide (a0 ≤ 65519)) else false)))))) from by rw [ite_t c1, ite_f c2, ite_f c3, ite_t c13, ite_t c14])), rfl⟩
            · skip
              refine ol_gval (v := .int .i64 a0) (by exact xr_move rfl rfl) rfl rfl rfl rfl rfl c14 ?_
              refine ol_gval (v := .bool (decide (a0 = 45))) (by exact xr_eqI rfl Try.underlying3 rfl rfl rfl) rfl rfl rfl rfl rfl c14 ?_
              refine ol_val (v := .bool (decide (a0 = 45))) (by exact xr_pickF rfl rfl c14 rfl) rfl rfl rfl ?_
              refine ol_val (v := .bool (decide (a0 = 45))) (by exact xr_move rfl rfl) rfl rfl rfl ?_
              rcases bt (decide (a0 = 45)) with c15 | c15
              · skip
                refine ol_gskip rfl rfl rfl rfl rfl c15 ?_
                refine ol_gskip rfl rfl rfl rfl rfl c15 ?_
                refine ol_val (v := .bool true) (by exact xr_pickT rfl rfl c15 rfl) rfl rfl rfl ?_
                refine ol_val (v := .bool true) (by exact xr_move rfl rfl) rfl rfl rfl ?_
                refine ol_gskip rfl rfl rfl rfl rfl rfl ?_
                refine ol_gskip rfl rfl rfl rfl rfl rfl ?_
                refine ol_gskip rfl rfl rfl rfl rfl rfl ?_
                refine ol_uskip rfl rfl rfl rfl rfl ?_
                refine ol_uskip rfl rfl rfl rfl rfl ?_
                refine ol_gskip rfl rfl rfl rfl rfl rfl ?_
                refine ol_val (v := .bool true) (by exact xr_pickT rfl rfl rfl rfl) rfl rfl rfl ?_
                refine ol_val (v := .bool true) (by exact xr_assign rfl rfl) rfl rfl rfl ?_
                refine ol_nil ?_
                refine thn_i ?_
                exact ⟨(rfl).trans (congrArg (fun z => (.bool z : Value)) (show true = (if (decide (a0 ≥ 97)) = true then (if (decide (a0 ≤ 122)) = true then true else (if (decide (a0 ≥ 65)) = true then (if (decide (a0 ≤ 90)) = true then true else (if (decide (a0 ≥ 48)) = true then (if (decide (a0 ≤ 57)) = true then true else (if (decide (a0 = 45)) = true then true else (if (decide (a0 = 95)) = true then true else (if (decide (a0 ≥ 161)) = true then (decide (a0 ≤ 65519)) else false)))) else (if (decide (a0 = 45)) = true then true else (if (decide (a0 = 95)) = true then true else (if (decide (a0 ≥ 161)) = true then (decide (a0 ≤ 65519)) else false))))) else (if (decide (a0 ≥ 48)) = true then (if (decide (a0 ≤ 57)) = true then true else (if (decide (a0 = 45)) = true then true else (if (decide (a0 = 95)) = true then true else (if (decide (a0 ≥ 161)) = true then (decide (a0 ≤ 65519)) else false)))) else (if (decide (a0 = 45)) = true then true else (if (decide (a0 = 95)) = true then true else (if (decide (a0 ≥ 161)) = true then (decide (a0 ≤ 65519)) else false)))))) else (if (decide (a0 ≥ 65)) = true then (if (decide (a0 ≤ 90)) = true then true else (if (decide (a0 ≥ 48)) = true then (if (decide (a0 ≤ 57)) = true then true else (if (decide (a0 = 45)) = true then true else (if (decide (a0 = 95)) = true then true else (if (decide (a0 ≥ 161)) = true then (decide (a0 ≤ 65519)) else false)))) else (if (decide (a0 = 45)) = true then true else (if (decide (a0 = 95)) = true then true else (if (decide (a0 ≥ 161)) = true then (decide (a0 ≤ 65519)) else false))))) else (if (decide (a0 ≥ 48)) = true then (if (decide (a0 ≤ 57)) = true then true else (if (decide (a0 = 45)) = true then true else (if (decide (a0 = 95)) = true then true else (if (decide (a0 ≥ 161)) = true then (decide (a0 ≤ 65519)) else false)))) else (if (decide (a0 = 45)) = true then true else (if (decide (a0 = 95)) = true then true else (if (decide (a0 ≥ 161)) = true then (decide (a0 ≤ 65519)) else false)))))) from by rw [ite_t c1, ite_f c2, ite_f c3, ite_t c13, ite_f c14, ite_t c15])), rfl⟩
              · skip
                refine ol_gval (v := .int .i64 a0) (by exact xr_move rfl rfl) rfl rfl rfl rfl rfl c15 ?_
                refine ol_gval (v := .bool (decide (a0 = 95))) (by exact xr_eqI rfl Try.underlying3 rfl rfl rfl) rfl rfl rfl rfl rfl c15 ?_
                refine ol_val (v := .bool (decide (a0 = 95))) (by exact xr_pickF rfl rfl c15 rfl) rfl rfl rfl ?_
                refine ol_val (v := .bool (decide (a0 = 95))) (by exact xr_move rfl rfl) rfl rfl rfl ?_
                rcases bt (decide (a0 = 95)) with c16 | c16
                · skip
                  refine ol_gskip rfl rfl rfl rfl rfl c16 ?_
                  refine ol_gskip rfl rfl rfl rfl rfl c16 ?_
                  refine ol_gskip rfl rfl rfl rfl rfl c16 ?_
                  refine ol_uskip rfl rfl rfl rfl rfl ?_
                  refine ol_uskip rfl rfl rfl rfl rfl ?_
                  refine ol_gskip rfl rfl rfl rfl rfl c16 ?_
                  refine ol_val (v := .bool true) (by exact xr_pickT rfl rfl c16 rfl) rfl rfl rfl ?_
                  refine ol_val (v := .bool true) (by exact xr_assign rfl rfl) rfl rfl rfl ?_
                  refine ol_nil ?_
                  refine thn_i ?_
                  exact ⟨(rfl).trans (congrArg (fun z => (.bool z : Value)) (show true = (if (decide (a0 ≥ 97)) = true then (if (decide (a0 ≤ 122)) = true then true else (if (decide (a0 ≥ 65)) = true then (if (decide (a0 ≤ 90)) = true then true else (if (decide (a0 ≥ 48)) = true then (if (decide (a0 ≤ 57)) = true then true else (if (decide (a0 = 45)) = true then true else (if (decide (a0 = 95)) = true then true else (if (decide (a0 ≥ 161)) = true then (decide (a0 ≤ 65519)) else false)))) else (if (decide (a0 = 45)) = true then true else (if (decide (a0 = 95)) = true then true else (if (decide (a0 ≥ 161)) = true then (decide (a0 ≤ 65519)) else false))))) else (if (decide (a0 ≥ 48)) = true then (if (decide (a0 ≤ 57)) = true then true else (if (decide (a0 = 45)) = true then true else (if (decide (a0 = 95)) = true then true else (if (decide (a0 ≥ 161)) = true then (decide (a0 ≤ 65519)) else false)))) else (if (decide (a0 = 45)) = true then true else (if (decide (a0 = 95)) = true then true else (if (decide (a0 ≥ 161)) = true then (decide (a0 ≤ 65519)) else false)))))) else (if (decide (a0 ≥ 65)) = true then (if (decide (a0 ≤ 90)) = true then true else (if (decide (a0 ≥ 48)) = true then (if (decide (a0 ≤ 57)) = true then true else (if (decide (a0 = 45)) = true then true else (if (decide (a0 = 95)) = true then true else (if (decide (a0 ≥ 161)) = true then (decide (a0 ≤ 65519)) else false)))) else (if (decide (a0 = 45)) = true then true else (if (decide (a0 = 95)) = true then true else (if (decide (a0 ≥ 161)) = true then (decide (a0 ≤ 65519)) else false))))) else (if (decide (a0 ≥ 48)) = true then (if (decide (a0 ≤ 57)) = true then true else (if (decide (a0 = 45)) = true then true else (if (decide (a0 = 95)) = true then true else (if (decide (a0 ≥ 161)) = true then (decide (a0 ≤ 65519)) else false)))) else (if (decide (a0 = 45)) = true then true else (if (decide (a0 = 95)) = true then true else (if (decide (a0 ≥ 161)) = true then (decide (a0 ≤ 65519)) else false)))))) from by rw [ite_t c1, ite_f c2, ite_f c3, ite_t c13, ite_f c14, ite_f c15, ite_t c16])), rfl⟩
                · skip
                  refine ol_gval (v := .int .i64 a0) (by exact xr_move rfl rfl) rfl rfl rfl rfl rfl c16 ?_
                  refine ol_gval (v := .bool (decide (a0 ≥ 161))) (by exact xr_geq rfl rfl rfl) rfl rfl rfl rfl rfl c16 ?_
                  refine ol_gval (v := .bool (decide (a0 ≥ 161))) (by exact xr_move rfl rfl) rfl rfl rfl rfl rfl c16 ?_
                  rcases bt (decide (a0 ≥ 161)) with c17 | c17
                  · skip
                    refine ol_gval (v := .int .i64 a0) (by exact xr_move rfl rfl) rfl rfl rfl rfl rfl c17 ?_
                    refine ol_gval (v := .bool (decide (a0 ≤ 65519))) (by exact xr_leq rfl rfl rfl) rfl rfl rfl rfl rfl c17 ?_
                    refine ol_gval (v := .bool (decide (a0 ≤ 65519))) (by exact xr_pickT rfl rfl c17 rfl) rfl rfl rfl rfl rfl c16 ?_
                    refine ol_val (v := .bool (decide (a0 ≤ 65519))) (by exact xr_pickF rfl rfl c16 rfl) rfl rfl rfl ?_
                    refine ol_val (v := .bool (decide (a0 ≤ 65519))) (by exact xr_assign rfl rfl) rfl rfl rfl ?_
                    refine ol_nil ?_
                    refine thn_i ?_
                    exact ⟨(rfl).trans (congrArg (fun z => (.bool z : Value)) (show (decide (a0 ≤ 65519)) = (if (decide (a0 ≥ 97)) = true then (if (decide (a0 ≤ 122)) = true then true else (if (decide (a0 ≥ 65)) = true then (if (decide (a0 ≤ 90)) = true then true else (if (decide (a0 ≥ 48)) = true then (if (decide (a0 ≤ 57)) = true then true else (if (decide (a0 = 45)) = true then true else (if (decide (a0 = 95)) = true then true else (if (decide (a0 ≥ 161)) = true then (decide (a0 ≤ 65519)) else false)))) else (if (decide (a0 = 45)) = true then true else (if (decide (a0 = 95)) = true then true else (if (decide (a0 ≥ 161)) = true then (decide (a0 ≤ 65519)) else false))))) else (if (decide (a0 ≥ 48)) = true then (if (decide (a0 ≤ 57)) = true then true else (if (decide (a0 = 45)) = true then true else (if (decide (a0 = 95)) = true then true else (if (decide (a0 ≥ 161)) = true then (decide (a0 ≤ 65519)) else false)))) else (if (decide (a0 = 45)) = true then true else (if (decide (a0 = 95)) = true then true else (if (decide (a0 ≥ 161)) = true then (decide (a0 ≤ 65519)) else false)))))) else (if (decide (a0 ≥ 65)) = true then (if (decide (a0 ≤ 90)) = true then true else (if (decide (a0 ≥ 48)) = true then (if (decide (a0 ≤ 57)) = true then true else (if (decide (a0 = 45)) = true then true else (if (decide (a0 = 95)) = true then true else (if (decide (a0 ≥ 161)) = true then (decide (a0 ≤ 65519)) else false)))) else (if (decide (a0 = 45)) = true then true else (if (decide (a0 = 95)) = true then true else (if (decide (a0 ≥ 161)) = true then (decide (a0 ≤ 65519)) else false))))) else (if (decide (a0 ≥ 48)) = true then (if (decide (a0 ≤ 57)) = true then true else (if (decide (a0 = 45)) = true then true else (if (decide (a0 = 95)) = true then true else (if (decide (a0 ≥ 161)) = true then (decide (a0 ≤ 65519)) else false)))) else (if (decide (a0 = 45)) = true then true else (if (decide (a0 = 95)) = true then true else (if (decide (a0 ≥ 161)) = true then (decide (a0 ≤ 65519)) else false)))))) from by rw [ite_t c1, ite_f c2, ite_f c3, ite_t c13, ite_f c14, ite_f c15, ite_f c16, ite_t c17])), rfl⟩
                  · skip
                    refine ol_gskip rfl rfl rfl rfl rfl c17 ?_
                    refine ol_gskip rfl rfl rfl rfl rfl c17 ?_
                    refine ol_gval (v := .bool false) (by exact xr_pickF rfl rfl c17 rfl) rfl rfl rfl rfl rfl c16 ?_
                    refine ol_val (v := .bool false) (by exact xr_pickF rfl rfl c16 rfl) rfl rfl rfl ?_
                    refine ol_val (v := .bool false) (by exact xr_assign rfl rfl) rfl rfl rfl ?_
                    refine ol_nil ?_
                    refine thn_i ?_
                    exact ⟨(rfl).trans (congrArg (fun z => (.bool z : Value)) (show false = (if (decide (a0 ≥ 97)) = true then (if (decide (a0 ≤ 122)) = true then true else (if (decide (a0 ≥ 65)) = true then (if (decide (a0 ≤ 90)) = true then true else (if (decide (a0 ≥ 48)) = true then (if (decide (a0 ≤ 57)) = true then true else (if (decide (a0 = 45)) = true then true else (if (decide (a0 = 95)) = true then true else (if (decide (a0 ≥ 161)) = true then (decide (a0 ≤ 65519)) else false)))) else (if (decide (a0 = 45)) = true then true else (if (decide (a0 = 95)) = true then true else (if (decide (a0 ≥ 161)) = true then (decide (a0 ≤ 65519)) else false))))) else (if (decide (a0 ≥ 48)) = true then (if (decide (a0 ≤ 57)) = true then true else (if (decide (a0 = 45)) = true then true else (if (decide (a0 = 95)) = true then true else (if (decide (a0 ≥ 161)) = true then (decide (a0 ≤ 65519)) else false)))) else (if (decide (a0 = 45)) = true then true else (if (decide (a0 = 95)) = true then true else (if (decide (a0 ≥ 161)) = true then (decide (a0 ≤ 65519)) else false)))))) else (if (decide (a0 ≥ 65)) = true then (if (decide (a0 ≤ 90)) = true then true else (if (decide (a0 ≥ 48)) = true then (if (decide (a0 ≤ 57)) = true then true else (if (decide (a0 = 45)) = true then true else (if (decide (a0 = 95)) = true then true else (if (decide (a0 ≥ 161)) = true then (decide (a0 ≤ 65519)) else false)))) else (if (decide (a0 = 45)) = true then true else (if (decide (a0 = 95)) = true then true else (if (decide (a0 ≥ 161)) = true then (decide (a0 ≤ 65519)) else false))))) else (if (decide (a0 ≥ 48)) = true then (if (decide (a0 ≤ 57)) = true then true else (if (decide (a0 = 45)) = true then true else (if (decide (a0 = 95)) = true then true else (if (decide (a0 ≥ 161)) = true then (decide (a0 ≤ 65519)) else false)))) else (if (decide (a0 = 45)) = true then true else (if (decide (a0 = 95)) = true then true else (if (decide (a0 ≥ 161)) = true then (decide (a0 ≤ 65519)) else false)))))) from by rw [ite_t c1, ite_f c2, ite_f c3, ite_t c13, ite_f c14, ite_f c15, ite_f c16, ite_f c17])), rfl⟩
          · skip
            refine ol_gskip rfl rfl rfl rfl rfl c13 ?_
            refine ol_gskip rfl rfl rfl rfl rfl c13 ?_
            refine ol_gval (v := .bool false) (by exact xr_pickF rfl rfl c13 rfl) rfl rfl rfl rfl rfl rfl ?_
            refine ol_val (v := .bool false) (by exact xr_pickF rfl rfl rfl rfl) rfl rfl rfl ?_
            refine ol_val (v := .bool false) (by exact xr_move rfl rfl) rfl rfl rfl ?_
            refine ol_gval (v := .int .i64 a0) (by exact xr_move rfl rfl) rfl rfl rfl rfl rfl rfl ?_
            refine ol_gval (v := .bool (decide (a0 = 45))) (by exact xr_eqI rfl Try.underlying3 rfl rfl rfl) rfl rfl rfl rfl rfl rfl ?_
            refine ol_val (v := .bool (decide (a0 = 45))) (by exact xr_pickF rfl rfl rfl rfl) rfl rfl rfl ?_
            refine ol_val (v := .bool (decide (a0 = 45))) (by exact xr_move rfl rfl) rfl rfl rfl ?_
            rcases bt (decide (a0 = 45)) with c18 | c18
            · skip
              refine ol_gskip rfl rfl rfl rfl rfl c18 ?_
              refine ol_gskip rfl rfl rfl rfl rfl c18 ?_
              refine ol_val (v := .bool true) (by exact xr_pickT rfl rfl c18 rfl) rfl rfl rfl ?_
              refine ol_val (v := .bool true) (by exact xr_move rfl rfl) rfl rfl rfl ?_
              refine ol_gskip rfl rfl rfl rfl rfl rfl ?_
              refine ol_gskip rfl rfl rfl rfl rfl rfl ?_
              refine ol_gskip rfl rfl rfl rfl rfl rfl ?_
              refine ol_uskip rfl rfl rfl rfl rfl ?_
              refine ol_uskip rfl rfl rfl rfl rfl ?_
              refine ol_gskip rfl rfl rfl rfl rfl rfl ?_
              refine ol_val (v := .bool true) (by exact xr_pickT rfl rfl rfl rfl) rfl rfl rfl ?_
              refine ol_val (v := .bool true) (by exact xr_assign rfl rfl) rfl rfl rfl ?_
              refine ol_nil ?_
              refine thn_i ?_
              exact ⟨(rfl).trans (congrArg (fun z => (.bool z : Value)) (show true = (if (decide (a0 ≥ 97)) = true then (if (decide (a0 ≤ 122)) = true then true else (if (decide (a0 ≥ 65)) = true then (if (decide (a0 ≤ 90)) = true then true else (if (decide (a0 ≥ 48)) = true then (if (decide (a0 ≤ 57)) = true then true else (if (decide (a0 = 45)) = true then true else (if (decide (a0 = 95)) = true then true else (if (decide (a0 ≥ 161)) = true then (decide (a0 ≤ 65519)) else false)))) else (if (decide (a0 = 45)) = true then true else (if (decide (a0 = 95)) = true then true else (if (decide (a0 ≥ 161)) = true then (decide (a0 ≤ 65519)) else false))))) else (if (decide (a0 ≥ 48)) = true then (if (decide (a0 ≤ 57)) = true then true else (if (decide (a0 = 45)) = true then true else (if (decide (a0 = 95)) = true then true else (if (decide (a0 ≥ 161)) = true then (decide (a0 ≤ 65519)) else false)))) else (if (decide (a0 = 45)) = true then true else (if (decide (a0 = 95)) = true then true else (if (decide (a0 ≥ 161)) = true then (decide (a0 ≤ 65519)) else false)))))) else (if (decide (a0 ≥ 65)) = true then (if (decide (a0 ≤ 90)) = true then true else (if (decide (a0 ≥ 48)) = true then (if (decide (a0 ≤ 57)) = true then true else (if (decide (a0 = 45)) = true then true else (if (decide (a0 = 95)) = true then true else (if (decide (a0 ≥ 161)) = true then (decide (a0 ≤ 65519)) else false)))) else (if (decide (a0 = 45)) = true then true else (if (decide (a0 = 95)) = true then true else (if (decide (a0 ≥ 161)) = true then (decide (a0 ≤ 65519)) else false))))) else (if (decide (a0 ≥ 48)) = true then (if (decide (a0 ≤ 57)) = true then true else (if (decide (a0 = 45)) = true then true else (if (decide (a0 = 95)) = true then true else (if (decide (a0 ≥ 161)) = true then (decide (a0 ≤ 65519)) else false)))) else (if (decide (a0 = 45)) = true then true else (if (decide (a0 = 95)) = true then true else (if (decide (a0 ≥ 161)) = true then (decide (a0 ≤ 65519)) else false)))))) from by rw [ite_t c1, ite_f c2, ite_f c3, ite_f c13, ite_t c18])), rfl⟩
            · skip
              refine ol_gval (v := .int .i64 a0) (by exact xr_move rfl rfl) rfl rfl rfl rfl rfl c18 ?_
              refine ol_gval (v := .bool (decide (a0 = 95))) (by exact xr_eqI rfl Try.underlying3 rfl rfl rfl) rfl rfl rfl rfl rfl c18 ?_
              refine ol_val (v := .bool (decide (a0 = 95))) (by exact xr_pickF rfl rfl c18 rfl) rfl rfl rfl ?_
              refine ol_val (v := .bool (decide (a0 = 95))) (by exact xr_move rfl rfl) rfl rfl rfl ?_
              rcases bt (decide (a0 = 95)) with c19 | c19
              · skip
                refine ol_gskip rfl rfl rfl rfl rfl c19 ?_
                refine ol_gskip rfl rfl rfl rfl rfl c19 ?_
                refine ol_gskip rfl rfl rfl rfl rfl c19 ?_
                refine ol_uskip rfl rfl rfl rfl rfl ?_
                refine ol_uskip rfl rfl rfl rfl rfl ?_
                refine ol_gskip rfl rfl rfl rfl rfl c19 ?_
                refine ol_val (v := .bool true) (by exact xr_pickT rfl rfl c19 rfl) rfl rfl rfl ?_
                refine ol_val (v := .bool true) (by exact xr_assign rfl rfl) rfl rfl rfl ?_
                refine ol_nil ?_
                refine thn_i ?_
                exact ⟨(rfl).trans (congrArg (fun z => (.bool z : Value)) (show true = (if (decide (a0 ≥ 97)) = true then (if (decide (a0 ≤ 122)) = true then true else (if (decide (a0 ≥ 65)) = true then (if (decide (a0 ≤ 90)) = true then true else (if (decide (a0 ≥ 48)) = true then (if (decide (a0 ≤ 57)) = true then true else (if (decide (a0 = 45)) = true then true else (if (decide (a0 = 95)) = true then true else (if (decide (a0 ≥ 161)) = true then (decide (a0 ≤ 65519)) else false)))) else (if (decide (a0 = 45)) = true then true else (if (decide (a0 = 95)) = true then true else (if (decide (a0 ≥ 161)) = true then (decide (a0 ≤ 65519)) else false))))) else (if (decide (a0 ≥ 48)) = true then (if (decide (a0 ≤ 57)) = true then true else (if (decide (a0 = 45)) = true then true else (if (decide (a0 = 95)) = true then true else (if (decide (a0 ≥ 161)) = true then (decide (a0 ≤ 65519)) else false)))) else (if (decide (a0 = 45)) = true then true else (if (decide (a0 = 95)) = true then true else (if (decide (a0 ≥ 161)) = true then (decide (a0 ≤ 65519)) else false)))))) else (if (decide (a0 ≥ 65)) = true then (if (decide (a0 ≤ 90)) = true then true else (if (decide (a0 ≥ 48)) = true then (if (decide (a0 ≤ 57)) = true then true else (if (decide (a0 = 45)) = true then true else (if (decide (a0 = 95)) = true then true else (if (decide (a0 ≥ 161)) = true then (decide (a0 ≤ 65519)) else false)))) else (if (decide (a0 = 45)) = true then true else (if (decide (a0 = 95)) = true then true else (if (decide (a0 ≥ 161)) = true then (decide (a0 ≤ 65519)) else false))))) else (if (decide (a0 ≥ 48)) = true then (if (decide (a0 ≤ 57)) = true then true else (if (decide (a0 = 45)) = true then true else (if (decide (a0 = 95)) = true then true else (if (decide (a0 ≥ 161)) = true then (decide (a0 ≤ 65519)) else false)))) else (if (decide (a0 = 45)) = true then true else (if (decide (a0 = 95)) = true then true else (if (decide (a0 ≥ 161)) = true then (decide (a0 ≤ 65519)) else false)))))) from by rw [ite_t c1, ite_f c2, ite_f c3, ite_f c13, ite_f c18, ite_t c19])), rfl⟩
              · skip
                refine ol_gval (v := .int .i64 a0) (by exact xr_move rfl rfl) rfl rfl rfl rfl rfl c19 ?_
                refine ol_gval (v := .bool (decide (a0 ≥ 161))) (by exact xr_geq rfl rfl rfl) rfl rfl rfl rfl rfl c19 ?_
                refine ol_gval (v := .bool (decide (a0 ≥ 161))) (by exact xr_move rfl rfl) rfl rfl rfl rfl rfl c19 ?_
                rcases bt (decide (a0 ≥ 161)) with c20 | c20
                · skip
                  refine ol_gval (v := .int .i64 a0) (by exact xr_move rfl rfl) rfl rfl rfl rfl rfl c20 ?_
                  refine ol_gval (v := .bool (decide (a0 ≤ 65519))) (by exact xr_leq rfl rfl rfl) rfl rfl rfl rfl rfl c20 ?_
                  refine ol_gval (v := .bool (decide (a0 ≤ 65519))) (by exact xr_pickT rfl rfl c20 rfl) rfl rfl rfl rfl rfl c19 ?_
                  refine ol_val (v := .bool (decide (a0 ≤ 65519))) (by exact xr_pickF rfl rfl c19 rfl) rfl rfl rfl ?_
                  refine ol_val (v := .bool (decide (a0 ≤ 65519))) (by exact xr_assign rfl rfl) rfl rfl rfl ?_
                  refine ol_nil ?_
                  refine thn_i ?_
                  exact ⟨(rfl).trans (congrArg (fun z => (.bool z : Value)) (show (decide (a0 ≤ 65519)) = (if (decide (a0 ≥ 97)) = true then (if (decide (a0 ≤ 122)) = true then true else (if (decide (a0 ≥ 65)) = true then (if (decide (a0 ≤ 90)) = true then true else (if (decide (a0 ≥ 48)) = true then (if (decide (a0 ≤ 57)) = true then true else (if (decide (a0 = 45)) = true then true else (if (decide (a0 = 95)) = true then true else (if (decide (a0 ≥ 161)) = true then (decide (a0 ≤ 65519)) else false)))) else (if (decide (a0 = 45)) = true then true else (if (decide (a0 = 95)) = true then true else (if (decide (a0 ≥ 161)) = true then (decide (a0 ≤ 65519)) else false))))) else (if (decide (a0 ≥ 48)) = true then (if (decide (a0 ≤ 57)) = true then true else (if (decide (a0 = 45)) = true then true else (if (decide (a0 = 95)) = true then true else (if (decide (a0 ≥ 161)) = true then (decide (a0 ≤ 65519)) else false)))) else (if (decide (a0 = 45)) = true then true else (if (decide (a0 = 95)) = true then true else (if (decide (a0 ≥ 161)) = true then (decide (a0 ≤ 65519)) else false)))))) else (if (decide (a0 ≥ 65)) = true then (if (decide (a0 ≤ 90)) = true then true else (if (decide (a0 ≥ 48)) = true then (if (decide (a0 ≤ 57)) = true then true else (if (decide (a0 = 45)) = true then true else (if (decide (a0 = 95)) = true then true else (if (decide (a0 ≥ 161)) = true then (decide (a0 ≤ 65519)) else false)))) else (if (decide (a0 = 45)) = true then true else (if (decide (a0 = 95)) = true then true else (if (decide (a0 ≥ 161)) = true then (decide (a0 ≤ 65519)) else false))))) else (if (decide (a0 ≥ 48)) = true then (if (decide (a0 ≤ 57)) = true then true else (if (decide (a0 = 45)) = true then true else (if (decide (a0 = 95)) = true then true else (if (decide (a0 ≥ 161)) = true then (decide (a0 ≤ 65519)) else false)))) else (if (decide (a0 = 45)) = true then true else (if (decide (a0 = 95)) = true then true else (if (decide (a0 ≥ 161)) = true then (decide (a0 ≤ 65519)) else false)))))) from by rw [ite_t c1, ite_f c2, ite_f c3, ite_f c13, ite_f c18, ite_f c19, ite_t c20])), rfl⟩
                · skip
                  refine ol_gskip rfl rfl rfl rfl rfl c20 ?_
                  refine ol_gskip rfl rfl rfl rfl rfl c20 ?_
                  refine ol_gval (v := .bool false) (by exact xr_pickF rfl rfl c20 rfl) rfl rfl rfl rfl rfl c19 ?_
                  refine ol_val (v := .bool false) (by exact xr_pickF rfl rfl c19 rfl) rfl rfl rfl ?_
                  refine ol_val (v := .bool false) (by exact xr_assign rfl rfl) rfl rfl rfl ?_
                  refine ol_nil ?_
                  refine thn_i ?_
                  exact ⟨(rfl).trans (congrArg (fun z => (.bool z : Value)) (show false = (if (decide (a0 ≥ 97)) = true then (if (decide (a0 ≤ 122)) = true then true else (if (decide (a0 ≥ 65)) = true then (if (decide (a0 ≤ 90)) = true then true else (if (decide (a0 ≥ 48)) = true then (if (decide (a0 ≤ 57)) = true then true else (if (decide (a0 = 45)) = true then true else (if (decide (a0 = 95)) = true then true else (if (decide (a0 ≥ 161)) = true then (decide (a0 ≤ 65519)) else false)))) else (if (decide (a0 = 45)) = true then true else (if (decide (a0 = 95)) = true then true else (if (decide (a0 ≥ 161)) = true then (decide (a0 ≤ 65519)) else false))))) else (if (decide (a0 ≥ 48)) = true then (if (decide (a0 ≤ 57)) = true then true else (if (decide (a0 = 45)) = true then true else (if (decide (a0 = 95)) = true then true else (if (decide (a0 ≥ 161)) = true then (decide (a0 ≤ 65519)) else false)))) else (if (decide (a0 = 45)) = true then true else (if (decide (a0 = 95)) = true then true else (if (decide (a0 ≥ 161)) = true then (decide (a0 ≤ 65519)) else false)))))) else (if (decide (a0 ≥ 65)) = true then (if (decide (a0 ≤ 90)) = true then true else (if (decide (a0 ≥ 48)) = true then (if (decide (a0 ≤ 57)) = true then true else (if (decide (a0 = 45)) = true then true else (if (decide (a0 = 95)) = true then true else (if (decide (a0 ≥ 161)) = true then (decide (a0 ≤ 65519)) else false)))) else (if (decide (a0 = 45)) = true then true else (if (decide (a0 = 95)) = true then true else (if (decide (a0 ≥ 161)) = true then (decide (a0 ≤ 65519)) else false))))) else (if (decide (a0 ≥ 48)) = true then (if (decide (a0 ≤ 57)) = true then true else (if (decide (a0 = 45)) = true then true else (if (decide (a0 = 95)) = true then true else (if (decide (a0 ≥ 161)) = true then (decide (a0 ≤ 65519)) else false)))) else (if (decide (a0 = 45)) = true then true else (if (decide (a0 = 95)) = true then true else (if (decide (a0 ≥ 161)) = true then (decide (a0 ≤ 65519)) else false)))))) from by rw [ite_t c1, ite_f c2, ite_f c3, ite_f c13, ite_f c18, ite_f c19, ite_f c20])), rfl⟩
    · skip
      refine ol_gskip rfl rfl rfl rfl rfl c1 ?_
      refine ol_gskip rfl rfl rfl rfl rfl c1 ?_
      refine ol_val (v := .bool false) (by exact xr_pickF rfl rfl c1 rfl) rfl rfl rfl ?_
      refine ol_val (v := .bool false) (by exact xr_move rfl rfl) rfl rfl rfl ?_
      refine ol_gval (v := .int .i64 a0) (by exact xr_move rfl rfl) rfl rfl rfl rfl rfl rfl ?_
      refine ol_gval (v := .bool (decide (a0 ≥ 65))) (by exact xr_geq rfl rfl rfl) rfl rfl rfl rfl rfl rfl ?_
      refine ol_gval (v := .bool (decide (a0 ≥ 65))) (by exact xr_move rfl rfl) rfl rfl rfl rfl rfl rfl ?_
      rcases bt (decide (a0 ≥ 65)) with c21 | c21
      · skip
        refine ol_gval (v := .int .i64 a0) (by exact xr_move rfl rfl) rfl rfl rfl rfl rfl c21 ?_
        refine ol_gval (v := .bool (decide (a0 ≤ 90))) (by exact xr_leq rfl rfl rfl) rfl rfl rfl rfl rfl c21 ?_
        refine ol_gval (v := .bool (decide (a0 ≤ 90))) (by exact xr_pickT rfl rfl c21 rfl) rfl rfl rfl rfl rfl rfl ?_
        refine ol_val (v := .bool (decide (a0 ≤ 90))) (by exact xr_pickF rfl rfl rfl rfl) rfl rfl rfl ?_
        refine ol_val (v := .bool (decide (a0 ≤ 90))) (by exact xr_move rfl rfl) rfl rfl rfl ?_
        rcases bt (decide (a0 ≤ 90)) with c22 | c22
        · skip
          refine ol_gskip rfl rfl rfl rfl rfl c22 ?_
          refine ol_gskip rfl rfl rfl rfl rfl c22 ?_
          refine ol_gskip rfl rfl rfl rfl rfl c22 ?_
          refine ol_uskip rfl rfl rfl rfl rfl ?_
          refine ol_uskip rfl rfl rfl rfl rfl ?_
          refine ol_gskip rfl rfl rfl rfl rfl c22 ?_
          refine ol_val (v := .bool true) (by exact xr_pickT rfl rfl c22 rfl) rfl rfl rfl ?_
          refine ol_val (v := .bool true) (by exact xr_move rfl rfl) rfl rfl rfl ?_
          refine ol_gskip rfl rfl rfl rfl rfl rfl ?_
          refine ol_gskip rfl rfl rfl rfl rfl rfl ?_
          refine ol_val (v := .bool true) (by exact xr_pickT rfl rfl rfl rfl) rfl rfl rfl ?_
          refine ol_val (v := .bool true) (by exact xr_move rfl rfl) rfl rfl rfl ?_
          refine ol_gskip rfl rfl rfl rfl rfl rfl ?_
          refine ol_gskip rfl rfl rfl rfl rfl rfl ?_
          refine ol_val (v := .bool true) (by exact xr_pickT rfl rfl rfl rfl) rfl rfl rfl ?_
          refine ol_val (v := .bool true) (by exact xr_move rfl rfl) rfl rfl rfl ?_
          refine ol_gskip rfl rfl rfl rfl rfl rfl ?_
          refine ol_gskip rfl rfl rfl rfl rfl rfl ?_
          refine ol_gskip rfl rfl rfl rfl rfl rfl ?_
          refine ol_uskip rfl rfl rfl rfl rfl ?_
          refine ol_uskip rfl rfl rfl rfl rfl ?_
          refine ol_gskip rfl rfl rfl rfl rfl rfl ?_
          refine ol_val (v := .bool true) (by exact xr_pickT rfl rfl rfl rfl) rfl rfl rfl ?_
          refine ol_val (v := .bool true) (by exact xr_assign rfl rfl) rfl rfl rfl ?_
          refine ol_nil ?_
          refine thn_i ?_
          exact ⟨(rfl).trans (congrArg (fun z => (.bool z : Value)) (show true = (if (decide (a0 ≥ 97)) = true then (if (decide (a0 ≤ 122)) = true then true else (if (decide (a0 ≥ 65)) = true then (if (decide (a0 ≤ 90)) = true then true else (if (decide (a0 ≥ 48)) = true then (if (decide (a0 ≤ 57)) = true then true else (if (decide (a0 = 45)) = true then true else (if (decide (a0 = 95)) = true then true else (if (decide (a0 ≥ 161)) = true then (decide (a0 ≤ 65519)) else false)))) else (if (decide (a0 = 45)) = true then true else (if (decide (a0 = 95)) = true then true else (if (decide (a0 ≥ 161)) = true then (decide (a0 ≤ 65519)) else false))))) else (if (decide (a0 ≥ 48)) = true then (if (decide (a0 ≤ 57)) = true then true else (if (decide (a0 = 45)) = true then true else (if (decide (a0 = 95)) = true then true else (if (decide (a0 ≥ 161)) = true then (decide (a0 ≤ 65519)) else false)))) else (if (decide (a0 = 45)) = true then true else (if (decide (a0 = 95)) = true then true else (if (decide (a0 ≥ 161)) = true then (decide (a0 ≤ 65519)) else false)))))) else (if (decide (a0 ≥ 65)) = true then (if (decide (a0 ≤ 90)) = true then true else (if (decide (a0 ≥ 48)) = true then (if (decide (a0 ≤ 57)) = true then true else (if (decide (a0 = 45)) = true then true else (if (decide (a0 = 95)) = true then true else (if (decide (a0 ≥ 161)) = true then (decide (a0 ≤ 65519)) else false)))) else (if (decide (a0 = 45)) = true then true else (if (decide (a0 = 95)) = true then true else (if (decide (a0 ≥ 161)) = true then (decide (a0 ≤ 65519)) else false))))) else (if (decide (a0 ≥ 48)) = true then (if (decide (a0 ≤ 57)) = true then true else (if (decide (a0 = 45)) = true then true else (if (decide (a0 = 95)) = true then true else (if (decide (a0 ≥ 161)) = true then (decide (a0 ≤ 65519)) else false)))) else (if (decide (a0 = 45)) = true then true else (if (decide (a0 = 95)) = true then true else (if (decide (a0 ≥ 161)) = true then (decide (a0 ≤ 65519)) else false)))))) from by rw [ite_f c1, ite_t c21, ite_t c22])), rfl⟩
        · skip
          refine ol_gval (v := .int .i64 a0) (by exact xr_move rfl rfl) rfl rfl rfl rfl rfl c22 ?_
          refine ol_gval (v := .bool (decide (a0 ≥ 48))) (by exact xr_geq rfl rfl rfl) rfl rfl rfl rfl rfl c22 ?_
          refine ol_gval (v := .bool (decide (a0 ≥ 48))) (by exact xr_move rfl rfl) rfl rfl rfl rfl rfl c22 ?_
          rcases bt (decide (a0 ≥ 48)) with c23 | c23
          · skip
            refine ol_gval (v := .int .i64 a0) (by exact xr_move rfl rfl) rfl rfl rfl rfl rfl c23 ?_
            refine ol_gval (v := .bool (decide (a0 ≤ 57))) (by exact xr_leq rfl rfl rfl) rfl rfl rfl rfl rfl c23 ?_
            refine ol_gval (v := .bool (decide (a0 ≤ 57))) (by exact xr_pickT rfl rfl c23 rfl) rfl rfl rfl rfl rfl c22 ?_
            refine ol_val (v := .bool (decide (a0 ≤ 57))) (by exact xr_pickF rfl rfl c22 rfl) rfl rfl rfl ?_
            refine ol_val (v := .bool (decide (a0 ≤ 57))) (by exact xr_move rfl rfl) rfl rfl rfl ?_
            rcases bt (decide (a0 ≤ 57)) with c24 | c24
            · skip
              refine ol_gskip rfl rfl rfl rfl rfl c24 ?_
              refine ol_gskip rfl rfl rfl rfl rfl c24 ?_
              refine ol_val (v := .bool true) (by exact xr_pickT rfl rfl c24 rfl) rfl rfl rfl ?_
              refine ol_val (v := .bool true) (by exact xr_move rfl rfl) rfl rfl rfl ?_
              refine ol_gskip rfl rfl rfl rfl rfl rfl ?_
              refine ol_gskip rfl rfl rfl rfl rfl rfl ?_
              refine ol_val (v := .bool true) (by exact xr_pickT rfl rfl rfl rfl) rfl rfl rfl ?_
              refine ol_val (v := .bool true) (by exact xr_move rfl rfl) rfl rfl rfl ?_
              refine ol_gskip rfl rfl rfl rfl rfl rfl ?_
              refine ol_gskip rfl rfl rfl rfl rfl rfl ?_
              refine ol_gskip rfl rfl rfl rfl rfl rfl ?_
              refine ol_uskip rfl rfl rfl rfl rfl ?_
              refine ol_uskip rfl rfl rfl rfl rfl ?_
              refine ol_gskip rfl rfl rfl rfl rfl rfl ?_
              refine ol_val (v := .bool true) (by exact xr_pickT rfl rfl rfl rfl) rfl rfl rfl ?_
              refine ol_val (v := .bool true) (by exact xr_assign rfl rfl) rfl rfl rfl ?_
              refine ol_nil ?_
              refine thn_i ?_
              exact ⟨(rfl).trans (congrArg (fun z => (.bool z : Value)) (show true = (if (decide (a0 ≥ 97)) = true then (if (decide (a0 ≤ 122)) = true then true else (if (decide (a0 ≥ 65)) = true then (if (decide (a0 ≤ 90)) = true then true else (if (decide (a0 ≥ 48)) = true then (if (decide (a0 ≤ 57)) = true then true else (if (decide (a0 = 45)) = true then true else (if (decide (a0 = 95)) = true then true else (if (decide (a0 ≥ 161)) = true then (decide (a0 ≤ 65519)) else false)))) else (if (decide (a0 = 45)) = true then true else (if (decide (a0 = 95)) = true then true else (if (decide (a0 ≥ 161)) = true then (decide (a0 ≤ 65519)) else false))))) else (if (decide (a0 ≥ 48)) = true then (if (decide (a0 ≤ 57)) = true then true else (if (decide (a0 = 45)) = true then true else (if (decide (a0 = 95)) = true then true else (if (decide (a0 ≥ 161)) = true then (decide (a0 ≤ 65519)) else false)))) else (if (decide (a0 = 45)) = true then true else (if (decide (a0 = 95)) = true then true else (if (decide (a0 ≥ 161)) = true then (decide (a0 ≤ 65519)) else false)))))) else (if (decide (a0 ≥ 65)) = true then (if (decide (a0 ≤ 90)) = true then true else (if (decide (a0 ≥ 48)) = true then (if (decide (a0 ≤ 57)) = true then true else (if (decide (a0 = 45)) = true then true else (if (decide (a0 = 95)) = true then true else (if (decide (a0 ≥ 161)) = true then (decide (a0 ≤ 65519)) else false)))) else (if (decide (a0 = 45)) = true then true else (if (decide (a0 = 95)) = true then true else (if (decide (a0 ≥ 161)) = true then (decide (a0 ≤ 65519)) else false))))) else (if (decide (a0 ≥ 48)) = true then (if (decide (a0 ≤ 57)) = true then true else (if (decide (a0 = 45)) = true then true else (if (decide (a0 = 95)) = true then true else (if (decide (a0 ≥ 161)) = true then (decide (a0 ≤ 65519)) else false)))) else (if (decide (a0 = 45)) = true then true else (if (decide (a0 = 95)) = true then true else (if (decide (a0 ≥ 161)) = true then (decide (a0 ≤ 65519)) else false)))))) from by rw [ite_f c1, ite_t c21, ite_f c22, ite_t c23, ite_t c24])), rfl⟩
            · skip
              refine ol_gval (v := .int .i64 a0) (by exact xr_move rfl rfl) rfl rfl rfl rfl rfl c24 ?_
              refine ol_gval (v := .bool (decide (a0 = 45))) (by exact xr_eqI rfl Try.underlying3 rfl rfl rfl) rfl rfl rfl rfl rfl c24 ?_
              refine ol_val (v := .bool (decide (a0 = 45))) (by exact xr_pickF rfl rfl c24 rfl) rfl rfl rfl ?_
              refine ol_val (v := .bool (decide (a0 = 45))) (by exact xr_move rfl rfl) rfl rfl rfl ?_
              rcases bt (decide (a0 = 45)) with c25 | c25
              · skip
                refine ol_gskip rfl rfl rfl rfl rfl c25 ?_
                refine ol_gskip rfl rfl rfl rfl rfl c25 ?_
                refine ol_val (v := .bool true) (by exact xr_pickT rfl rfl c25 rfl) rfl rfl rfl ?_
                refine ol_val (v := .bool true) (by exact xr_move rfl rfl) rfl rfl rfl ?_
                refine ol_gskip rfl rfl rfl rfl rfl rfl ?_
                refine ol_gskip rfl rfl rfl rfl rfl rfl ?_
                refine ol_gskip rfl rfl rfl rfl rfl rfl ?_
                refine ol_uskip rfl rfl rfl rfl rfl ?_
                refine ol_uskip rfl rfl rfl rfl rfl ?_
                refine ol_gskip rfl rfl rfl rfl rfl rfl ?_
                refine ol_val (v := .bool true) (by exact xr_pickT rfl rfl rfl rfl) rfl rfl rfl ?_
                refine ol_val (v := .bool true) (by exact xr_assign rfl rfl) rfl rfl rfl ?_
                refine ol_nil ?_
                refine thn_i ?_
                exact ⟨(rfl).trans (congrArg (fun z => (.bool z : Value)) (show true = (if (decide (a0 ≥ 97)) = true then (if (decide (a0 ≤ 122)) = true then true else (if (decide (a0 ≥ 65)) = true then (if (decide (a0 ≤ 90)) = true then true else (if (decide (a0 ≥ 48)) = true then (if (decide (a0 ≤ 57)) = true then true else (if (decide (a0 = 45)) = true then true else (if (decide (a0 = 95)) = true then true else (if (decide (a0 ≥ 161)) = true then (decide (a0 ≤ 65519)) else false)))) else (if (decide (a0 = 45)) = true then true else (if (decide (a0 = 95)) = true then true else (if (decide (a0 ≥ 161)) = true then (decide (a0 ≤ 65519)) else false))))) else (if (decide (a0 ≥ 48)) = true then (if (decide (a0 ≤ 57)) = true then true else (if (decide (a0 = 45)) = true then true else (if (decide (a0 = 95)) = true then true else (if (decide (a0 ≥ 161)) = true then (decide (a0 ≤ 65519)) else false)))) else (if (decide (a0 = 45)) = true then true else (if (decide (a0 = 95)) = true then true else (if (decide (a0 ≥ 161)) = true then (decide (a0 ≤ 65519)) else false)))))) else (if (decide (a0 ≥ 65)) = true then (if (decide (a0 ≤ 90)) = true then true else (if (decide (a0 ≥ 48)) = true then (if (decide (a0 ≤ 57)) = true then true else (if (decide (a0 = 45)) = true then true else (if (decide (a0 = 95)) = true then true else (if (decide (a0 ≥ 161)) = true then (decide (a0 ≤ 65519)) else false)))) else (if (decide (a0 = 45)) = true then true else (if (decide (a0 = 95)) = true then true else (if (decide (a0 ≥ 161)) = true then (decide (a0 ≤ 65519)) else false))))) else (if (decide (a0 ≥ 48)) = true then (if (decide (a0 ≤ 57)) = true then true else (if (decide (a0 = 45)) = true then true else (if (decide (a0 = 95)) = true then true else (if (decide (a0 ≥ 161)) = true then (decide (a0 ≤ 65519)) else false)))) else (if (decide (a0 = 45)) = true then true else (if (decide (a0 = 95)) = true then true else (if (decide (a0 ≥ 161)) = true then (decide (a0 ≤ 65519)) else false)))))) from by rw [ite_f c1, ite_t c21, ite_f c22, ite_t c23, ite_f c24, ite_t c25])), rfl⟩
              · skip
                refine ol_gval (v := .int .i64 a0) (by exact xr_move rfl rfl) rfl rfl rfl rfl rfl c25 ?_
                refine ol_gval (v := .bool (decide (a0 = 95))) (by exact xr_eqI rfl Try.underlying3 rfl rfl rfl) rfl rfl rfl rfl rfl c25 ?_
                refine ol_val (v := .bool (decide (a0 = 95))) (by exact xr_pickF rfl rfl c25 rfl) rfl rfl rfl ?_
                refine ol_val (v := .bool (decide (a0 = 95))) (by exact xr_move rfl rfl) rfl rfl rfl ?_
                rcases bt (decide (a0 = 95)) with c26 | c26
                · skip
                  refine ol_gskip rfl rfl rfl rfl rfl c26 ?_
                  refine ol_gskip rfl rfl rfl rfl rfl c26 ?_
                  refine ol_gskip rfl rfl rfl rfl rfl c26 ?_
                  refine ol_uskip rfl rfl rfl rfl rfl ?_
                  refine ol_uskip rfl rfl rfl rfl rfl ?_
                  refine ol_gskip rfl rfl rfl rfl rfl c26 ?_
                  refine ol_val (v := .bool true) (by exact xr_pickT rfl rfl c26 rfl) rfl rfl rfl ?_
                  refine ol_val (v := .bool true) (by exact xr_assign rfl rfl) rfl rfl rfl ?_
                  refine ol_nil ?_
                  refine thn_i ?_
                  exact ⟨(rfl).trans (congrArg (fun z => (.bool z : Value)) (show true = (if (decide (a0 ≥ 97)) = true then (if (decide (a0 ≤ 122)) = true then true else (if (decide (a0 ≥ 65)) = true then (if (decide (a0 ≤ 90)) = true then true else (if (decide (a0 ≥ 48)) = true then (if (decide (a0 ≤ 57)) = true then true else (if (decide (a0 = 45)) = true then true else (if (decide (a0 = 95)) = true then true else (if (decide (a0 ≥ 161)) = true then (decide (a0 ≤ 65519)) else false)))) else (if (decide (a0 = 45)) = true then true else (if (decide (a0 = 95)) = true then true else (if (decide (a0 ≥ 161)) = true then (decide (a0 ≤ 65519)) else false))))) else (if (decide (a0 ≥ 48)) = true then (if (decide (a0 ≤ 57)) = true then true else (if (decide (a0 = 45)) = true then true else (if (decide (a0 = 95)) = true then true else (if (decide (a0 ≥ 161)) = true then (decide (a0 ≤ 65519)) else false)))) else (if (decide (a0 = 45)) = true then true else (if (decide (a0 = 95)) = true then true else (if (decide (a0 ≥ 161)) = true then (decide (a0 ≤ 65519)) else false)))))) else (if (decide (a0 ≥ 65)) = true then (if (decide (a0 ≤ 90)) = true then true else (if (decide (a0 ≥ 48)) = true then (if (decide (a0 ≤ 57)) = true then true else (if (decide (a0 = 45)) = true then true else (if (decide (a0 = 95)) = true then true else (if (decide (a0 ≥ 161)) = true then (decide (a0 ≤ 65519)) else false)))) else (if (decide (a0 = 45)) = true then true else (if (decide (a0 = 95)) = true then true else (if (decide (a0 ≥ 161)) = true then (decide (a0 ≤ 65519)) else false))))) else (if (decide (a0 ≥ 48)) = true then (if (decide (a0 ≤ 57)) = true then true else (if (decide (a0 = 45)) = true then true else (if (decide (a0 = 95)) = true then true else (if (decide (a0 ≥ 161)) = true then (decide (a0 ≤ 65519)) else false)))) else (if (decide (a0 = 45)) = true then true else (if (decide (a0 = 95)) = true then true else (if (decide (a0 ≥ 161)) = true then (decide (a0 ≤ 65519)) else false)))))) from by rw [ite_f c1, ite_t c21, ite_f c22, ite_t c23, ite_f c24, ite_f c25, ite_t c26])), rfl⟩
                · skip
                  refine ol_gval (v := .int .i64 a0) (by exact xr_move rfl rfl) rfl rfl rfl rfl rfl c26 ?_
                  refine ol_gval (v := .bool (decide (a0 ≥ 161))) (by exact xr_geq rfl rfl rfl) rfl rfl rfl rfl rfl c26 ?_
                  refine ol_gval (v := .bool (decide (a0 ≥ 161))) (by exact xr_move rfl rfl) rfl rfl rfl rfl rfl c26 ?_
                  rcases bt (decide (a0 ≥ 161)) with c27 | c27
                  · skip
                    refine ol_gval (v := .int .i64 a0) (by exact xr_move rfl rfl) rfl rfl rfl rfl rfl c27 ?_
                    refine ol_gval (v := .bool (decide (a0 ≤ 65519))) (by exact xr_leq rfl rfl rfl) rfl rfl rfl rfl rfl c27 ?_
                    refine ol_gval (v := .bool (decide (a0 ≤ 65519))) (by exact xr_pickT rfl rfl c27 rfl) rfl rfl rfl rfl rfl c26 ?_
                    refine ol_val (v := .bool (decide (a0 ≤ 65519))) (by exact xr_pickF rfl rfl c26 rfl) rfl rfl rfl ?_
                    refine ol_val (v := .bool (decide (a0 ≤ 65519))) (by exact xr_assign rfl rfl) rfl rfl rfl ?_
                    refine ol_nil ?_
                    refine thn_i ?_
                    exact ⟨(rfl).trans (congrArg (fun z => (.bool z : Value)) (show (decide (a0 ≤ 65519)) = (if (decide (a0 ≥ 97)) = true then (if (decide (a0 ≤ 122)) = true then true else (if (decide (a0 ≥ 65)) = true then (if (decide (a0 ≤ 90)) = true then true else (if (decide (a0 ≥ 48)) = true then (if (decide (a0 ≤ 57)) = true then true else (if (decide (a0 = 45)) = true then true else (if (decide (a0 = 95)) = true then true else (if (decide (a0 ≥ 161)) = true then (decide (a0 ≤ 65519)) else false)))) else (if (decide (a0 = 45)) = true then true else (if (decide (a0 = 95)) = true then true else (if (decide (a0 ≥ 161)) = true then (decide (a0 ≤ 65519)) else false))))) else (if (decide (a0 ≥ 48)) = true then (if (decide (a0 ≤ 57)) = true then true else (if (decide (a0 = 45)) = true then true else (if (decide (a0 = 95)) = true then true else (if (decide (a0 ≥ 161)) = true then (decide (a0 ≤ 65519)) else false)))) else (if (decide (a0 = 45)) = true then true else (if (decide (a0 = 95)) = true then true else (if (decide (a0 ≥ 161)) = true then (decide (a0 ≤ 65519)) else false)))))) else (if (decide (a0 ≥ 65)) = true then (if (decide (a0 ≤ 90)) = true then true else (if (decide (a0 ≥ 48)) = true then (if (decide (a0 ≤ 57)) = true then true else (if (decide (a0 = 45)) = true then true else (if (decide (a0 = 95)) = true then true else (if (decide (a0 ≥ 161)) = true then (decide (a0 ≤ 65519)) else false)))) else (if (decide (a0 = 45)) = true then true else (if (decide (a0 = 95)) = true then true else (if (decide (a0 ≥ 161)) = true then (decide (a0 ≤ 65519)) else false))))) else (if (decide (a0 ≥ 48)) = true then (if (decide (a0 ≤ 57)) = true then true else (if (decide (a0 = 45)) = true then true else (if (decide (a0 = 95)) = true then true else (if (decide (a0 ≥ 161)) = true then (decide (a0 ≤ 65519)) else false)))) else (if (decide (a0 = 45)) = true then true else (if (decide (a0 = 95)) = true then true else (if (decide (a0 ≥ 161)) = true then (decide (a0 ≤ 65519)) else false)))))) from by rw [ite_f c1, ite_t c21, ite_f c22, ite_t c23, ite_f c24, ite_f c25, ite_f c26, ite_t c27])), rfl⟩
                  · skip
                    refine ol_gskip rfl rfl rfl rfl rfl c27 ?_
                    refine ol_gskip rfl rfl rfl rfl rfl c27 ?_
                    refine ol_gval (v := .bool false) (by exact xr_pickF rfl rfl c27 rfl) rfl rfl rfl rfl rfl c26 ?_
                    refine ol_val (v := .bool false) (by exact xr_pickF rfl rfl c26 rfl) rfl rfl rfl ?_
                    refine ol_val (v := .bool false) (by exact xr_assign rfl rfl) rfl rfl rfl ?_
                    refine ol_nil ?_
                    refine thn_i ?_
                    exact ⟨(rfl).trans (congrArg (fun z => (.bool z : Value)) (show false = (if (decide (a0 ≥ 97)) = true then (if (decide (a0 ≤ 122)) = true then true else (if (decide (a0 ≥ 65)) = true then (if (decide (a0 ≤ 90)) = true then true else (if (decide (a0 ≥ 48)) = true then (if (decide (a0 ≤ 57)) = true then true else (if (decide (a0 = 45)) = true then true else (if (decide (a0 = 95)) = true then true else (if (decide (a0 ≥ 161)) = true then (decide (a0 ≤ 65519)) else false)))) else (if (decide (a0 = 45)) = true then true else (if (decide (a0 = 95)) = true then true else (if (decide (a0 ≥ 161)) = true then (decide (a0 ≤ 65519)) else false))))) else (if (decide (a0 ≥ 48)) = true then (if (decide (a0 ≤ 57)) = true then true else (if (decide (a0 = 45)) = true then true else (if (decide (a0 = 95)) = true then true else (if (decide (a0 ≥ 161)) = true then (decide (a0 ≤ 65519)) else false)))) else (if (decide (a0 = 45)) = true then true else (if (decide (a0 = 95)) = true then true else (if (decide (a0 ≥ 161)) = true then (decide (a0 ≤ 65519)) else false)))))) else (if (decide (a0 ≥ 65)) = true then (if (decide (a0 ≤ 90)) = true then true else (if (decide (a0 ≥ 48)) = true then (if (decide (a0 ≤ 57)) = true then true else (if (decide (a0 = 45)) = true then true else (if (decide (a0 = 95)) = true then true else (if (decide (a0 ≥ 161)) = true then (decide (a0 ≤ 65519)) else false)))) else (if (decide (a0 = 45)) = true then true else (if (decide (a0 = 95)) = true then true else (if (decide (a0 ≥ 161)) = true then (decide (a0 ≤ 65519)) else false))))) else (if (decide (a0 ≥ 48)) = true then (if (decide (a0 ≤ 57)) = true then true else (if (decide (a0 = 45)) = true then true else (if (decide (a0 = 95)) = true then true else (if (decide (a0 ≥ 161)) = true then (decide (a0 ≤ 65519)) else false)))) else (if (decide (a0 = 45)) = true then true else (if (decide (a0 = 95)) = true then true else (if (decide (a0 ≥ 161)) = true then (decide (a0 ≤ 65519)) else false)))))) from by rw [ite_f c1, ite_t c21, ite_f c22, ite_t c23, ite_f c24, ite_f c25, ite_f c26, ite_f c27])), rfl⟩
          · skip
            refine ol_gskip rfl rfl rfl rfl rfl c23 ?_
            refine ol_gskip rfl rfl rfl rfl rfl c23 ?_
            refine ol_gval (v := .bool false) (by exact xr_pickF rfl rfl c23 rfl) rfl rfl rfl rfl rfl c22 ?_
            refine ol_val (v := .bool false) (by exact xr_pickF rfl rfl c22 rfl) rfl rfl rfl ?_
            refine ol_val (v := .bool false) (by exact xr_move rfl rfl) rfl rfl rfl ?_
            refine ol_gval (v := .int .i64 a0) (by exact xr_move rfl rfl) rfl rfl rfl rfl rfl rfl ?_
            refine ol_gval (v := .bool (decide (a0 = 45))) (by exact xr_eqI rfl Try.underlying3 rfl rfl rfl) rfl rfl rfl rfl rfl rfl ?_
            refine ol_val (v := .bool (decide (a0 = 45))) (by exact xr_pickF rfl rfl rfl rfl) rfl rfl rfl ?_
            refine ol_val (v := .bool (decide (a0 = 45))) (by exact xr_move rfl rfl) rfl rfl rfl ?_
            rcases bt (decide (a0 = 45)) with c28 | c28
            · skip
              refine ol_gskip rfl rfl rfl rfl rfl c28 ?_
              refine ol_gskip rfl rfl rfl rfl rfl c28 ?_
              refine ol_val (v := .bool true) (by exact xr_pickT rfl rfl c28 rfl) rfl rfl rfl ?_
              refine ol_val (v := .bool true) (by exact xr_move rfl rfl) rfl rfl rfl ?_
              refine ol_gskip rfl rfl rfl rfl rfl rfl ?_
              refine ol_gskip rfl rfl rfl rfl rfl rfl ?_
              refine ol_gskip rfl rfl rfl rfl rfl rfl ?_
              refine ol_uskip rfl rfl rfl rfl rfl ?_
              refine ol_uskip rfl rfl rfl rfl rfl ?_
              refine ol_gskip rfl rfl rfl rfl rfl rfl ?_
              refine ol_val (v := .bool true) (by exact xr_pickT rfl rfl rfl rfl) rfl rfl rfl ?_
              refine ol_val (v := .bool true) (by exact xr_assign rfl rfl) rfl rfl rfl ?_
              refine ol_nil ?_
              refine thn_i ?_
              exact ⟨(rfl).trans (congrArg (fun z => (.bool z : Value)) (show true = (if (decide (a0 ≥ 97)) = true then (if (decide (a0 ≤ 122)) = true then true else (if (decide (a0 ≥ 65)) = true then (if (decide (a0 ≤ 90)) = true then true else (if (decide (a0 ≥ 48)) = true then (if (decide (a0 ≤ 57)) = true then true else (if (decide (a0 = 45)) = true then true else (if (decide (a0 = 95)) = true then true else (if (decide (a0 ≥ 161)) = true then (decide (a0 ≤ 65519)) else false)))) else (if (decide (a0 = 45)) = true then true else (if (decide (a0 = 95)) = true then true else (if (decide (a0 ≥ 161)) = true then (decide (a0 ≤ 65519)) else false))))) else (if (decide (a0 ≥ 48)) = true then (if (decide (a0 ≤ 57)) = true then true else (if (decide (a0 = 45)) = true then true else (if (decide (a0 = 95)) = true then true else (if (decide (a0 ≥ 161)) = true then (decide (a0 ≤ 65519)) else false)))) else (if (decide (a0 = 45)) = true then true else (if (decide (a0 = 95)) = true then true else (if (decide (a0 ≥ 161)) = true then (decide (a0 ≤ 65519)) else false)))))) else (if (decide (a0 ≥ 65)) = true then (if (decide (a0 ≤ 90)) = true then true else (if (decide (a0 ≥ 48)) = true then (if (decide (a0 ≤ 57)) = true then true else (if (decide (a0 = 45)) = true then true else (if (decide (a0 = 95)) = true then true else (if (decide (a0 ≥ 161)) = true then (decide (a0 ≤ 65519)) else false)))) else (if (decide (a0 = 45)) = true then true else (if (decide (a0 = 95)) = true then true else (if (decide (a0 ≥ 161)) = true then (decide (a0 ≤ 65519)) else false))))) else (if (decide (a0 ≥ 48)) = true then (if (decide (a0 ≤ 57)) = true then true else (if (decide (a0 = 45)) = true then true else (if (decide (a0 = 95)) = true then true else (if (decide (a0 ≥ 161)) = true then (decide (a0 ≤ 65519)) else false)))) else (if (decide (a0 = 45)) = true then true else (if (decide (a0 = 95)) = true then true else (if (decide (a0 ≥ 161)) = true then (decide (a0 ≤ 65519)) else false)))))) from by rw [ite_f c1, ite_t c21, ite_f c22, ite_f c23, ite_t c28])), rfl⟩
            · skip
              refine ol_gval (v := .int .i64 a0) (by exact xr_move rfl rfl) rfl rfl rfl rfl rfl c28 ?_
              refine ol_gval (v := .bool (decide (a0 = 95))) (by exact xr_eqI rfl Try.underlying3 rfl rfl rfl) rfl rfl rfl rfl rfl c28 ?_
              refine ol_val (v := .bool (decide (a0 = 95))) (by exact xr_pickF rfl rfl c28 rfl) rfl rfl rfl ?_
              refine ol_val (v := .bool (decide (a0 = 95))) (by exact xr_move rfl rfl) rfl rfl rfl ?_
              rcases bt (decide (a0 = 95)) with c29 | c29
              · skip
                refine ol_gskip rfl rfl rfl rfl rfl c29 ?_
                refine ol_gskip rfl rfl rfl rfl rfl c29 ?_
                refine ol_gskip rfl rfl rfl rfl rfl c29 ?_
                refine ol_uskip rfl rfl rfl rfl rfl ?_
                refine ol_uskip rfl rfl rfl rfl rfl ?_
                refine ol_gskip rfl rfl rfl rfl rfl c29 ?_
                refine ol_val (v := .bool true) (by exact xr_pickT rfl rfl c29 rfl) rfl rfl rfl ?_
                refine ol_val (v := .bool true) (by exact xr_assign rfl rfl) rfl rfl rfl ?_
                refine ol_nil ?_
                refine thn_i ?_
                exact ⟨(rfl).trans (congrArg (fun z => (.bool z : Value)) (show true = (if (decide (a0 ≥ 97)) = true then (if (decide (a0 ≤ 122)) = true then true else (if (decide (a0 ≥ 65)) = true then (if (decide (a0 ≤ 90)) = true then true else (if (decide (a0 ≥ 48)) = true then (if (decide (a0 ≤ 57)) = true then true else (if (decide (a0 = 45)) = true then true else (if (decide (a0 = 95)) = true then true else (if (decide (a0 ≥ 161)) = true then (decide (a0 ≤ 65519)) else false)))) else (if (decide (a0 = 45)) = true then true else (if (decide (a0 = 95)) = true then true else (if (decide (a0 ≥ 161)) = true then (decide (a0 ≤ 65519)) else false))))) else (if (decide (a0 ≥ 48)) = true then (if (decide (a0 ≤ 57)) = true then true else (if (decide (a0 = 45)) = true then true else (if (decide (a0 = 95)) = true then true else (if (decide (a0 ≥ 161)) = true then (decide (a0 ≤ 65519)) else false)))) else (if (decide (a0 = 45)) = true then true else (if (decide (a0 = 95)) = true then true else (if (decide (a0 ≥ 161)) = true then (decide (a0 ≤ 65519)) else false)))))) else (if (decide (a0 ≥ 65)) = true then (if (decide (a0 ≤ 90)) = true then true else (if (decide (a0 ≥ 48)) = true then (if (decide (a0 ≤ 57)) = true then true else (if (decide (a0 = 45)) = true then true else (if (decide (a0 = 95)) = true then true else (if (decide (a0 ≥ 161)) = true then (decide (a0 ≤ 65519)) else false)))) else (if (decide (a0 = 45)) = true then true else (if (decide (a0 = 95)) = true then true else (if (decide (a0 ≥ 161)) = true then (decide (a0 ≤ 65519)) else false))))) else (if (decide (a0 ≥ 48)) = true then (if (decide (a0 ≤ 57)) = true then true else (if (decide (a0 = 45)) = true then true else (if (decide (a0 = 95)) = true then true else (if (decide (a0 ≥ 161)) = true then (decide (a0 ≤ 65519)) else false)))) else (if (decide (a0 = 45)) = true then true else (if (decide (a0 = 95)) = true then true else (if (decide (a0 ≥ 161)) = true then (decide (a0 ≤ 65519)) else false)))))) from by rw [ite_f c1, ite_t c21, ite_f c22, ite_f c23, ite_f c28, ite_t c29])), rfl⟩
              · skip
                refine ol_gval (v := .int .i64 a0) (by exact xr_move rfl rfl) rfl rfl rfl rfl rfl c29 ?_
                refine ol_gval (v := .bool (decide (a0 ≥ 161))) (by exact xr_geq rfl rfl rfl) rfl rfl rfl rfl rfl c29 ?_
                refine ol_gval (v := .bool (decide (a0 ≥ 161))) (by exact xr_move rfl rfl) rfl rfl rfl rfl rfl c29 ?_
                rcases bt (decide (a0 ≥ 161)) with c30 | c30
                · skip
                  refine ol_gval (v := .int .i64 a0) (by exact xr_move rfl rfl) rfl rfl rfl rfl rfl c30 ?_
                  refine ol_gval (v := .bool (decide (a0 ≤ 65519))) (by exact xr_leq rfl rfl rfl) rfl rfl rfl rfl rfl c30 ?_
                  refine ol_gval (v := .bool (decide (a0 ≤ 65519))) (by exact xr_pickT rfl rfl c30 rfl) rfl rfl rfl rfl rfl c29 ?_
                  refine ol_val (v := .bool (decide (a0 ≤ 65519))) (by exact xr_pickF rfl rfl c29 rfl) rfl rfl rfl ?_
                  refine ol_val (v := .bool (decide (a0 ≤ 65519))) (by exact xr_assign rfl rfl) rfl rfl rfl ?_
                  refine ol_nil ?_
                  refine thn_i ?_
                  exact ⟨(rfl).trans (congrArg (fun z => (.bool z : Value)) (show (decide (a0 ≤ 65519)) = (if (decide (a0 ≥ 97)) = true then (if (decide (a0 ≤ 122)) = true then true else (if (decide (a0 ≥ 65)) = true then (if (decide (a0 ≤ 90)) = true then true else (if (decide (a0 ≥ 48)) = true then (if (decide (a0 ≤ 57)) = true then true else (if (decide (a0 = 45)) = true then true else (if (decide (a0 = 95)) = true then true else (if (decide (a0 ≥ 161)) = true then (decide (a0 ≤ 65519)) else false)))) else (if (decide (a0 = 45)) = true then true else (if (decide (a0 = 95)) = true then true else (if (decide (a0 ≥ 161)) = true then (decide (a0 ≤ 65519)) else false))))) else (if (decide (a0 ≥ 48)) = true then (if (decide (a0 ≤ 57)) = true then true else (if (decide (a0 = 45)) = true then true else (if (decide (a0 = 95)) = true then true else (if (decide (a0 ≥ 161)) = true then (decide (a0 ≤ 65519)) else false)))) else (if (decide (a0 = 45)) = true then true else (if (decide (a0 = 95)) = true then true else (if (decide (a0 ≥ 161)) = true then (decide (a0 ≤ 65519)) else false)))))) else (if (decide (a0 ≥ 65)) = true then (if (decide (a0 ≤ 90)) = true then true else (if (decide (a0 ≥ 48)) = true then (if (decide (a0 ≤ 57)) = true then true else (if (decide (a0 = 45)) = true then true else (if (decide (a0 = 95)) = true then true else (if (decide (a0 ≥ 161)) = true then (decide (a0 ≤ 65519)) else false)))) else (if (decide (a0 = 45)) = true then true else (if (decide (a0 = 95)) = true then true else (if (decide (a0 ≥ 161)) = true then (decide (a0 ≤ 65519)) else false))))) else (if (decide (a0 ≥ 48)) = true then (if (decide (a0 ≤ 57)) = true then true else (if (decide (a0 = 45)) = true then true else (if (decide (a0 = 95)) = true then true else (if (decide (a0 ≥ 161)) = true then (decide (a0 ≤ 65519)) else false)))) else (if (decide (a0 = 45)) = true then true else (if (decide (a0 = 95)) = true then true else (if (decide (a0 ≥ 161)) = true then (decide (a0 ≤ 65519)) else false)))))) from by rw [ite_f c1, ite_t c21, ite_f c22, ite_f c23, ite_f c28, ite_f c29, ite_t c30])), rfl⟩
                · skip
                  refine ol_gskip rfl rfl rfl rfl rfl c30 ?_
                  refine ol_gskip rfl rfl rfl rfl rfl c30 ?_
                  refine ol_gval (v := .bool false) (by exact xr_pickF rfl rfl c30 rfl) rfl rfl rfl rfl rfl c29 ?_
                  refine ol_val (v := .bool false) (by exact xr_pickF rfl rfl c29 rfl) rfl rfl rfl ?_
                  refine ol_val (v := .bool false) (by exact xr_assign rfl rfl) rfl rfl rfl ?_
                  refine ol_nil ?_
                  refine thn_i ?_
                  exact ⟨(rfl).trans (congrArg (fun z => (.bool z : Value)) (show false = (if (decide (a0 ≥ 97)) = true then (if (decide (a0 ≤ 122)) = true then true else (if (decide (a0 ≥ 65)) = true then (if (decide (a0 ≤ 90)) = true then true else (if (decide (a0 ≥ 48)) = true then (if (decide (a0 ≤ 57)) = true then true else (if (decide (a0 = 45)) = true then true else (if (decide (a0 = 95)) = true then true else (if (decide (a0 ≥ 161)) = true then (decide (a0 ≤ 65519)) else false)))) else (if (decide (a0 = 45)) = true then true else (if (decide (a0 = 95)) = true then true else (if (decide (a0 ≥ 161)) = true then (decide (a0 ≤ 65519)) else false))))) else (if (decide (a0 ≥ 48)) = true then (if (decide (a0 ≤ 57)) = true then true else (if (decide (a0 = 45)) = true then true else (if (decide (a0 = 95)) = true then true else (if (decide (a0 ≥ 161)) = true then (decide (a0 ≤ 65519)) else false)))) else (if (decide (a0 = 45)) = true then true else (if (decide (a0 = 95)) = true then true else (if (decide (a0 ≥ 161)) = true then (decide (a0 ≤ 65519)) else false)))))) else (if (decide (a0 ≥ 65)) = true then (if (decide (a0 ≤ 90)) = true then true else (if (decide (a0 ≥ 48)) = true then (if (decide (a0 ≤ 57)) = true then true else (if (decide (a0 = 45)) = true then true else (if (decide (a0 = 95)) = true then true else (if (decide (a0 ≥ 161)) = true then (decide (a0 ≤ 65519)) else false)))) else (if (decide (a0 = 45)) = true then true else (if (decide (a0 = 95)) = true then true else (if (decide (a0 ≥ 161)) = true then (decide (a0 ≤ 65519)) else false))))) else (if (decide (a0 ≥ 48)) = true then (if (decide (a0 ≤ 57)) = true then true else (if (decide (a0 = 45)) = true then true else (if (decide (a0 = 95)) = true then true else (if (decide (a0 ≥ 161)) = true then (decide (a0 ≤ 65519)) else false)))) else (if (decide (a0 = 45)) = true then true else (if (decide (a0 = 95)) = true then true else (if (decide (a0 ≥ 161)) = true then (decide (a0 ≤ 65519)) else false)))))) from by rw [ite_f c1, ite_t c21, ite_f c22, ite_f c23, ite_f c28, ite_f c29, ite_f c30])), rfl⟩
      · skip
        refine ol_gskip rfl rfl rfl rfl rfl c21 ?_
        refine ol_gskip rfl rfl rfl rfl rfl c21 ?_
        refine ol_gval (v := .bool false) (by exact xr_pickF rfl rfl c21 rfl) rfl rfl rfl rfl rfl rfl ?_
        refine ol_val (v := .bool false) (by exact xr_pickF rfl rfl rfl rfl) rfl rfl rfl ?_
        refine ol_val (v := .bool false) (by exact xr_move rfl rfl) rfl rfl rfl ?_
        refine ol_gval (v := .int .i64 a0) (by exact xr_move rfl rfl) rfl rfl rfl rfl rfl rfl ?_
        refine ol_gval (v := .bool (decide (a0 ≥ 48))) (by exact xr_geq rfl rfl rfl) rfl rfl rfl rfl rfl rfl ?_
        refine ol_gval (v := .bool (decide (a0 ≥ 48))) (by exact xr_move rfl rfl) rfl rfl rfl rfl rfl rfl ?_
        rcases bt (decide (a0 ≥ 48)) with c31 | c31
        · skip
          refine ol_gval (v := .int .i64 a0) (by exact xr_move rfl rfl) rfl rfl rfl rfl rfl c31 ?_
          refine ol_gval (v := .bool (decide (a0 ≤ 57))) (by exact xr_leq rfl rfl rfl) rfl rfl rfl rfl rfl c31 ?_
          refine ol_gval (v := .bool (decide (a0 ≤ 57))) (by exact xr_pickT rfl rfl c31 rfl) rfl rfl rfl rfl rfl rfl ?_
          refine ol_val (v := .bool (decide (a0 ≤ 57))) (by exact xr_pickF rfl rfl rfl rfl) rfl rfl rfl ?_
          refine ol_val (v := .bool (decide (a0 ≤ 57))) (by exact xr_move rfl rfl) rfl rfl rfl ?_
          rcases bt (decide (a0 ≤ 57)) with c32 | c32
          · skip
            refine ol_gskip rfl rfl rfl rfl rfl c32 ?_
            refine ol_gskip rfl rfl rfl rfl rfl c32 ?_
            refine ol_val (v := .bool true) (by exact xr_pickT rfl rfl c32 rfl) rfl rfl rfl ?_
            refine ol_val (v := .bool true) (by exact xr_move rfl rfl) rfl rfl rfl ?_
            refine ol_gskip rfl rfl rfl rfl rfl rfl ?_
            refine ol_gskip rfl rfl rfl rfl rfl rfl ?_
            refine ol_val (v := .bool true) (by exact xr_pickT rfl rfl rfl rfl) rfl rfl rfl ?_
            refine ol_val (v := .bool true) (by exact xr_move rfl rfl) rfl rfl rfl ?_
            refine ol_gskip rfl rfl rfl rfl rfl rfl ?_
            refine ol_gskip rfl rfl rfl rfl rfl rfl ?_
            refine ol_gskip rfl rfl rfl rfl rfl rfl ?_
            refine ol_uskip rfl rfl rfl rfl rfl ?_
            refine ol_uskip rfl rfl rfl rfl rfl ?_
            refine ol_gskip rfl rfl rfl rfl rfl rfl ?_
            refine ol_val (v := .bool true) (by exact xr_pickT rfl rfl rfl rfl) rfl rfl rfl ?_
            refine ol_val (v := .bool true) (by exact xr_assign rfl rfl) rfl rfl rfl ?_
            refine ol_nil ?_
            refine thn_i ?_
            exact ⟨(rfl).trans (congrArg (fun z => (.bool z : Value)) (show true = (if (decide (a0 ≥ 97)) = true then (if (decide (a0 ≤ 122)) = true then true else (if (decide (a0 ≥ 65)) = true then (if (decide (a0 ≤ 90)) = true then true else (if (decide (a0 ≥ 48)) = true then (if (decide (a0 ≤ 57)) = true then true else (if (decide (a0 = 45)) = true then true else (if (decide (a0 = 95)) = true then true else (if (decide (a0 ≥ 161)) = true then (decide (a0 ≤ 65519)) else false)))) else (if (decide (a0 = 45)) = true then true else (if (decide (a0 = 95)) = true then true else (if (decide (a0 ≥ 161)) = true then (decide (a0 ≤ 65519)) else false))))) else (if (decide (a0 ≥ 48)) = true then (if (decide (a0 ≤ 57)) = true then true else (if (decide (a0 = 45)) = true then true else (if (decide (a0 = 95)) = true then true else (if (decide (a0 ≥ 161)) = true then (decide (a0 ≤ 65519)) else false)))) else (if (decide (a0 = 45)) = true then true else (if (decide (a0 = 95)) = true then true else (if (decide (a0 ≥ 161)) = true then (decide (a0 ≤ 65519)) else false)))))) else (if (decide (a0 ≥ 65)) = true then (if (decide (a0 ≤ 90)) = true then true else (if (decide (a0 ≥ 48)) = true then (if (decide (a0 ≤ 57)) = true then true else (if (decide (a0 = 45)) = true then true else (if (decide (a0 = 95)) = true then true else (if (decide (a0 ≥ 161)) = true then (decide (a0 ≤ 65519)) else false)))) else (if (decide (a0 = 45)) = true then true else (if (decide (a0 = 95)) = true then true else (if (decide (a0 ≥ 161)) = true then (decide (a0 ≤ 65519)) else false))))) else (if (decide (a0 ≥ 48)) = true then (if (decide (a0 ≤ 57)) = true then true else (if (decide (a0 = 45)) = true then true else (if (decide (a0 = 95)) = true then true else (if (decide (a0 ≥ 161)) = true then (decide (a0 ≤ 65519)) else false)))) else (if (decide (a0 = 45)) = true then true else (if (decide (a0 = 95)) = true then true else (if (decide (a0 ≥ 161)) = true then (decide (a0 ≤ 65519)) else false)))))) from by rw [ite_f c1, ite_f c21, ite_t c31, ite_t c32])), rfl⟩
          · skip
            refine ol_gval (v := .int .i64 a0) (by exact xr_move rfl rfl) rfl rfl rfl rfl rfl c32 ?_
            refine ol_gval (v := .bool (decide (a0 = 45))) (by exact xr_eqI rfl Try.underlying3 rfl rfl rfl) rfl rfl rfl rfl rfl c32 ?_
            refine ol_val (v := .bool (decide (a0 = 45))) (by exact xr_pickF rfl rfl c32 rfl) rfl rfl rfl ?_
            refine ol_val (v := .bool (decide (a0 = 45))) (by exact xr_move rfl rfl) rfl rfl rfl ?_
            rcases bt (decide (a0 = 45)) with c33 | c33
            · skip
              refine ol_gskip rfl rfl rfl rfl rfl c33 ?_
              refine ol_gskip rfl rfl rfl rfl rfl c33 ?_
              refine ol_val (v := .bool true) (by exact xr_pickT rfl rfl c33 rfl) rfl rfl rfl ?_
              refine ol_val (v := .bool true) (by exact xr_move rfl rfl) rfl rfl rfl ?_
              refine ol_gskip rfl rfl rfl rfl rfl rfl ?_
              refine ol_gskip rfl rfl rfl rfl rfl rfl ?_
              refine ol_gskip rfl rfl rfl rfl rfl rfl ?_
              refine ol_uskip rfl rfl rfl rfl rfl ?_
              refine ol_uskip rfl rfl rfl rfl rfl ?_
              refine ol_gskip rfl rfl rfl rfl rfl rfl ?_
              refine ol_val (v := .bool true) (by exact xr_pickT rfl rfl rfl rfl) rfl rfl rfl ?_
              refine ol_val (v := .bool true) (by exact xr_assign rfl rfl) rfl rfl rfl ?_
              refine ol_nil ?_
              refine thn_i ?_
              exact ⟨(rfl).trans (congrArg (fun z => (.bool z : Value)) (show true = (if (decide (a0 ≥ 97)) = true then (if (decide (a0 ≤ 122)) = true then true else (if (decide (a0 ≥ 65)) = true then (if (decide (a0 ≤ 90)) = true then true else (if (decide (a0 ≥ 48)) = true then (if (decide (a0 ≤ 57)) = true then true else (if (decide (a0 = 45)) = true then true else (if (decide (a0 = 95)) = true then true else (if (decide (a0 ≥ 161)) = true then (decide (a0 ≤ 65519)) else false)))) else (if (decide (a0 = 45)) = true then true else (if (decide (a0 = 95)) = true then true else (if (decide (a0 ≥ 161)) = true then (decide (a0 ≤ 65519)) else false))))) else (if (decide (a0 ≥ 48)) = true then (if (decide (a0 ≤ 57)) = true then true else (if (decide (a0 = 45)) = true then true else (if (decide (a0 = 95)) = true then true else (if (decide (a0 ≥ 161)) = true then (decide (a0 ≤ 65519)) else false)))) else (if (decide (a0 = 45)) = true then true else (if (decide (a0 = 95)) = true then true else (if (decide (a0 ≥ 161)) = true then (decide (a0 ≤ 65519)) else false)))))) else (if (decide (a0 ≥ 65)) = true then (if (decide (a0 ≤ 90)) = true then true else (if (decide (a0 ≥ 48)) = true then (if (decide (a0 ≤ 57)) = true then true else (if (decide (a0 = 45)) = true then true else (if (decide (a0 = 95)) = true then true else (if (decide (a0 ≥ 161)) = true then (decide (a0 ≤ 65519)) else false)))) else (if (decide (a0 = 45)) = true then true else (if (decide (a0 = 95)) = true then true else (if (decide (a0 ≥ 161)) = true then (decide (a0 ≤ 65519)) else false))))) else (if (decide (a0 ≥ 48)) = true then (if (decide (a0 ≤ 57)) = true then true else (if (decide (a0 = 45)) = true then true else (if (decide (a0 = 95)) = true then true else (if (decide (a0 ≥ 161)) = true then (decide (a0 ≤ 65519)) else false)))) else (if (decide (a0 = 45)) = true then true else (if (decide (a0 = 95)) = true then true else (if (decide (a0 ≥ 161)) = true then (decide (a0 ≤ 65519)) else false)))))) from by rw [ite_f c1, ite_f c21, ite_t c31, ite_f c32, ite_t c33])), rfl⟩
            · skip
              refine ol_gval (v := .int .i64 a0) (by exact xr_move rfl rfl) rfl rfl rfl rfl rfl c33 ?_
              refine ol_gval (v := .bool (decide (a0 = 95))) (by exact xr_eqI rfl Try.underlying3 rfl rfl rfl) rfl rfl rfl rfl rfl c33 ?_
              refine ol_val (v := .bool (decide (a0 = 95))) (by exact xr_pickF rfl rfl c33 rfl) rfl rfl rfl ?_
              refine ol_val (v := .bool (decide (a0 = 95))) (by exact xr_move rfl rfl) rfl rfl rfl ?_
              rcases bt (decide (a0 = 95)) with c34 | c34
              · skip
                refine ol_gskip rfl rfl rfl rfl rfl c34 ?_
                refine ol_gskip rfl rfl rfl rfl rfl c34 ?_
                refine ol_gskip rfl rfl rfl rfl rfl c34 ?_
                refine ol_uskip rfl rfl rfl rfl rfl ?_
                refine ol_uskip rfl rfl rfl rfl rfl ?_
                refine ol_gskip rfl rfl rfl rfl rfl c34 ?_
                refine ol_val (v := .bool true) (by exact xr_pickT rfl rfl c34 rfl) rfl rfl rfl ?_
                refine ol_val (v := .bool true) (by exact xr_assign rfl rfl) rfl rfl rfl ?_
                refine ol_nil ?_
                refine thn_i ?_
                exact ⟨(rfl).trans (congrArg (fun z => (.bool z : Value)) (show true = (if (decide (a0 ≥ 97)) = true then (if (decide (a0 ≤ 122)) = true then true else (if (decide (a0 ≥ 65)) = true then (if (decide (a0 ≤ 90)) = true then true else (if (decide (a0 ≥ 48)) = true then (if (decide (a0 ≤ 57)) = true then true else (if (decide (a0 = 45)) = true then true else (if (decide (a0 = 95)) = true then true else (if (decide (a0 ≥ 161)) = true then (decide (a0 ≤ 65519)) else false)))) else (if (decide (a0 = 45)) = true then true else (if (decide (a0 = 95)) = true then true else (if (decide (a0 ≥ 161)) = true then (decide (a0 ≤ 65519)) else false))))) else (if (decide (a0 ≥ 48)) = true then (if (decide (a0 ≤ 57)) = true then true else (if (decide (a0 = 45)) = true then true else (if (decide (a0 = 95)) = true then true else (if (decide (a0 ≥ 161)) = true then (decide (a0 ≤ 65519)) else false)))) else (if (decide (a0 = 45)) = true then true else (if (decide (a0 = 95)) = true then true else (if (decide (a0 ≥ 161)) = true then (decide (a0 ≤ 65519)) else false)))))) else (if (decide (a0 ≥ 65)) = true then (if (decide (a0 ≤ 90)) = true then true else (if (decide (a0 ≥ 48)) = true then (if (decide (a0 ≤ 57)) = true then true else (if (decide (a0 = 45)) = true then true else (if (decide (a0 = 95)) = true then true else (if (decide (a0 ≥ 161)) = true then (decide (a0 ≤ 65519)) else false)))) else (if (decide (a0 = 45)) = true then true else (if (decide (a0 = 95)) = true then true else (if (decide (a0 ≥ 161)) = true then (decide (a0 ≤ 65519)) else false))))) else (if (decide (a0 ≥ 48)) = true then (if (decide (a0 ≤ 57)) = true then true else (if (decide (a0 = 45)) = true then true else (if (decide (a0 = 95)) = true then true else (if (decide (a0 ≥ 161)) = true then (decide (a0 ≤ 65519)) else false)))) else (if (decide (a0 = 45)) = true then true else (if (decide (a0 = 95)) = true then true else (if (decide (a0 ≥ 161)) = true then (decide (a0 ≤ 65519)) else false)))))) from by rw [ite_f c1, ite_f c21, ite_t c31, ite_f c32, ite_f c33, ite_t c34])), rfl⟩
              · skip
                refine ol_gval (v := .int .i64 a0) (by exact xr_move rfl rfl) rfl rfl rfl rfl rfl c34 ?_
                refine ol_gval (v := .bool (decide (a0 ≥ 161))) (by exact xr_geq rfl rfl rfl) rfl rfl rfl rfl rfl c34 ?_
                refine ol_gval (v := .bool (decide (a0 ≥ 161))) (by exact xr_move rfl rfl) rfl rfl rfl rfl rfl c34 ?_
                rcases bt (decide (a0 ≥ 161)) with c35 | c35
                · skip
                  refine ol_gval (v := .int .i64 a0) (by exact xr_move rfl rfl) rfl rfl rfl rfl rfl c35 ?_
                  refine ol_gval (v := .bool (decide (a0 ≤ 65519))) (by exact xr_leq rfl rfl rfl) rfl rfl rfl rfl rfl c35 ?_
                  refine ol_gval (v := .bool (decide (a0 ≤ 65519))) (by exact xr_pickT rfl rfl c35 rfl) rfl rfl rfl rfl rfl c34 ?_
                  refine ol_val (v := .bool (decide (a0 ≤ 65519))) (by exact xr_pickF rfl rfl c34 rfl) rfl rfl rfl ?_
                  refine ol_val (v := .bool (decide (a0 ≤ 65519))) (by exact xr_assign rfl rfl) rfl rfl rfl ?_
                  refine ol_nil ?_
                  refine thn_i ?_
                  exact ⟨(rfl).trans (congrArg (fun z => (.bool z : Value)) (show (decide (a0 ≤ 65519)) = (if (decide (a0 ≥ 97)) = true then (if (decide (a0 ≤ 122)) = true then true else (if (decide (a0 ≥ 65)) = true then (if (decide (a0 ≤ 90)) = true then true else (if (decide (a0 ≥ 48)) = true then (if (decide (a0 ≤ 57)) = true then true else (if (decide (a0 = 45)) = true then true else (if (decide (a0 = 95)) = true then true else (if (decide (a0 ≥ 161)) = true then (decide (a0 ≤ 65519)) else false)))) else (if (decide (a0 = 45)) = true then true else (if (decide (a0 = 95)) = true then true else (if (decide (a0 ≥ 161)) = true then (decide (a0 ≤ 65519)) else false))))) else (if (decide (a0 ≥ 48)) = true then (if (decide (a0 ≤ 57)) = true then true else (if (decide (a0 = 45)) = true then true else (if (decide (a0 = 95)) = true then true else (if (decide (a0 ≥ 161)) = true then (decide (a0 ≤ 65519)) else false)))) else (if (decide (a0 = 45)) = true then true else (if (decide (a0 = 95)) = true then true else (if (decide (a0 ≥ 161)) = true then (decide (a0 ≤ 65519)) else false)))))) else (if (decide (a0 ≥ 65)) = true then (if (decide (a0 ≤ 90)) = true then true else (if (decide (a0 ≥ 48)) = true then (if (decide (a0 ≤ 57)) = true then true else (if (decide (a0 = 45)) = true then true else (if (decide (a0 = 95)) = true then true else (if (decide (a0 ≥ 161)) = true then (decide (a0 ≤ 65519)) else false)))) else (if (decide (a0 = 45)) = true then true else (if (decide (a0 = 95)) = true then true else (if (decide (a0 ≥ 161)) = true then (decide (a0 ≤ 65519)) else false))))) else (if (decide (a0 ≥ 48)) = true then (if (decide (a0 ≤ 57)) = true then true else (if (decide (a0 = 45)) = true then true else (if (decide (a0 = 95)) = true then true else (if (decide (a0 ≥ 161)) = true then (decide (a0 ≤ 65519)) else false)))) else (if (decide (a0 = 45)) = true then true else (if (decide (a0 = 95)) = true then true else (if (decide (a0 ≥ 161)) = true then (decide (a0 ≤ 65519)) else false)))))) from by rw [ite_f c1, ite_f c21, ite_t c31, ite_f c32, ite_f c33, ite_f c34, ite_t c35])), rfl⟩
                · skip
                  refine ol_gskip rfl rfl rfl rfl rfl c35 ?_
                  refine ol_gskip rfl rfl rfl rfl rfl c35 ?_
                  refine ol_gval (v := .bool false) (by exact xr_pickF rfl rfl c35 rfl) rfl rfl rfl rfl rfl c34 ?_
                  refine ol_val (v := .bool false) (by exact xr_pickF rfl rfl c34 rfl) rfl rfl rfl ?_
                  refine ol_val (v := .bool false) (by exact xr_assign rfl rfl) rfl rfl rfl ?_
                  refine ol_nil ?_
                  refine thn_i ?_
                  exact ⟨(rfl).trans (congrArg (fun z => (.bool z : Value)) (show false = (if (decide (a0 ≥ 97)) = true then (if (decide (a0 ≤ 122)) = true then true else (if (decide (a0 ≥ 65)) = true then (if (decide (a0 ≤ 90)) = true then true else (if (decide (a0 ≥ 48)) = true then (if (decide (a0 ≤ 57)) = true then true else (if (decide (a0 = 45)) = true then true else (if (decide (a0 = 95)) = true then true else (if (decide (a0 ≥ 161)) = true then (decide (a0 ≤ 65519)) else false)))) else (if (decide (a0 = 45)) = true then true else (if (decide (a0 = 95)) = true then true else (if (decide (a0 ≥ 161)) = true then (decide (a0 ≤ 65519)) else false))))) else (if (decide (a0 ≥ 48)) = true then (if (decide (a0 ≤ 57)) = true then true else (if (decide (a0 = 45)) = true then true else (if (decide (a0 = 95)) = true then true else (if (decide (a0 ≥ 161)) = true then (decide (a0 ≤ 65519)) else false)))) else (if (decide (a0 = 45)) = true then true else (if (decide (a0 = 95)) = true then true else (if (decide (a0 ≥ 161)) = true then (decide (a0 ≤ 65519)) else false)))))) else (if (decide (a0 ≥ 65)) = true then (if (decide (a0 ≤ 90)) = true then true else (if (decide (a0 ≥ 48)) = true then (if (decide (a0 ≤ 57)) = true then true else (if (decide (a0 = 45)) = true then true else (if (decide (a0 = 95)) = true then true else (if (decide (a0 ≥ 161)) = true then (decide (a0 ≤ 65519)) else false)))) else (if (decide (a0 = 45)) = true then true else (if (decide (a0 = 95)) = true then true else (if (decide (a0 ≥ 161)) = true then (decide (a0 ≤ 65519)) else false))))) else (if (decide (a0 ≥ 48)) = true then (if (decide (a0 ≤ 57)) = true then true else (if (decide (a0 = 45)) = true then true else (if (decide (a0 = 95)) = true then true else (if (decide (a0 ≥ 161)) = true then (decide (a0 ≤ 65519)) else false)))) else (if (decide (a0 = 45)) = true then true else (if (decide (a0 = 95)) = true then true else (if (decide (a0 ≥ 161)) = true then (decide (a0 ≤ 65519)) else false)))))) from by rw [ite_f c1, ite_f c21, ite_t c31, ite_f c32, ite_f c33, ite_f c34, ite_f c35])), rfl⟩
        · skip
          refine ol_gskip rfl rfl rfl rfl rfl c31 ?_
          refine ol_gskip rfl rfl rfl rfl rfl c31 ?_
          refine ol_gval (v := .bool false) (by exact xr_pickF rfl rfl c31 rfl) rfl rfl rfl rfl rfl rfl ?_
          refine ol_val (v := .bool false) (by exact xr_pickF rfl rfl rfl rfl) rfl rfl rfl ?_
          refine ol_val (v := .bool false) (by exact xr_move rfl rfl) rfl rfl rfl ?_
          refine ol_gval (v := .int .i64 a0) (by exact xr_move rfl rfl) rfl rfl rfl rfl rfl rfl ?_
          refine ol_gval (v := .bool (decide (a0 = 45))) (by exact xr_eqI rfl Try.underlying3 rfl rfl rfl) rfl rfl rfl rfl rfl rfl ?_
          refine ol_val (v := .bool (decide (a0 = 45))) (by exact xr_pickF rfl rfl rfl rfl) rfl rfl rfl ?_
          refine ol_val (v := .bool (decide (a0 = 45))) (by exact xr_move rfl rfl) rfl rfl rfl ?_
          rcases bt (decide (a0 = 45)) with c36 | c36
          · skip
            refine ol_gskip rfl rfl rfl rfl rfl c36 ?_
            refine ol_gskip rfl rfl rfl rfl rfl c36 ?_
            refine ol_val (v := .bool true) (by exact xr_pickT rfl rfl c36 rfl) rfl rfl rfl ?_
            refine ol_val (v := .bool true) (by exact xr_move rfl rfl) rfl rfl rfl ?_
            refine ol_gskip rfl rfl rfl rfl rfl rfl ?_
            refine ol_gskip rfl rfl rfl rfl rfl rfl ?_
            refine ol_gskip rfl rfl rfl rfl rfl rfl ?_
            refine ol_uskip rfl rfl rfl rfl rfl ?_
            refine ol_uskip rfl rfl rfl rfl rfl ?_
            refine ol_gskip rfl rfl rfl rfl rfl rfl ?_
            refine ol_val (v := .bool true) (by exact xr_pickT rfl rfl rfl rfl) rfl rfl rfl ?_
            refine ol_val (v := .bool true) (by exact xr_assign rfl rfl) rfl rfl rfl ?_
            refine ol_nil ?_
            refine thn_i ?_
            exact ⟨(rfl).trans (congrArg (fun z => (.bool z : Value)) (show true = (if (decide (a0 ≥ 97)) = true then (if (decide (a0 ≤ 122)) = true then true else (if (decide (a0 ≥ 65)) = true then (if (decide (a0 ≤ 90)) = true then true else (if (decide (a0 ≥ 48)) = true then (if (decide (a0 ≤ 57)) = true then true else (if (decide (a0 = 45)) = true then true else (if (decide (a0 = 95)) = true then true else (if (decide (a0 ≥ 161)) = true then (decide (a0 ≤ 65519)) else false)))) else (if (decide (a0 = 45)) = true then true else (if (decide (a0 = 95)) = true then true else (if (decide (a0 ≥ 161)) = true then (decide (a0 ≤ 65519)) else false))))) else (if (decide (a0 ≥ 48)) = true then (if (decide (a0 ≤ 57)) = true then true else (if (decide (a0 = 45)) = true then true else (if (decide (a0 = 95)) = true then true else (if (decide (a0 ≥ 161)) = true then (decide (a0 ≤ 65519)) else false)))) else (if (decide (a0 = 45)) = true then true else (if (decide (a0 = 95)) = true then true else (if (decide (a0 ≥ 161)) = true then (decide (a0 ≤ 65519)) else false)))))) else (if (decide (a0 ≥ 65)) = true then (if (decide (a0 ≤ 90)) = true then true else (if (decide (a0 ≥ 48)) = true then (if (decide (a0 ≤ 57)) = true then true else (if (decide (a0 = 45)) = true then true else (if (decide (a0 = 95)) = true then true else (if (decide (a0 ≥ 161)) = true then (decide (a0 ≤ 65519)) else false)))) else (if (decide (a0 = 45)) = true then true else (if (decide (a0 = 95)) = true then true else (if (decide (a0 ≥ 161)) = true then (decide (a0 ≤ 65519)) else false))))) else (if (decide (a0 ≥ 48)) = true then (if (decide (a0 ≤ 57)) = true then true else (if (decide (a0 = 45)) = true then true else (if (decide (a0 = 95)) = true then true else (if (decide (a0 ≥ 161)) = true then (decide (a0 ≤ 65519)) else false)))) else (if (decide (a0 = 45)) = true then true else (if (decide (a0 = 95)) = true then true else (if (decide (a0 ≥ 161)) = true then (decide (a0 ≤ 65519)) else false)))))) from by rw [ite_f c1, ite_f c21, ite_f c31, ite_t c36])), rfl⟩
          · skip
            refine ol_gval (v := .int .i64 a0) (by exact xr_move rfl rfl) rfl rfl rfl rfl rfl c36 ?_
            refine ol_gval (v := .bool (decide (a0 = 95))) (by exact xr_eqI rfl Try.underlying3 rfl rfl rfl) rfl rfl rfl rfl rfl c36 ?_
            refine ol_val (v := .bool (decide (a0 = 95))) (by exact xr_pickF rfl rfl c36 rfl) rfl rfl rfl ?_
            refine ol_val (v := .bool (decide (a0 = 95))) (by exact xr_move rfl rfl) rfl rfl rfl ?_
            rcases bt (decide (a0 = 95)) with c37 | c37
            · skip
              refine ol_gskip rfl rfl rfl rfl rfl c37 ?_
              refine ol_gskip rfl rfl rfl rfl rfl c37 ?_
              refine ol_gskip rfl rfl rfl rfl rfl c37 ?_
              refine ol_uskip rfl rfl rfl rfl rfl ?_
              refine ol_uskip rfl rfl rfl rfl rfl ?_
              refine ol_gskip rfl rfl rfl rfl rfl c37 ?_
              refine ol_val (v := .bool true) (by exact xr_pickT rfl rfl c37 rfl) rfl rfl rfl ?_
              refine ol_val (v := .bool true) (by exact xr_assign rfl rfl) rfl rfl rfl ?_
              refine ol_nil ?_
              refine thn_i ?_
              exact ⟨(rfl).trans (congrArg (fun z => (.bool z : Value)) (show true = (if (decide (a0 ≥ 97)) = true then (if (decide (a0 ≤ 122)) = true then true else (if (decide (a0 ≥ 65)) = true then (if (decide (a0 ≤ 90)) = true then true else (if (decide (a0 ≥ 48)) = true then (if (decide (a0 ≤ 57)) = true then true else (if (decide (a0 = 45)) = true then true else (if (decide (a0 = 95)) = true then true else (if (decide (a0 ≥ 161)) = true then (decide (a0 ≤ 65519)) else false)))) else (if (decide (a0 = 45)) = true then true else (if (decide (a0 = 95)) = true then true else (if (decide (a0 ≥ 161)) = true then (decide (a0 ≤ 65519)) else false))))) else (if (decide (a0 ≥ 48)) = true then (if (decide (a0 ≤ 57)) = true then true else (if (decide (a0 = 45)) = true then true else (if (decide (a0 = 95)) = true then true else (if (decide (a0 ≥ 161)) = true then (decide (a0 ≤ 65519)) else false)))) else (if (decide (a0 = 45)) = true then true else (if (decide (a0 = 95)) = true then true else (if (decide (a0 ≥ 161)) = true then (decide (a0 ≤ 65519)) else false)))))) else (if (decide (a0 ≥ 65)) = true then (if (decide (a0 ≤ 90)) = true then true else (if (decide (a0 ≥ 48)) = true then (if (decide (a0 ≤ 57)) = true then true else (if (decide (a0 = 45)) = true then true else (if (decide (a0 = 95)) = true then true else (if (decide (a0 ≥ 161)) = true then (decide (a0 ≤ 65519)) else false)))) else (if (decide (a0 = 45)) = true then true else (if (decide (a0 = 95)) = true then true else (if (decide (a0 ≥ 161)) = true then (decide (a0 ≤ 65519)) else false))))) else (if (decide (a0 ≥ 48)) = true then (if (decide (a0 ≤ 57)) = true then true else (if (decide (a0 = 45)) = true then true else (if (decide (a0 = 95)) = true then true else (if (decide (a0 ≥ 161)) = true then (decide (a0 ≤ 65519)) else false)))) else (if (decide (a0 = 45)) = true then true else (if (decide (a0 = 95)) = true then true else (if (decide (a0 ≥ 161)) = true then (decide (a0 ≤ 65519)) else false)))))) from by rw [ite_f c1, ite_f c21, ite_f c31, ite_f c36, ite_t c37])), rfl⟩
            · skip
              refine ol_gval (v := .int .i64 a0) (by exact xr_move rfl rfl) rfl rfl rfl rfl rfl c37 ?_
              refine ol_gval (v := .bool (decide (a0 ≥ 161))) (by exact xr_geq rfl rfl rfl) rfl rfl rfl rfl rfl c37 ?_
              refine ol_gval (v := .bool (decide (a0 ≥ 161))) (by exact xr_move rfl rfl) rfl rfl rfl rfl rfl c37 ?_
              rcases bt (decide (a0 ≥ 161)) with c38 | c38
              · skip
                refine ol_gval (v := .int .i64 a0) (by exact xr_move rfl rfl) rfl rfl rfl rfl rfl c38 ?_
                refine ol_gval (v := .bool (decide (a0 ≤ 65519))) (by exact xr_leq rfl rfl rfl) rfl rfl rfl rfl rfl c38 ?_
                refine ol_gval (v := .bool (decide (a0 ≤ 65519))) (by exact xr_pickT rfl rfl c38 rfl) rfl rfl rfl rfl rfl c37 ?_
                refine ol_val (v := .bool (decide (a0 ≤ 65519))) (by exact xr_pickF rfl rfl c37 rfl) rfl rfl rfl ?_
                refine ol_val (v := .bool (decide (a0 ≤ 65519))) (by exact xr_assign rfl rfl) rfl rfl rfl ?_
                refine ol_nil ?_
                refine thn_i ?_
                exact ⟨(rfl).trans (congrArg (fun z => (.bool z : Value)) (show (decide (a0 ≤ 65519)) = (if (decide (a0 ≥ 97)) = true then (if (decide (a0 ≤ 122)) = true then true else (if (decide (a0 ≥ 65)) = true then (if (decide (a0 ≤ 90)) = true then true else (if (decide (a0 ≥ 48)) = true then (if (decide (a0 ≤ 57)) = true then true else (if (decide (a0 = 45)) = true then true else (if (decide (a0 = 95)) = true then true else (if (decide (a0 ≥ 161)) = true then (decide (a0 ≤ 65519)) else false)))) else (if (decide (a0 = 45)) = true then true else (if (decide (a0 = 95)) = true then true else (if (decide (a0 ≥ 161)) = true then (decide (a0 ≤ 65519)) else false))))) else (if (decide (a0 ≥ 48)) = true then (if (decide (a0 ≤ 57)) = true then true else (if (decide (a0 = 45)) = true then true else (if (decide (a0 = 95)) = true then true else (if (decide (a0 ≥ 161)) = true then (decide (a0 ≤ 65519)) else false)))) else (if (decide (a0 = 45)) = true then true else (if (decide (a0 = 95)) = true then true else (if (decide (a0 ≥ 161)) = true then (decide (a0 ≤ 65519)) else false)))))) else (if (decide (a0 ≥ 65)) = true then (if (decide (a0 ≤ 90)) = true then true else (if (decide (a0 ≥ 48)) = true then (if (decide (a0 ≤ 57)) = true then true else (if (decide (a0 = 45)) = true then true else (if (decide (a0 = 95)) = true then true else (if (decide (a0 ≥ 161)) = true then (decide (a0 ≤ 65519)) else false)))) else (if (decide (a0 = 45)) = true then true else (if (decide (a0 = 95)) = true then true else (if (decide (a0 ≥ 161)) = true then (decide (a0 ≤ 65519)) else false))))) else (if (decide (a0 ≥ 48)) = true then (if (decide (a0 ≤ 57)) = true then true else (if (decide (a0 = 45)) = true then true else (if (decide (a0 = 95)) = true then true else (if (decide (a0 ≥ 161)) = true then (decide (a0 ≤ 65519)) else false)))) else (if (decide (a0 = 45)) = true then true else (if (decide (a0 = 95)) = true then true else (if (decide (a0 ≥ 161)) = true then (decide (a0 ≤ 65519)) else false)))))) from by rw [ite_f c1, ite_f c21, ite_f c31, ite_f c36, ite_f c37, ite_t c38])), rfl⟩
              · skip
                refine ol_gskip rfl rfl rfl rfl rfl c38 ?_
                refine ol_gskip rfl rfl rfl rfl rfl c38 ?_
                refine ol_gval (v := .bool false) (by exact xr_pickF rfl rfl c38 rfl) rfl rfl rfl rfl rfl c37 ?_
                refine ol_val (v := .bool false) (by exact xr_pickF rfl rfl c37 rfl) rfl rfl rfl ?_
                refine ol_val (v := .bool false) (by exact xr_assign rfl rfl) rfl rfl rfl ?_
                refine ol_nil ?_
                refine thn_i ?_
                exact ⟨(rfl).trans (congrArg (fun z => (.bool z : Value)) (show false = (if (decide (a0 ≥ 97)) = true then (if (decide (a0 ≤ 122)) = true then true else (if (decide (a0 ≥ 65)) = true then (if (decide (a0 ≤ 90)) = true then true else (if (decide (a0 ≥ 48)) = true then (if (decide (a0 ≤ 57)) = true then true else (if (decide (a0 = 45)) = true then true else (if (decide (a0 = 95)) = true then true else (if (decide (a0 ≥ 161)) = true then (decide (a0 ≤ 65519)) else false)))) else (if (decide (a0 = 45)) = true then true else (if (decide (a0 = 95)) = true then true else (if (decide (a0 ≥ 161)) = true then (decide (a0 ≤ 65519)) else false))))) else (if (decide (a0 ≥ 48)) = true then (if (decide (a0 ≤ 57)) = true then true else (if (decide (a0 = 45)) = true then true else (if (decide (a0 = 95)) = true then true else (if (decide (a0 ≥ 161)) = true then (decide (a0 ≤ 65519)) else false)))) else (if (decide (a0 = 45)) = true then true else (if (decide (a0 = 95)) = true then true else (if (decide (a0 ≥ 161)) = true then (decide (a0 ≤ 65519)) else false)))))) else (if (decide (a0 ≥ 65)) = true then (if (decide (a0 ≤ 90)) = true then true else (if (decide (a0 ≥ 48)) = true then (if (decide (a0 ≤ 57)) = true then true else (if (decide (a0 = 45)) = true then true else (if (decide (a0 = 95)) = true then true else (if (decide (a0 ≥ 161)) = true then (decide (a0 ≤ 65519)) else false)))) else (if (decide (a0 = 45)) = true then true else (if (decide (a0 = 95)) = true then true else (if (decide (a0 ≥ 161)) = true then (decide (a0 ≤ 65519)) else false))))) else (if (decide (a0 ≥ 48)) = true then (if (decide (a0 ≤ 57)) = true then true else (if (decide (a0 = 45)) = true then true else (if (decide (a0 = 95)) = true then true else (if (decide (a0 ≥ 161)) = true then (decide (a0 ≤ 65519)) else false)))) else (if (decide (a0 = 45)) = true then true else (if (decide (a0 = 95)) = true then true else (if (decide (a0 ≥ 161)) = true then (decide (a0 ≤ 65519)) else false)))))) from by rw [ite_f c1, ite_f c21, ite_f c31, ite_f c36, ite_f c37, ite_f c38])), rfl⟩
  · skip
    rintro ρ39 _ ⟨e2, rfl⟩
    refine cw_ret ?_
    repeat (first | with_reducible refine thn_r ?_ | with_reducible refine blk_r ?_)
    obtain rfl := Option.some.inj h
    refine fin_ret1 Try.results140 e2 ?_
    exact ⟨_, rfl, rfl, fB⟩
end Go.Proofs.Ytjhajfkfhdnciaa

/- rickyard/rickyardref04.Right: its model, and that the Go function computes it: written by gen.py. -/
set_option linter.unusedVariables false
namespace Go.Proofs.Ytjhajfkfhdnciaa
open Go Go.Xw
def rickyardref04_Right.s0 (fu : Nat) (t1 : (List Int)) : (Bool × Int) → Option (Sum Bool (Bool × Int)) := fun s10 => (if (decide (s10.2 < (List.length t1 : Int))) = true then (((if s10.1 = true then (if 0 ≤ s10.2 ∧ s10.2 < (List.length t1 : Int) then ((rickyardref04_Of.f fu (ix t1 s10.2) : Option Bool).bind fun t22 => some (t22)) else none) else some (false)) : Option Bool).bind fun x18 => some (Sum.inr (x18, (IntKind.i64.wrap (s10.2 + 1))))) else some (Sum.inl (s10.1)))
def rickyardref04_Right.f (fu : Nat) (a0 : List UInt8) : Option Bool := ((rickyardref04_Runes.f fu a0 : Option (List Int)).bind fun t1 => ((loopM (rickyardref04_Right.s0 fu t1) fu ((if (decide ((List.length t1 : Int) > 0)) = true then (decide ((List.length t1 : Int) ≤ 8)) else false), 0)).bind fun e11 => some (e11)))
set_option maxRecDepth 100000 in
set_option maxHeartbeats 400000 in
theorem rickyardref04_Right.ok (fu : Nat) (w : World) (a0 : List UInt8) (r : Bool) (h : rickyardref04_Right.f fu a0 = some r) :
    Calls Try.prog 117 (([sv a0] : List Value).toArray) w (fun e w' => ∃ v, e = .returned v ∧ v = .bool r ∧ Gr w w') := by
  unfold rickyardref04_Right.f at h
  have fB : Gr w w := Fr.refl _ _
  refine calls_cw Try.func117 rfl Try.ntmps117 rfl ?_
  refine cw_seq ?_
  refine cw_region ?_
  refine ol_val (v := .bool false) (by exact xr_assign rfl rfl) rfl rfl rfl ?_
  refine ol_nil ?_
  refine cw_seq ?_
  refine cw_region ?_
  refine ol_val (v := sv a0) (by exact xr_move rfl rfl) rfl rfl rfl ?_
  obtain ⟨t1, k2, h⟩ := bs h
  refine ol_op (by exact opv_call rfl cal139 (ac rfl an) (rickyardref04_Runes.ok fu _ a0 _ k2)) rfl rfl rfl ?_
  rintro u3 w7 ⟨_, o4, rfl, q6⟩
  have o4 := Own.base o4 fB.size
  have fB := fB.gr q6
  refine ol_val (v := u3) (by exact xr_assign rfl rfl) rfl rfl rfl ?_
  refine ol_nil ?_
  refine cw_seq ?_
  refine cw_mid (fun ρ' w' => ρ' 3 = u3 ∧ ρ' 4 = .bool (if (decide ((List.length t1 : Int) > 0)) = true then (decide ((List.length t1 : Int) ≤ 8)) else false) ∧ w7 = w') ?_ ?_
  · skip
    refine cw_region ?_
    refine ol_val (v := u3) (by exact xr_move rfl rfl) rfl rfl rfl ?_
    refine ol_val (v := .int .i64 (List.length t1 : Int)) (by exact xr_lenR rfl Try.underlying45 rfl o4.rd) rfl rfl rfl ?_
    refine ol_val (v := .bool (decide ((List.length t1 : Int) > 0))) (by exact xr_gtr rfl rfl rfl) rfl rfl rfl ?_
    refine ol_val (v := .bool (decide ((List.length t1 : Int) > 0))) (by exact xr_move rfl rfl) rfl rfl rfl ?_
    rcases bt (decide ((List.length t1 : Int) > 0)) with c8 | c8
    · skip
      refine ol_gval (v := u3) (by exact xr_move rfl rfl) rfl rfl rfl rfl rfl c8 ?_
      refine ol_gval (v := .int .i64 (List.length t1 : Int)) (by exact xr_lenR rfl Try.underlying45 rfl o4.rd) rfl rfl rfl rfl rfl c8 ?_
      refine ol_gval (v := .bool (decide ((List.length t1 : Int) ≤ 8))) (by exact xr_leq rfl rfl rfl) rfl rfl rfl rfl rfl c8 ?_
      refine ol_val (v := .bool (decide ((List.length t1 : Int) ≤ 8))) (by exact xr_pickT rfl rfl c8 rfl) rfl rfl rfl ?_
      refine ol_val (v := .bool (decide ((List.length t1 : Int) ≤ 8))) (by exact xr_assign rfl rfl) rfl rfl rfl ?_
      refine ol_nil ?_
      refine thn_i ?_
      exact ⟨rfl, (rfl).trans (congrArg (fun z => (.bool z : Value)) (show (decide ((List.length t1 : Int) ≤ 8)) = (if (decide ((List.length t1 : Int) > 0)) = true then (decide ((List.length t1 : Int) ≤ 8)) else false) from by rw [ite_t c8])), rfl⟩
    · skip
      refine ol_gskip rfl rfl rfl rfl rfl c8 ?_
      refine ol_gskip rfl rfl rfl rfl rfl c8 ?_
      refine ol_gskip rfl rfl rfl rfl rfl c8 ?_
      refine ol_val (v := .bool false) (by exact xr_pickF rfl rfl c8 rfl) rfl rfl rfl ?_
      refine ol_val (v := .bool false) (by exact xr_assign rfl rfl) rfl rfl rfl ?_
      refine ol_nil ?_
      refine thn_i ?_
      exact ⟨rfl, (rfl).trans (congrArg (fun z => (.bool z : Value)) (show false = (if (decide ((List.length t1 : Int) > 0)) = true then (decide ((List.length t1 : Int) ≤ 8)) else false) from by rw [ite_f c8])), rfl⟩
  · skip
    rintro ρ9 _ ⟨e3, e4, rfl⟩
    refine cw_seq ?_
    refine cw_seq ?_
    refine cw_region ?_
    refine ol_val (v := .int .i64 0) (by exact xr_assign rfl rfl) rfl rfl rfl ?_
    refine ol_nil ?_
    obtain ⟨e11, l12, h13⟩ := bs h
    refine cw_mid (fun ρ' w' => ρ' 4 = .bool e11 ∧ Gr w w') ?_ ?_
    · refine cw_block ?_
      refine cw_round (fun (s10 : Bool × Int) ρ' w' => ∃ o4 : Own (kI .i64) 3 w' w.heap.size u3 t1, ρ' 3 = u3 ∧ ρ' 4 = .bool s10.1 ∧ ρ' 5 = .int .i64 s10.2 ∧ Gr w w') l12 ?_ ?_
      · skip
        exact ⟨o4, e3, e4, rfl, fB⟩
      · rintro s10 x16 ρ14 w15 ⟨o4, e3, e4, e5, fB⟩ h
        unfold rickyardref04_Right.s0 at h
        refine cw_seq ?_
        refine cw_seq ?_
        refine cw_region ?_
        refine ol_val (v := .int .i64 s10.2) (by exact xr_move rfl e5) rfl rfl rfl ?_
        refine ol_val (v := u3) (by exact xr_move rfl e3) rfl rfl rfl ?_
        refine ol_val (v := .int .i64 (List.length t1 : Int)) (by exact xr_lenR rfl Try.underlying45 rfl o4.rd) rfl rfl rfl ?_
        refine ol_val (v := .bool (decide (s10.2 < (List.length t1 : Int)))) (by exact xr_lss rfl rfl rfl) rfl rfl rfl ?_
        refine ol_nil ?_
        rcases is h with ⟨c17, h⟩ | ⟨c17, h⟩
        · refine cw_condT rfl c17 ?_
          refine cw_skip ?_
          refine cw_seq ?_
          refine cw_block ?_
          obtain ⟨x18, j19, h⟩ := bs h
          refine cw_mid (fun ρ' w' => ρ' 3 = u3 ∧ ρ' 4 = .bool x18 ∧ ρ' 5 = .int .i64 s10.2 ∧ Gr w15 w') ?_ ?_
          · skip
            refine cw_region ?_
            refine ol_val (v := .bool s10.1) (by exact xr_move rfl e4) rfl rfl rfl ?_
            refine ol_val (v := .bool s10.1) (by exact xr_move rfl rfl) rfl rfl rfl ?_
            rcases is j19 with ⟨c20, j19⟩ | ⟨c20, j19⟩
            · skip
              refine ol_gval (v := u3) (by exact xr_move rfl e3) rfl rfl rfl rfl rfl c20 ?_
              refine ol_gval (v := .int .i64 s10.2) (by exact xr_move rfl e5) rfl rfl rfl rfl rfl c20 ?_
              obtain ⟨g21, j19⟩ := gs j19
              refine ol_gval (v := .pointer (some ⟨(sb u3), so u3 + Int.toNat s10.2 * 1, none⟩)) (by exact xr_indexR (K := (kI .i64)) (v := u3) rfl Try.underlying45 sz3 rfl o4.rd rfl g21.1 g21.2) rfl rfl rfl rfl rfl c20 ?_
              refine ol_gval (v := .int .i64 (ix t1 s10.2)) (by exact xr_load1 (v := .int .i64 (ix t1 s10.2)) rfl ag3 rfl (o4.rd.elem g21.1 g21.2)) rfl rfl rfl rfl rfl c20 ?_
              obtain ⟨t22, k23, j19⟩ := bs j19
              refine ol_gop (by exact opv_call rfl cal140 (ac rfl an) (rickyardref04_Of.ok fu _ (ix t1 s10.2) _ k23)) rfl rfl rfl rfl rfl c20 ?_
              rintro _ w25 ⟨rfl, q24⟩
              have o4 := o4.gr q24
              have fB := fB.gr q24
              refine ol_val (v := .bool t22) (by exact xr_pickT rfl rfl c20 rfl) rfl rfl rfl ?_
              refine ol_val (v := .bool t22) (by exact xr_assign rfl rfl) rfl rfl rfl ?_
              refine ol_nil ?_
              obtain rfl := Option.some.inj j19
              refine thn_i ?_
              exact ⟨e3, rfl, e5, q24⟩
            · skip
              refine ol_gskip rfl rfl rfl rfl rfl c20 ?_
              refine ol_gskip rfl rfl rfl rfl rfl c20 ?_
              refine ol_gskip rfl rfl rfl rfl rfl c20 ?_
              refine ol_gskip rfl rfl rfl rfl rfl c20 ?_
              refine ol_gskip rfl rfl rfl rfl rfl c20 ?_
              refine ol_val (v := .bool false) (by exact xr_pickF rfl rfl c20 rfl) rfl rfl rfl ?_
              refine ol_val (v := .bool false) (by exact xr_assign rfl rfl) rfl rfl rfl ?_
              refine ol_nil ?_
              obtain rfl := Option.some.inj j19
              refine thn_i ?_
              exact ⟨e3, rfl, e5, Fr.refl _ _⟩
          · skip
            rintro ρ26 w27 ⟨e3, e4, e5, q28⟩
            have o4 := o4.gr q28
            have fB := fB.gr q28
            refine blk_i ?_
            refine cw_region ?_
            refine ol_val (v := .int .i64 s10.2) (by exact xr_move rfl e5) rfl rfl rfl ?_
            refine ol_val (v := .int .i64 (IntKind.i64.wrap (s10.2 + 1))) (by exact xr_add rfl rfl rfl) rfl rfl rfl ?_
            refine ol_val (v := .int .i64 (IntKind.i64.wrap (s10.2 + 1))) (by exact xr_assign rfl rfl) rfl rfl rfl ?_
            refine ol_nil ?_
            obtain rfl := Option.some.inj h
            refine lp_in ?_
            exact ⟨o4, e3, e4, rfl, fB⟩
        · refine cw_condF rfl c17 ?_
          refine cw_exit ?_
          repeat (first | with_reducible refine thn_e ?_ | with_reducible refine blk_e rfl ?_)
          obtain rfl := Option.some.inj h
          refine lp_exit ?_
          rintro rfl
          refine thn_x ?_
          exact ⟨e4, fB⟩
    · rintro ρ29 w30 ⟨e4, fB⟩
      have h := h13
      refine cw_seq ?_
      refine cw_region ?_
      refine ol_val (v := .bool e11) (by exact xr_move rfl e4) rfl rfl rfl ?_
      refine ol_val (v := .bool e11) (by exact xr_assign rfl rfl) rfl rfl rfl ?_
      refine ol_nil ?_
      refine cw_ret ?_
      repeat (first | with_reducible refine thn_r ?_ | with_reducible refine blk_r ?_)
      obtain rfl := Option.some.inj h
      refine fin_ret1 Try.results117 rfl ?_
      exact ⟨_, rfl, rfl, fB⟩
end Go.Proofs.Ytjhajfkfhdnciaa

/- Runes of texts, and which texts are names, as the program and the document tell it. -/
set_option linter.unusedVariables false
set_option linter.unusedSimpArgs false
namespace Go.Proofs.Ytjhajfkfhdnciaa.Pure
open Go Go.Xw
def oct (m : List UInt8) (k : Nat) : Nat := (m.getD k 0).toNat
theorem oct_lt (m : List UInt8) (k : Nat) : oct m k < 256 := (m.getD k 0).toNat_lt
/-- The first rune, and how many octets it has, out of the first four octets and how many there are. -/
def fst4 (c0 c1 c2 c3 n : Nat) : Nat × Nat :=
  if c0 < 128 then (c0, 1)
  else if (194 ≤ c0 ∧ c0 ≤ 223) ∧ (1 < n ∧ 128 ≤ c1 ∧ c1 ≤ 191) then ((c0 - 192) * 64 + (c1 - 128), 2)
  else if (224 ≤ c0 ∧ c0 ≤ 239) ∧ (1 < n ∧ (if c0 = 224 then 160 else 128) ≤ c1 ∧ c1 ≤ (if c0 = 237 then 159 else 191)) ∧ (2 < n ∧ 128 ≤ c2 ∧ c2 ≤ 191) then ((c0 - 224) * 4096 + (c1 - 128) * 64 + (c2 - 128), 3)
  else if (240 ≤ c0 ∧ c0 ≤ 244) ∧ (1 < n ∧ (if c0 = 240 then 144 else 128) ≤ c1 ∧ c1 ≤ (if c0 = 244 then 143 else 191)) ∧ (2 < n ∧ 128 ≤ c2 ∧ c2 ≤ 191) ∧ (3 < n ∧ 128 ≤ c3 ∧ c3 ≤ 191) then ((c0 - 240) * 262144 + (c1 - 128) * 4096 + (c2 - 128) * 64 + (c3 - 128), 4)
  else (65533, 1)
def first (m : List UInt8) : Nat × Nat := fst4 (oct m 0) (oct m 1) (oct m 2) (oct m 3) m.length
def dec4 (c0 c1 c2 c3 : Nat) (k1 k2 k3 : Bool) : Nat × Nat :=
  if c0 < 0x80 then (c0, 1)
  else if (c0 / 32 == 6 && (k1 && c1 / 64 == 2)) = true then
    (if (c0 % 32) * 64 + c1 % 64 ≥ 0x80 then ((c0 % 32) * 64 + c1 % 64, 2) else (0xFFFD, 1))
  else if (c0 / 16 == 14 && (k1 && c1 / 64 == 2) && (k2 && c2 / 64 == 2)) = true then
    (if (decide ((c0 % 16) * 4096 + (c1 % 64) * 64 + c2 % 64 ≥ 0x800) && Utf8.valid (((c0 % 16) * 4096 + (c1 % 64) * 64 + c2 % 64 : Nat) : Int)) = true then ((c0 % 16) * 4096 + (c1 % 64) * 64 + c2 % 64, 3) else (0xFFFD, 1))
  else if (c0 / 8 == 30 && (k1 && c1 / 64 == 2) && (k2 && c2 / 64 == 2) && (k3 && c3 / 64 == 2)) = true then
    (if (decide ((c0 % 8) * 262144 + (c1 % 64) * 4096 + (c2 % 64) * 64 + c3 % 64 ≥ 0x10000) && Utf8.valid (((c0 % 8) * 262144 + (c1 % 64) * 4096 + (c2 % 64) * 64 + c3 % 64 : Nat) : Int)) = true then ((c0 % 8) * 262144 + (c1 % 64) * 4096 + (c2 % 64) * 64 + c3 % 64, 4) else (0xFFFD, 1))
  else (0xFFFD, 1)
theorem dec_fst {c0 c1 c2 c3 n : Nat} (b0 : c0 < 256) (b1 : c1 < 256) (b2 : c2 < 256) (b3 : c3 < 256) : dec4 c0 c1 c2 c3 (decide (1 < n)) (decide (2 < n)) (decide (3 < n)) = fst4 c0 c1 c2 c3 n := by
  unfold dec4 fst4 Utf8.valid
  simp only [Bool.and_eq_true, Bool.or_eq_true, beq_iff_eq, decide_eq_true_eq]
  by_cases h0 : c0 < 128
  · rw [if_pos h0, if_pos h0]
  · rw [if_neg h0, if_neg h0]
    by_cases k1 : 1 < n ∧ 128 ≤ c1 ∧ c1 ≤ 191
    · have e1 : 1 < n ∧ c1 / 64 = 2 := by omega
      by_cases r2 : 192 ≤ c0 ∧ c0 ≤ 223
      · rw [if_pos (show c0 / 32 = 6 ∧ 1 < n ∧ c1 / 64 = 2 from ⟨by omega, e1⟩)]
        by_cases l2 : 194 ≤ c0
        · rw [if_pos (by omega), if_pos ⟨⟨l2, r2.2⟩, k1⟩]
          exact Prod.ext (by simp only; omega) rfl
        · rw [if_neg (by omega), if_neg (fun x => l2 x.1.1), if_neg (fun x => by have := x.1; omega), if_neg (fun x => by have := x.1; omega)]
      · rw [if_neg (show ¬ (c0 / 32 = 6 ∧ 1 < n ∧ c1 / 64 = 2) from fun x => by have := x.1; omega), if_neg (show ¬ ((194 ≤ c0 ∧ c0 ≤ 223) ∧ (1 < n ∧ 128 ≤ c1 ∧ c1 ≤ 191)) from fun x => by have := x.1; omega)]
        by_cases k2 : 2 < n ∧ 128 ≤ c2 ∧ c2 ≤ 191
        · have e2 : 2 < n ∧ c2 / 64 = 2 := by omega
          by_cases r3 : 224 ≤ c0 ∧ c0 ≤ 239
          · rw [if_pos (show (c0 / 16 = 14 ∧ 1 < n ∧ c1 / 64 = 2) ∧ 2 < n ∧ c2 / 64 = 2 from ⟨⟨by omega, e1⟩, e2⟩)]
            by_cases l3 : (if c0 = 224 then 160 else 128) ≤ c1 ∧ c1 ≤ (if c0 = 237 then 159 else 191)
            · rw [if_pos (show (224 ≤ c0 ∧ c0 ≤ 239) ∧ (1 < n ∧ (if c0 = 224 then 160 else 128) ≤ c1 ∧ c1 ≤ (if c0 = 237 then 159 else 191)) ∧ (2 < n ∧ 128 ≤ c2 ∧ c2 ≤ 191) from ⟨r3, ⟨k1.1, l3⟩, k2⟩)]
              have hl1 : c0 = 224 → 160 ≤ c1 := fun e => by have := l3.1; rwa [if_pos e] at this
              have hl2 : c0 = 237 → c1 ≤ 159 := fun e => by have := l3.2; rwa [if_pos e] at this
              rw [if_pos (by omega)]
              exact Prod.ext (by simp only; omega) rfl
            · rw [if_neg (show ¬ ((224 ≤ c0 ∧ c0 ≤ 239) ∧ (1 < n ∧ (if c0 = 224 then 160 else 128) ≤ c1 ∧ c1 ≤ (if c0 = 237 then 159 else 191)) ∧ (2 < n ∧ 128 ≤ c2 ∧ c2 ≤ 191)) from fun x => l3 x.2.1.2), if_neg (show ¬ ((240 ≤ c0 ∧ c0 ≤ 244) ∧ _) from fun x => by have := x.1; omega)]
              have hl : (c0 = 224 ∧ c1 < 160) ∨ (c0 = 237 ∧ 159 < c1) := by
                by_cases e4 : c0 = 224
                · left
                  refine ⟨e4, ?_⟩
                  apply Classical.byContradiction
                  intro hh
                  apply l3
                  rw [if_pos e4, if_neg (by omega)]
                  omega
                · right
                  by_cases e7 : c0 = 237
                  · refine ⟨e7, ?_⟩
                    apply Classical.byContradiction
                    intro hh
                    apply l3
                    rw [if_neg e4, if_pos e7]
                    omega
                  · exfalso
                    apply l3
                    rw [if_neg e4, if_neg e7]
                    omega
              rw [if_neg (by omega)]
          · rw [if_neg (show ¬ ((c0 / 16 = 14 ∧ 1 < n ∧ c1 / 64 = 2) ∧ 2 < n ∧ c2 / 64 = 2) from fun x => by have := x.1.1; omega), if_neg (show ¬ ((224 ≤ c0 ∧ c0 ≤ 239) ∧ _) from fun x => r3 x.1)]
            by_cases k3 : 3 < n ∧ 128 ≤ c3 ∧ c3 ≤ 191
            · have e3 : 3 < n ∧ c3 / 64 = 2 := by omega
              by_cases r4 : 240 ≤ c0 ∧ c0 ≤ 247
              · rw [if_pos (show ((c0 / 8 = 30 ∧ 1 < n ∧ c1 / 64 = 2) ∧ 2 < n ∧ c2 / 64 = 2) ∧ 3 < n ∧ c3 / 64 = 2 from ⟨⟨⟨by omega, e1⟩, e2⟩, e3⟩)]
                by_cases l4 : c0 ≤ 244 ∧ (if c0 = 240 then 144 else 128) ≤ c1 ∧ c1 ≤ (if c0 = 244 then 143 else 191)
                · rw [if_pos (show (240 ≤ c0 ∧ c0 ≤ 244) ∧ (1 < n ∧ (if c0 = 240 then 144 else 128) ≤ c1 ∧ c1 ≤ (if c0 = 244 then 143 else 191)) ∧ (2 < n ∧ 128 ≤ c2 ∧ c2 ≤ 191) ∧ (3 < n ∧ 128 ≤ c3 ∧ c3 ≤ 191) from ⟨⟨r4.1, l4.1⟩, ⟨k1.1, l4.2⟩, k2, k3⟩)]
                  have hl1 : c0 = 240 → 144 ≤ c1 := fun e => by have := l4.2.1; rwa [if_pos e] at this
                  have hl2 : c0 = 244 → c1 ≤ 143 := fun e => by have := l4.2.2; rwa [if_pos e] at this
                  rw [if_pos (by omega)]
                  exact Prod.ext (by simp only; omega) rfl
                · rw [if_neg (show ¬ ((240 ≤ c0 ∧ c0 ≤ 244) ∧ (1 < n ∧ (if c0 = 240 then 144 else 128) ≤ c1 ∧ c1 ≤ (if c0 = 244 then 143 else 191)) ∧ (2 < n ∧ 128 ≤ c2 ∧ c2 ≤ 191) ∧ (3 < n ∧ 128 ≤ c3 ∧ c3 ≤ 191)) from fun x => l4 ⟨x.1.2, x.2.1.2⟩)]
                  have hl : 244 < c0 ∨ (c0 = 240 ∧ c1 < 144) ∨ (c0 = 244 ∧ 143 < c1) := by
                    by_cases e5 : 244 < c0
                    · exact .inl e5
                    · by_cases e4 : c0 = 240
                      · right
                        left
                        refine ⟨e4, ?_⟩
                        apply Classical.byContradiction
                        intro hh
                        apply l4
                        rw [if_pos e4, if_neg (by omega)]
                        omega
                      · right
                        right
                        by_cases e7 : c0 = 244
                        · refine ⟨e7, ?_⟩
                          apply Classical.byContradiction
                          intro hh
                          apply l4
                          rw [if_neg e4, if_pos e7]
                          omega
                        · exfalso
                          apply l4
                          rw [if_neg e4, if_neg e7]
                          omega
                  rw [if_neg (by omega)]
              · rw [if_neg (show ¬ (((c0 / 8 = 30 ∧ 1 < n ∧ c1 / 64 = 2) ∧ 2 < n ∧ c2 / 64 = 2) ∧ 3 < n ∧ c3 / 64 = 2) from fun x => by have := x.1.1.1; omega), if_neg (show ¬ ((240 ≤ c0 ∧ c0 ≤ 244) ∧ _) from fun x => by have := x.1; omega)]
            · rw [if_neg (show ¬ (((c0 / 8 = 30 ∧ 1 < n ∧ c1 / 64 = 2) ∧ 2 < n ∧ c2 / 64 = 2) ∧ 3 < n ∧ c3 / 64 = 2) from fun x => k3 (by have := x.2; omega)), if_neg (fun x => k3 x.2.2.2)]
        · rw [if_neg (show ¬ ((c0 / 16 = 14 ∧ 1 < n ∧ c1 / 64 = 2) ∧ 2 < n ∧ c2 / 64 = 2) from fun x => k2 (by have := x.2; omega)), if_neg (show ¬ (((c0 / 8 = 30 ∧ 1 < n ∧ c1 / 64 = 2) ∧ 2 < n ∧ c2 / 64 = 2) ∧ 3 < n ∧ c3 / 64 = 2) from fun x => k2 (by have := x.1.2; omega)), if_neg (fun x => k2 x.2.2), if_neg (fun x => k2 x.2.2.1)]
    · have q3 : (224 ≤ c0 ∧ c0 ≤ 239) ∧ (1 < n ∧ (if c0 = 224 then 160 else 128) ≤ c1 ∧ c1 ≤ (if c0 = 237 then 159 else 191)) ∧ (2 < n ∧ 128 ≤ c2 ∧ c2 ≤ 191) → False := by
        rintro ⟨_, ⟨h1, h2, h3⟩, _⟩
        have h4 : (128 : Nat) ≤ if c0 = 224 then 160 else 128 := by split <;> omega
        have h5 : (if c0 = 237 then 159 else 191) ≤ 191 := by split <;> omega
        exact k1 ⟨h1, by omega, by omega⟩
      have q4 : (240 ≤ c0 ∧ c0 ≤ 244) ∧ (1 < n ∧ (if c0 = 240 then 144 else 128) ≤ c1 ∧ c1 ≤ (if c0 = 244 then 143 else 191)) ∧ (2 < n ∧ 128 ≤ c2 ∧ c2 ≤ 191) ∧ (3 < n ∧ 128 ≤ c3 ∧ c3 ≤ 191) → False := by
        rintro ⟨_, ⟨h1, h2, h3⟩, _⟩
        have h4 : (128 : Nat) ≤ if c0 = 240 then 144 else 128 := by split <;> omega
        have h5 : (if c0 = 244 then 143 else 191) ≤ 191 := by split <;> omega
        exact k1 ⟨h1, by omega, by omega⟩
      rw [if_neg (show ¬ (c0 / 32 = 6 ∧ 1 < n ∧ c1 / 64 = 2) from fun x => k1 (by have := x.2; omega)), if_neg (show ¬ ((c0 / 16 = 14 ∧ 1 < n ∧ c1 / 64 = 2) ∧ 2 < n ∧ c2 / 64 = 2) from fun x => k1 (by have := x.1.2; omega)), if_neg (show ¬ (((c0 / 8 = 30 ∧ 1 < n ∧ c1 / 64 = 2) ∧ 2 < n ∧ c2 / 64 = 2) ∧ 3 < n ∧ c3 / 64 = 2) from fun x => k1 (by have := x.1.1.2; omega)), if_neg (fun x => k1 x.2), if_neg q3, if_neg q4]
theorem decode_eq (l : List UInt8) (i : Nat) : Utf8.decode ⟨l.toArray⟩ i = first (l.drop i) := by
  have hg : ∀ k, ((⟨l.toArray⟩ : ByteArray).get! (i + k)).toNat = oct (l.drop i) k := by
    intro k
    unfold oct
    rw [List.getD_eq_getElem?_getD, List.getElem?_drop]
    show ((l.toArray)[i + k]!).toNat = _
    rw [getElem!_def]
    simp
    cases l[i + k]? <;> rfl
  have hs : ∀ k, decide (i + k < (⟨l.toArray⟩ : ByteArray).size) = decide (k < (l.drop i).length) := by
    intro k
    apply decide_eq_decide.2
    rw [List.length_drop]
    show i + k < l.toArray.size ↔ _
    rw [List.size_toArray]
    omega
  have e : Utf8.decode ⟨l.toArray⟩ i = dec4 (oct (l.drop i) 0) (oct (l.drop i) 1) (oct (l.drop i) 2) (oct (l.drop i) 3) (decide (1 < (l.drop i).length)) (decide (2 < (l.drop i).length)) (decide (3 < (l.drop i).length)) := by
    unfold Utf8.decode dec4
    simp only [hg, hs, Utf8.runeError]
  rw [e]
  exact dec_fst (oct_lt _ _) (oct_lt _ _) (oct_lt _ _) (oct_lt _ _)
theorem first_wide {m : List UInt8} (h : 0 < m.length) : 1 ≤ (first m).2 ∧ (first m).2 ≤ m.length := by
  unfold first
  generalize oct m 0 = c0
  generalize oct m 1 = c1
  generalize oct m 2 = c2
  generalize oct m 3 = c3
  generalize m.length = n at *
  unfold fst4
  by_cases h0 : c0 < 128
  · rw [if_pos h0]
    exact ⟨Nat.le_refl _, h⟩
  · rw [if_neg h0]
    by_cases h2 : (194 ≤ c0 ∧ c0 ≤ 223) ∧ (1 < n ∧ 128 ≤ c1 ∧ c1 ≤ 191)
    · rw [if_pos h2]
      have := h2.2.1
      exact ⟨by simp, by simp only; omega⟩
    · rw [if_neg h2]
      by_cases h3 : (224 ≤ c0 ∧ c0 ≤ 239) ∧ (1 < n ∧ (if c0 = 224 then 160 else 128) ≤ c1 ∧ c1 ≤ (if c0 = 237 then 159 else 191)) ∧ (2 < n ∧ 128 ≤ c2 ∧ c2 ≤ 191)
      · rw [if_pos h3]
        have := h3.2.2.1
        exact ⟨by simp, by simp only; omega⟩
      · rw [if_neg h3]
        by_cases h4 : (240 ≤ c0 ∧ c0 ≤ 244) ∧ (1 < n ∧ (if c0 = 240 then 144 else 128) ≤ c1 ∧ c1 ≤ (if c0 = 244 then 143 else 191)) ∧ (2 < n ∧ 128 ≤ c2 ∧ c2 ≤ 191) ∧ (3 < n ∧ 128 ≤ c3 ∧ c3 ≤ 191)
        · rw [if_pos h4]
          have := h4.2.2.2.1
          exact ⟨by simp, by simp only; omega⟩
        · rw [if_neg h4]
          exact ⟨Nat.le_refl _, h⟩
end Go.Proofs.Ytjhajfkfhdnciaa.Pure

/- Which texts are names. -/
set_option linter.unusedVariables false
set_option linter.unusedSimpArgs false
namespace Go.Proofs.Ytjhajfkfhdnciaa.Pure
open Go Go.Xw
theorem rune_first (s : List UInt8) (i : Nat) : runeAt s (i : Int) = ((first (s.drop i)).1 : Int) ∧ wideAt s (i : Int) = ((first (s.drop i)).2 : Int) := by
  unfold runeAt wideAt
  rw [Int.toNat_natCast, decode_eq]
  exact ⟨rfl, rfl⟩
theorem follows_eq (fu : Nat) (m : List UInt8) (k : Nat) (lo hi : Int) : rickyardref04_follows.f fu m (k : Int) lo hi = some (decide (k < m.length ∧ lo ≤ (oct m k : Int) ∧ (oct m k : Int) ≤ hi)) := by
  unfold rickyardref04_follows.f
  have e : ofB (List.getD m (Int.toNat (k : Int)) 0) = (oct m k : Int) := rfl
  rw [e]
  by_cases h1 : k < m.length
  · have h1' : (k : Int) < (m.length : Int) := by omega
    have c1 : 0 ≤ (k : Int) ∧ (k : Int) < (m.length : Int) := by omega
    rw [decide_eq_true h1', if_pos rfl, if_pos c1]
    by_cases h2 : (oct m k : Int) ≥ lo
    · rw [decide_eq_true h2, if_pos rfl, if_pos c1]
      exact congrArg some (decide_eq_decide.2 ⟨fun x => ⟨h1, h2, x⟩, fun x => x.2.2⟩)
    · rw [decide_eq_false h2, decide_eq_false (fun x : k < m.length ∧ lo ≤ (oct m k : Int) ∧ (oct m k : Int) ≤ hi => h2 x.2.1)]
      rfl
  · have h1' : ¬ (k : Int) < (m.length : Int) := by omega
    rw [decide_eq_false h1', decide_eq_false (fun x : k < m.length ∧ lo ≤ (oct m k : Int) ∧ (oct m k : Int) ≤ hi => h1 x.1)]
    rfl
theorem wrap8 {c k : Nat} (h : k ≤ c) (hc : c < 256) : IntKind.i64.wrap (IntKind.u8.wrap ((c : Int) - (k : Int))) = ((c - k : Nat) : Int) := by
  rw [wu8 (by omega) (by omega), w64 (by omega) (by omega)]
  omega
theorem first_eq {fu : Nat} {m : List UInt8} (hm : 0 < m.length) : rickyardref04_First.f fu m = some (((first m).1 : Int), ((first m).2 : Int)) := by
  unfold rickyardref04_First.f
  have hm' : (0 : Int) < (m.length : Int) := by omega
  have o0 : ofB (List.getD m (Int.toNat 0) 0) = (oct m 0 : Int) := rfl
  have o1 : ofB (List.getD m (Int.toNat 1) 0) = (oct m 1 : Int) := rfl
  have o2 : ofB (List.getD m (Int.toNat 2) 0) = (oct m 2 : Int) := rfl
  have o3 : ofB (List.getD m (Int.toNat 3) 0) = (oct m 3 : Int) := rfl
  have b0 := oct_lt m 0
  have b1 := oct_lt m 1
  have b2 := oct_lt m 2
  have b3 := oct_lt m 3
  have f1 := fun lo hi => follows_eq fu m 1 lo hi
  have f2 := fun lo hi => follows_eq fu m 2 lo hi
  have f3 := fun lo hi => follows_eq fu m 3 lo hi
  rw [show ((1 : Nat) : Int) = 1 from rfl] at f1
  rw [show ((2 : Nat) : Int) = 2 from rfl] at f2
  rw [show ((3 : Nat) : Int) = 3 from rfl] at f3
  rw [if_pos hm']
  simp only [o0, o1, o2, o3, f1, f2, f3, Option.bind_some]
  unfold first
  generalize oct m 0 = c0 at *
  generalize oct m 1 = c1 at *
  generalize oct m 2 = c2 at *
  generalize oct m 3 = c3 at *
  generalize m.length = n at *
  unfold fst4
  by_cases h0 : c0 < 128
  · have h0' : (c0 : Int) < 128 := by omega
    rw [decide_eq_true h0', if_pos rfl, if_pos h0, w64 (by omega) (by omega)]
    rfl
  · have h0' : ¬ (c0 : Int) < 128 := by omega
    rw [decide_eq_false h0', if_neg (by decide), if_neg h0]
    by_cases h2 : (194 ≤ c0 ∧ c0 ≤ 223) ∧ (1 < n ∧ 128 ≤ c1 ∧ c1 ≤ 191)
    · obtain ⟨⟨r1, r2⟩, k1⟩ := h2
      have g1 : (c0 : Int) ≥ 194 := by omega
      have g2 : (c0 : Int) ≤ 223 := by omega
      have g3 : 1 < n ∧ (128 : Int) ≤ (c1 : Int) ∧ (c1 : Int) ≤ 191 := by omega
      have g4 : (1 : Int) < (n : Int) := by omega
      have w1 : IntKind.i64.wrap (IntKind.u8.wrap ((c0 : Int) - 192)) = ((c0 - 192 : Nat) : Int) := wrap8 (k := 192) (by omega) b0
      have w2 : IntKind.i64.wrap (IntKind.u8.wrap ((c1 : Int) - 128)) = ((c1 - 128 : Nat) : Int) := wrap8 (k := 128) (by omega) b1
      rw [if_pos (show (194 ≤ c0 ∧ c0 ≤ 223) ∧ (1 < n ∧ 128 ≤ c1 ∧ c1 ≤ 191) from ⟨⟨r1, r2⟩, k1⟩), decide_eq_true g1, decide_eq_true g2, decide_eq_true g3, w1, w2, w64 (n := ((c0 - 192 : Nat) : Int) * 64) (by omega) (by omega), w64 (by omega) (by omega)]
      simp only [if_true, Option.bind_some, if_pos g4]
      exact congrArg some (Prod.ext (by simp) rfl)
    · rw [if_neg h2]
      have x3 : (if decide ((c0 : Int) ≥ 194) = true then (if decide ((c0 : Int) ≤ 223) = true then (some (decide (1 < n ∧ (128 : Int) ≤ (c1 : Int) ∧ (c1 : Int) ≤ 191))).bind fun t7 => some t7 else some false) else some false) = some false := by
        by_cases g1 : (c0 : Int) ≥ 194
        · by_cases g2 : (c0 : Int) ≤ 223
          · have g3 : ¬ (1 < n ∧ (128 : Int) ≤ (c1 : Int) ∧ (c1 : Int) ≤ 191) := fun x => h2 ⟨by omega, by omega⟩
            rw [decide_eq_true g1, decide_eq_true g2, decide_eq_false g3]
            rfl
          · rw [decide_eq_true g1, decide_eq_false g2]
            rfl
        · rw [decide_eq_false g1]
          rfl
      simp only [Option.bind_some] at x3
      rw [x3, Option.bind_some, if_neg (by decide)]
      by_cases r3 : 224 ≤ c0 ∧ c0 ≤ 239
      · have g1 : (c0 : Int) ≥ 224 := by omega
        have g2 : (c0 : Int) ≤ 239 := by omega
        rw [decide_eq_true g1, decide_eq_true g2]
        have x23 : (if decide ((c0 : Int) = 224) = true then some (160 : Int) else some 128) = some (((if c0 = 224 then 160 else 128 : Nat) : Int)) := by
          by_cases e : c0 = 224
          · rw [decide_eq_true (by omega : (c0 : Int) = 224), if_pos e]
            rfl
          · rw [decide_eq_false (by omega : ¬ (c0 : Int) = 224), if_neg e]
            rfl
        have x29 : (if decide ((c0 : Int) = 237) = true then some (159 : Int) else some 191) = some (((if c0 = 237 then 159 else 191 : Nat) : Int)) := by
          by_cases e : c0 = 237
          · rw [decide_eq_true (by omega : (c0 : Int) = 237), if_pos e]
            rfl
          · rw [decide_eq_false (by omega : ¬ (c0 : Int) = 237), if_neg e]
            rfl
        simp only [if_true, x23, x29, Option.bind_some]
        have n4 : ¬ ((240 ≤ c0 ∧ c0 ≤ 244) ∧ (1 < n ∧ (if c0 = 240 then 144 else 128) ≤ c1 ∧ c1 ≤ (if c0 = 244 then 143 else 191)) ∧ (2 < n ∧ 128 ≤ c2 ∧ c2 ≤ 191) ∧ (3 < n ∧ 128 ≤ c3 ∧ c3 ≤ 191)) := fun x => by have := x.1; omega
        by_cases a1 : 1 < n ∧ (if c0 = 224 then 160 else 128) ≤ c1 ∧ c1 ≤ (if c0 = 237 then 159 else 191)
        · have a1' : 1 < n ∧ (((if c0 = 224 then 160 else 128 : Nat) : Int)) ≤ (c1 : Int) ∧ (c1 : Int) ≤ (((if c0 = 237 then 159 else 191 : Nat) : Int)) := ⟨a1.1, Int.ofNat_le.2 a1.2.1, Int.ofNat_le.2 a1.2.2⟩
          rw [decide_eq_true a1']
          by_cases a2 : 2 < n ∧ 128 ≤ c2 ∧ c2 ≤ 191
          · have a2' : 2 < n ∧ (128 : Int) ≤ (c2 : Int) ∧ (c2 : Int) ≤ 191 := by omega
            have q1 : (128 : Nat) ≤ if c0 = 224 then 160 else 128 := by split <;> omega
            have k1 : 128 ≤ c1 := Nat.le_trans q1 a1.2.1
            have g4 : (1 : Int) < (n : Int) := by omega
            have g5 : (2 : Int) < (n : Int) := by omega
            have w0 : IntKind.i64.wrap (IntKind.u8.wrap ((c0 : Int) - 224)) = ((c0 - 224 : Nat) : Int) := wrap8 (k := 224) (by omega) b0
            have w1 : IntKind.i64.wrap (IntKind.u8.wrap ((c1 : Int) - 128)) = ((c1 - 128 : Nat) : Int) := wrap8 (k := 128) (by omega) b1
            have w2 : IntKind.i64.wrap (IntKind.u8.wrap ((c2 : Int) - 128)) = ((c2 - 128 : Nat) : Int) := wrap8 (k := 128) (by omega) b2
            rw [decide_eq_true a2', if_pos (show (224 ≤ c0 ∧ c0 ≤ 239) ∧ (1 < n ∧ (if c0 = 224 then 160 else 128) ≤ c1 ∧ c1 ≤ (if c0 = 237 then 159 else 191)) ∧ (2 < n ∧ 128 ≤ c2 ∧ c2 ≤ 191) from ⟨r3, a1, a2⟩)]
            simp only [if_true, Option.bind_some, if_pos g4, if_pos g5, w0, w1, w2]
            rw [w64 (n := ((c0 - 224 : Nat) : Int) * 4096) (by omega) (by omega), w64 (n := ((c1 - 128 : Nat) : Int) * 64) (by omega) (by omega), w64 (n := ((c0 - 224 : Nat) : Int) * 4096 + ((c1 - 128 : Nat) : Int) * 64) (by omega) (by omega), w64 (by omega) (by omega)]
            exact congrArg some (Prod.ext (by simp) rfl)
          · have a2' : ¬ (2 < n ∧ (128 : Int) ≤ (c2 : Int) ∧ (c2 : Int) ≤ 191) := by omega
            rw [decide_eq_false a2', if_neg (show ¬ ((224 ≤ c0 ∧ c0 ≤ 239) ∧ (1 < n ∧ (if c0 = 224 then 160 else 128) ≤ c1 ∧ c1 ≤ (if c0 = 237 then 159 else 191)) ∧ (2 < n ∧ 128 ≤ c2 ∧ c2 ≤ 191)) from fun x => a2 x.2.2), if_neg n4]
            rfl
        · have a1' : ¬ (1 < n ∧ (((if c0 = 224 then 160 else 128 : Nat) : Int)) ≤ (c1 : Int) ∧ (c1 : Int) ≤ (((if c0 = 237 then 159 else 191 : Nat) : Int))) := fun x => a1 ⟨x.1, Int.ofNat_le.1 x.2.1, Int.ofNat_le.1 x.2.2⟩
          rw [decide_eq_false a1', if_neg (show ¬ ((224 ≤ c0 ∧ c0 ≤ 239) ∧ (1 < n ∧ (if c0 = 224 then 160 else 128) ≤ c1 ∧ c1 ≤ (if c0 = 237 then 159 else 191)) ∧ (2 < n ∧ 128 ≤ c2 ∧ c2 ≤ 191)) from fun x => a1 x.2.1), if_neg n4]
          rfl
      · have x9 : (if decide ((c0 : Int) ≥ 224) = true then decide ((c0 : Int) ≤ 239) else false) = false := by
          by_cases g1 : (c0 : Int) ≥ 224
          · rw [decide_eq_true g1, if_pos rfl, decide_eq_false (by omega)]
          · rw [decide_eq_false g1]
            rfl
        rw [x9, if_neg (by decide), if_neg (show ¬ ((224 ≤ c0 ∧ c0 ≤ 239) ∧ _) from fun x => r3 x.1)]
        by_cases r4 : 240 ≤ c0 ∧ c0 ≤ 244
        · have g1 : (c0 : Int) ≥ 240 := by omega
          have g2 : (c0 : Int) ≤ 244 := by omega
          rw [decide_eq_true g1, decide_eq_true g2]
          have x62 : (if decide ((c0 : Int) = 240) = true then some (144 : Int) else some 128) = some (((if c0 = 240 then 144 else 128 : Nat) : Int)) := by
            by_cases e : c0 = 240
            · rw [decide_eq_true (by omega : (c0 : Int) = 240), if_pos e]
              rfl
            · rw [decide_eq_false (by omega : ¬ (c0 : Int) = 240), if_neg e]
              rfl
          have x68 : (if decide ((c0 : Int) = 244) = true then some (143 : Int) else some 191) = some (((if c0 = 244 then 143 else 191 : Nat) : Int)) := by
            by_cases e : c0 = 244
            · rw [decide_eq_true (by omega : (c0 : Int) = 244), if_pos e]
              rfl
            · rw [decide_eq_false (by omega : ¬ (c0 : Int) = 244), if_neg e]
              rfl
          simp only [if_true, x62, x68, Option.bind_some]
          by_cases a1 : 1 < n ∧ (if c0 = 240 then 144 else 128) ≤ c1 ∧ c1 ≤ (if c0 = 244 then 143 else 191)
          · have a1' : 1 < n ∧ (((if c0 = 240 then 144 else 128 : Nat) : Int)) ≤ (c1 : Int) ∧ (c1 : Int) ≤ (((if c0 = 244 then 143 else 191 : Nat) : Int)) := ⟨a1.1, Int.ofNat_le.2 a1.2.1, Int.ofNat_le.2 a1.2.2⟩
            rw [decide_eq_true a1']
            by_cases a2 : 2 < n ∧ 128 ≤ c2 ∧ c2 ≤ 191
            · have a2' : 2 < n ∧ (128 : Int) ≤ (c2 : Int) ∧ (c2 : Int) ≤ 191 := by omega
              rw [decide_eq_true a2']
              by_cases a3 : 3 < n ∧ 128 ≤ c3 ∧ c3 ≤ 191
              · have a3' : 3 < n ∧ (128 : Int) ≤ (c3 : Int) ∧ (c3 : Int) ≤ 191 := by omega
                have q1 : (128 : Nat) ≤ if c0 = 240 then 144 else 128 := by split <;> omega
                have k1 : 128 ≤ c1 := Nat.le_trans q1 a1.2.1
                have g4 : (1 : Int) < (n : Int) := by omega
                have g5 : (2 : Int) < (n : Int) := by omega
                have g6 : (3 : Int) < (n : Int) := by omega
                have w0 : IntKind.i64.wrap (IntKind.u8.wrap ((c0 : Int) - 240)) = ((c0 - 240 : Nat) : Int) := wrap8 (k := 240) (by omega) b0
                have w1 : IntKind.i64.wrap (IntKind.u8.wrap ((c1 : Int) - 128)) = ((c1 - 128 : Nat) : Int) := wrap8 (k := 128) (by omega) b1
                have w2 : IntKind.i64.wrap (IntKind.u8.wrap ((c2 : Int) - 128)) = ((c2 - 128 : Nat) : Int) := wrap8 (k := 128) (by omega) b2
                have w3 : IntKind.i64.wrap (IntKind.u8.wrap ((c3 : Int) - 128)) = ((c3 - 128 : Nat) : Int) := wrap8 (k := 128) (by omega) b3
                rw [decide_eq_true a3', if_pos (show (240 ≤ c0 ∧ c0 ≤ 244) ∧ (1 < n ∧ (if c0 = 240 then 144 else 128) ≤ c1 ∧ c1 ≤ (if c0 = 244 then 143 else 191)) ∧ (2 < n ∧ 128 ≤ c2 ∧ c2 ≤ 191) ∧ (3 < n ∧ 128 ≤ c3 ∧ c3 ≤ 191) from ⟨r4, a1, a2, a3⟩)]
                simp only [if_true, Option.bind_some, if_pos g4, if_pos g5, if_pos g6, w0, w1, w2, w3]
                rw [w64 (n := ((c0 - 240 : Nat) : Int) * 262144) (by omega) (by omega), w64 (n := ((c1 - 128 : Nat) : Int) * 4096) (by omega) (by omega), w64 (n := ((c2 - 128 : Nat) : Int) * 64) (by omega) (by omega), w64 (n := ((c0 - 240 : Nat) : Int) * 262144 + ((c1 - 128 : Nat) : Int) * 4096) (by omega) (by omega), w64 (n := ((c0 - 240 : Nat) : Int) * 262144 + ((c1 - 128 : Nat) : Int) * 4096 + ((c2 - 128 : Nat) : Int) * 64) (by omega) (by omega), w64 (by omega) (by omega)]
                exact congrArg some (Prod.ext (by simp) rfl)
              · have a3' : ¬ (3 < n ∧ (128 : Int) ≤ (c3 : Int) ∧ (c3 : Int) ≤ 191) := by omega
                rw [decide_eq_false a3', if_neg (show ¬ ((240 ≤ c0 ∧ c0 ≤ 244) ∧ (1 < n ∧ (if c0 = 240 then 144 else 128) ≤ c1 ∧ c1 ≤ (if c0 = 244 then 143 else 191)) ∧ (2 < n ∧ 128 ≤ c2 ∧ c2 ≤ 191) ∧ (3 < n ∧ 128 ≤ c3 ∧ c3 ≤ 191)) from fun x => a3 x.2.2.2)]
                rfl
            · have a2' : ¬ (2 < n ∧ (128 : Int) ≤ (c2 : Int) ∧ (c2 : Int) ≤ 191) := by omega
              rw [decide_eq_false a2', if_neg (show ¬ ((240 ≤ c0 ∧ c0 ≤ 244) ∧ (1 < n ∧ (if c0 = 240 then 144 else 128) ≤ c1 ∧ c1 ≤ (if c0 = 244 then 143 else 191)) ∧ (2 < n ∧ 128 ≤ c2 ∧ c2 ≤ 191) ∧ (3 < n ∧ 128 ≤ c3 ∧ c3 ≤ 191)) from fun x => a2 x.2.2.1)]
              rfl
          · have a1' : ¬ (1 < n ∧ (((if c0 = 240 then 144 else 128 : Nat) : Int)) ≤ (c1 : Int) ∧ (c1 : Int) ≤ (((if c0 = 244 then 143 else 191 : Nat) : Int))) := fun x => a1 ⟨x.1, Int.ofNat_le.1 x.2.1, Int.ofNat_le.1 x.2.2⟩
            rw [decide_eq_false a1', if_neg (show ¬ ((240 ≤ c0 ∧ c0 ≤ 244) ∧ (1 < n ∧ (if c0 = 240 then 144 else 128) ≤ c1 ∧ c1 ≤ (if c0 = 244 then 143 else 191)) ∧ (2 < n ∧ 128 ≤ c2 ∧ c2 ≤ 191) ∧ (3 < n ∧ 128 ≤ c3 ∧ c3 ≤ 191)) from fun x => a1 x.2.1)]
            rfl
        · have x9 : (if decide ((c0 : Int) ≥ 240) = true then decide ((c0 : Int) ≤ 244) else false) = false := by
            by_cases g1 : (c0 : Int) ≥ 240
            · rw [decide_eq_true g1, if_pos rfl, decide_eq_false (by omega)]
            · rw [decide_eq_false g1]
              rfl
          rw [x9, if_neg (by decide), if_neg (show ¬ ((240 ≤ c0 ∧ c0 ≤ 244) ∧ _) from fun x => r4 x.1)]
          rfl
/-! ### Runes -/
def rs : Nat → List UInt8 → List Int
  | 0, _ => []
  | k + 1, m => if m = [] then [] else ((first m).1 : Int) :: rs k (m.drop (first m).2)
theorem rs_len : ∀ (k : Nat) (m : List UInt8), (rs k m).length ≤ m.length
  | 0, _ => by simp [rs]
  | k + 1, m => by
    unfold rs
    split
    · simp
    · rename_i hm
      have h1 := first_wide (List.length_pos_iff.2 hm)
      have h2 := rs_len k (m.drop (first m).2)
      rw [List.length_drop] at h2
      simp only [List.length_cons]
      omega
theorem rrunes_from (fu : Nat) : ∀ (k : Nat) (m : List UInt8) (out : List Int), m.length ≤ k → out.length + m.length ≤ 900 → loopM (rickyardref04_Runes.s0 fu) (k + 1) (m, out) = some (out ++ rs k m)
  | 0, m, out, hk, _ => by
    obtain rfl : m = [] := List.eq_nil_of_length_eq_zero (by omega)
    simp [loopM, rickyardref04_Runes.s0, rs]
  | k + 1, m, out, hk, hl => by
    by_cases hm : m = []
    · subst hm
      simp [loopM, rickyardref04_Runes.s0, rs]
    · have hp := List.length_pos_iff.2 hm
      obtain ⟨h1, h2⟩ := first_wide hp
      have hst : rickyardref04_Runes.s0 fu (m, out) = some (.inr (m.drop (first m).2, out ++ [((first m).1 : Int)])) := by
        unfold rickyardref04_Runes.s0
        have c0 : (m.length : Int) > 0 := by omega
        have c1 : 0 ≤ ((first m).2 : Int) ∧ ((first m).2 : Int) ≤ (m.length : Int) := by omega
        have hlim : out.length + ([((first m).1 : Int)] : List Int).length ≤ LIM := lim_of' (by simp; omega)
        have ec : cut m ((first m).2 : Int) (m.length : Int) = m.drop (first m).2 := by
          unfold cut
          rw [Int.toNat_natCast, Int.toNat_natCast, List.take_length]
        simp only [c0, decide_true, if_true, first_eq hp, Option.bind_some, if_pos hlim, if_pos c1, ec]
      have hu : loopM (rickyardref04_Runes.s0 fu) (k + 1 + 1) (m, out) = loopM (rickyardref04_Runes.s0 fu) (k + 1) (m.drop (first m).2, out ++ [((first m).1 : Int)]) := by
        conv => lhs; unfold loopM
        rw [hst]
      rw [hu, rrunes_from fu k _ _ (by rw [List.length_drop]; omega) (by rw [List.length_append, List.length_drop]; simp; omega)]
      have : rs (k + 1) m = ((first m).1 : Int) :: rs k (m.drop (first m).2) := by
        conv => lhs; unfold rs
        rw [if_neg hm]
      rw [this]
      simp
theorem rrunes_eq {m : List UInt8} (hm : m.length ≤ 300) : rickyardref04_Runes.f 400 m = some (rs 399 m) := by
  unfold rickyardref04_Runes.f
  rw [rrunes_from 400 399 m [] (by omega) (by simp; omega)]
  rfl
/-! ### Which runes -/
def runeOk (r : Int) : Prop := (97 ≤ r ∧ r ≤ 122) ∨ (65 ≤ r ∧ r ≤ 90) ∨ (48 ≤ r ∧ r ≤ 57) ∨ r = 45 ∨ r = 95 ∨ (161 ≤ r ∧ r ≤ 65519)
instance (r : Int) : Decidable (runeOk r) := inferInstanceAs (Decidable (_ ∨ _))
theorem rof_eq (fu : Nat) (r : Int) : rickyardref04_Of.f fu r = some (decide (runeOk r)) := by
  unfold rickyardref04_Of.f
  simp only [decide_eq_true_eq]
  apply congrArg some
  repeat' split
  all_goals first
    | exact (decide_eq_true (by unfold runeOk; omega)).symm
    | exact (decide_eq_false (by unfold runeOk; omega)).symm
    | exact decide_eq_decide.2 (by unfold runeOk; omega)
def spanOf (j : Nat) (r : Int) : Prop := if j = 0 then 97 ≤ r ∧ r ≤ 122 else if j = 1 then 65 ≤ r ∧ r ≤ 90 else if j = 2 then 48 ≤ r ∧ r ≤ 57 else if j = 3 then r = 45 else if j = 4 then r = 95 else 161 ≤ r ∧ r ≤ 65519
theorem of_eq {fu : Nat} (r : Int) (hf : 100 < fu) : name_Of.f fu r = some (decide (runeOk r)) := by
  unfold name_Of.f name_spans.f
  rw [Option.bind_some]
  obtain ⟨A, hA⟩ : ∃ A, A = Arr.set (Arr.set (Arr.set (Arr.set (Arr.set (Arr.set (Arr.rep 6 (⟨(0 : Int), (0 : Int)⟩ : S_name_span)) 0 (⟨97, 122⟩ : S_name_span)) 1 (⟨65, 90⟩ : S_name_span)) 2 (⟨48, 57⟩ : S_name_span)) 3 (⟨45, 45⟩ : S_name_span)) 4 (⟨95, 95⟩ : S_name_span)) 5 (⟨161, 65519⟩ : S_name_span) := ⟨_, rfl⟩
  have g : Arr.get A ((0 : Nat) : Int) = ⟨97, 122⟩ ∧ Arr.get A ((1 : Nat) : Int) = ⟨65, 90⟩ ∧ Arr.get A ((2 : Nat) : Int) = ⟨48, 57⟩ ∧ Arr.get A ((3 : Nat) : Int) = ⟨45, 45⟩ ∧ Arr.get A ((4 : Nat) : Int) = ⟨95, 95⟩ ∧ Arr.get A ((5 : Nat) : Int) = ⟨161, 65519⟩ := by
    subst hA
    exact ⟨rfl, rfl, rfl, rfl, rfl, rfl⟩
  obtain ⟨g0, g1, g2, g3, g4, g5⟩ := g
  rw [← hA]
  have hs : ∀ j : Nat, j < 6 → name_Of.s0 fu r A (j : Int) = some (if (Arr.get A (j : Int)).first ≤ r ∧ r ≤ (Arr.get A (j : Int)).last then .inl (.inl true) else .inr ((j + 1 : Nat) : Int)) := by
    intro j hj
    unfold name_Of.s0
    have h1 : (j : Int) < 6 := by omega
    have c0 : 0 ≤ (j : Int) ∧ True := ⟨by omega, trivial⟩
    have w3 : IntKind.i64.wrap ((j : Int) + 1) = ((j + 1 : Nat) : Int) := by rw [w64 (by omega) (by omega)]; omega
    simp only [h1, decide_true, if_true, w3, if_pos c0]
    by_cases a1 : (Arr.get A (j : Int)).first ≤ r
    · by_cases a2 : r ≤ (Arr.get A (j : Int)).last <;> simp [a1, a2]
    · simp [a1]
  have six : ∀ p : Nat → Prop, (∀ j, j < 6 → p j) ↔ (p 0 ∧ p 1 ∧ p 2 ∧ p 3 ∧ p 4 ∧ p 5) := by
    intro p
    constructor
    · intro h
      exact ⟨h 0 (by omega), h 1 (by omega), h 2 (by omega), h 3 (by omega), h 4 (by omega), h 5 (by omega)⟩
    · rintro ⟨h0, h1, h2, h3, h4, h5⟩ j hj
      have : j = 0 ∨ j = 1 ∨ j = 2 ∨ j = 3 ∨ j = 4 ∨ j = 5 := by omega
      rcases this with rfl | rfl | rfl | rfl | rfl | rfl <;> assumption
  have hall : (∀ j : Nat, j < 6 → ¬ ((Arr.get A (j : Int)).first ≤ r ∧ r ≤ (Arr.get A (j : Int)).last)) ↔ ¬ runeOk r := by
    rw [six fun (j : Nat) => ¬ ((Arr.get A (j : Int)).first ≤ r ∧ r ≤ (Arr.get A (j : Int)).last)]
    rw [g0, g1, g2, g3, g4, g5]
    unfold runeOk
    simp only
    omega
  by_cases hr : runeOk r
  · have : loopM (name_Of.s0 fu r A) fu 0 = some (.inl true) := by
      refine loopM_bad (S := fun j => (j : Int)) 6 (fun j => ¬ ((Arr.get A (j : Int)).first ≤ r ∧ r ≤ (Arr.get A (j : Int)).last)) rfl ?_ (fun j hj _ hg => by rw [hs j hj, if_neg hg]) (fun j hj _ hg => by rw [hs j hj, if_pos (Classical.byContradiction hg)]) (by omega)
      apply Classical.byContradiction
      intro hx
      exact hall.1 (fun j hj hg => hx ⟨j, hj, fun q => q hg⟩) hr
    rw [this, decide_eq_true hr]
    rfl
  · have : loopM (name_Of.s0 fu r A) fu 0 = some (.inr ()) := by
      refine loopM_run (S := fun j => (j : Int)) 6 rfl (fun j hj => by rw [hs j hj, if_neg (hall.2 hr j hj)]) ?_ (by omega)
      unfold name_Of.s0
      simp
    rw [this, decide_eq_false hr]
    rfl
/-! ### Names -/
def NameOk (s : List UInt8) : Prop := (0 < (rs 399 s).length ∧ (rs 399 s).length ≤ 8) ∧ ∀ r ∈ rs 399 s, runeOk r
instance (s : List UInt8) : Decidable (NameOk s) := inferInstanceAs (Decidable (_ ∧ _))
theorem rname_eq {s : List UInt8} (hs : s.length ≤ 300) : rickyardref04_Right.f 400 s = some (decide (NameOk s)) := by
  unfold rickyardref04_Right.f
  rw [rrunes_eq hs, Option.bind_some]
  have hrl := rs_len 399 s
  have hL : NameOk s ↔ (0 < (rs 399 s).length ∧ (rs 399 s).length ≤ 8) ∧ ∀ r ∈ rs 399 s, runeOk r := Iff.rfl
  generalize rs 399 s = L at *
  have c0 : (if decide ((L.length : Int) > 0) = true then decide ((L.length : Int) ≤ 8) else false) = decide (0 < L.length ∧ L.length ≤ 8) := by
    by_cases h1 : (L.length : Int) > 0
    · rw [decide_eq_true h1, if_pos rfl]
      exact decide_eq_decide.2 (by omega)
    · rw [decide_eq_false h1, decide_eq_false (fun x : 0 < L.length ∧ L.length ≤ 8 => by have := x.1; omega)]
      rfl
  rw [c0]
  have hst : ∀ (b : Bool) (j : Nat), j < L.length → rickyardref04_Right.s0 400 L (b, (j : Int)) = some (.inr (b && decide (runeOk (ix L (j : Int))), ((j + 1 : Nat) : Int))) := by
    intro b j hj
    unfold rickyardref04_Right.s0
    have h1 : (j : Int) < (L.length : Int) := by omega
    have c1 : 0 ≤ (j : Int) ∧ True := ⟨by omega, trivial⟩
    have w3 : IntKind.i64.wrap ((j : Int) + 1) = ((j + 1 : Nat) : Int) := by rw [w64 (by omega) (by omega)]; omega
    simp only [h1, decide_true, if_true, if_pos c1, rof_eq, Option.bind_some, w3]
    cases b <;> rfl
  have hloop : loopM (rickyardref04_Right.s0 400 L) 400 (decide (0 < L.length ∧ L.length ≤ 8), 0) = some (decide (0 < L.length ∧ L.length ≤ 8) && (L.all fun r => decide (runeOk r))) := by
    refine loopM_run (S := fun j => (decide (0 < L.length ∧ L.length ≤ 8) && ((L.take j).all fun r => decide (runeOk r)), (j : Int))) L.length (by simp) (fun j hj => ?_) ?_ (by omega)
    · rw [hst _ j hj, List.take_add_one, List.getElem?_eq_getElem hj, ix_nat hj, List.all_append]
      simp [Bool.and_assoc]
    · unfold rickyardref04_Right.s0
      simp
  rw [hloop, Option.bind_some]
  congr 1
  rw [Bool.eq_iff_iff, decide_eq_true_eq, hL]
  simp only [Bool.and_eq_true, decide_eq_true_eq, List.all_eq_true]
theorem name_from {s : List UInt8} : ∀ (k : Nat) (i n : Nat), i ≤ s.length → (s.drop i).length ≤ k → n ≤ 8 →
    ∃ i' : Int, loopM (name_Right.s0 400 s) (k + 1) ((n : Int), (i : Int)) = some (if n + (rs k (s.drop i)).length ≤ 8 ∧ ∀ r ∈ rs k (s.drop i), runeOk r then .inr (((n + (rs k (s.drop i)).length : Nat) : Int), i') else .inl false)
  | 0, i, n, hi, hk, hn => by
    have hil : i = s.length := by rw [List.length_drop] at hk; omega
    subst hil
    refine ⟨(s.length : Int), ?_⟩
    simp [loopM, name_Right.s0, rs, hn]
  | k + 1, i, n, hi, hk, hn => by
    by_cases hil : i = s.length
    · subst hil
      refine ⟨(s.length : Int), ?_⟩
      simp [loopM, name_Right.s0, rs, hn]
    · have hlt : i < s.length := by omega
      have hm : s.drop i ≠ [] := fun e => by
        have := congrArg List.length e
        rw [List.length_drop] at this
        simp at this
        omega
      have hp := List.length_pos_iff.2 hm
      obtain ⟨h1, h2⟩ := first_wide hp
      rw [List.length_drop] at h2 hk
      obtain ⟨e1, e2⟩ := rune_first s i
      have hrs : rs (k + 1) (s.drop i) = ((first (s.drop i)).1 : Int) :: rs k (s.drop (i + (first (s.drop i)).2)) := by
        conv => lhs; unfold rs
        rw [if_neg hm, List.drop_drop]
      have w3 : IntKind.i64.wrap ((n : Int) + 1) = ((n + 1 : Nat) : Int) := by rw [w64 (by omega) (by omega)]; omega
      have c0 : (i : Int) < (s.length : Int) := by omega
      have hst : name_Right.s0 400 s ((n : Int), (i : Int)) = some (if n + 1 ≤ 8 ∧ runeOk ((first (s.drop i)).1 : Int) then .inr (((n + 1 : Nat) : Int), ((i + (first (s.drop i)).2 : Nat) : Int)) else .inl (.inl false)) := by
        unfold name_Right.s0
        have e3 : (i : Int) + ((first (s.drop i)).2 : Int) = ((i + (first (s.drop i)).2 : Nat) : Int) := by omega
        simp only [c0, decide_true, if_true, w3, e1, e2, e3, of_eq _ (show 100 < 400 by decide), Option.bind_some]
        by_cases a1 : ((n + 1 : Nat) : Int) > 8
        · rw [decide_eq_true a1, if_neg (show ¬ (n + 1 ≤ 8 ∧ runeOk ((first (s.drop i)).1 : Int)) from fun x => by have := x.1; omega)]
          rfl
        · rw [decide_eq_false a1]
          by_cases a2 : runeOk ((first (s.drop i)).1 : Int)
          · rw [decide_eq_true a2, if_pos (show n + 1 ≤ 8 ∧ runeOk ((first (s.drop i)).1 : Int) from ⟨by omega, a2⟩)]
            rfl
          · rw [decide_eq_false a2, if_neg (show ¬ (n + 1 ≤ 8 ∧ runeOk ((first (s.drop i)).1 : Int)) from fun x => a2 x.2)]
            rfl
      have hu : loopM (name_Right.s0 400 s) (k + 1 + 1) ((n : Int), (i : Int)) = (match name_Right.s0 400 s ((n : Int), (i : Int)) with | none => none | some (.inl e) => some e | some (.inr s') => loopM (name_Right.s0 400 s) (k + 1) s') := by
        conv => lhs; unfold loopM
        generalize name_Right.s0 400 s ((n : Int), (i : Int)) = q
        rcases q with _ | _ | _ <;> rfl
      rw [hu, hst]
      by_cases a : n + 1 ≤ 8 ∧ runeOk ((first (s.drop i)).1 : Int)
      · rw [if_pos a]
        obtain ⟨i', ih⟩ := name_from (s := s) k (i + (first (s.drop i)).2) (n + 1) (by omega) (by rw [List.length_drop]; omega) a.1
        refine ⟨i', ?_⟩
        simp only
        rw [ih, hrs]
        have hc : (n + 1 + (rs k (s.drop (i + (first (s.drop i)).2))).length ≤ 8 ∧ ∀ r ∈ rs k (s.drop (i + (first (s.drop i)).2)), runeOk r) ↔ (n + (((first (s.drop i)).1 : Int) :: rs k (s.drop (i + (first (s.drop i)).2))).length ≤ 8 ∧ ∀ r ∈ ((first (s.drop i)).1 : Int) :: rs k (s.drop (i + (first (s.drop i)).2)), runeOk r) := by
          simp only [List.length_cons, List.mem_cons, forall_eq_or_imp]
          constructor
          · rintro ⟨x, y⟩
            exact ⟨by omega, a.2, y⟩
          · rintro ⟨x, _, y⟩
            exact ⟨by omega, y⟩
        by_cases hq : n + 1 + (rs k (s.drop (i + (first (s.drop i)).2))).length ≤ 8 ∧ ∀ r ∈ rs k (s.drop (i + (first (s.drop i)).2)), runeOk r
        · rw [if_pos hq, if_pos (hc.1 hq)]
          congr 3
          simp only [List.length_cons]
          omega
        · rw [if_neg hq, if_neg (fun x => hq (hc.2 x))]
      · rw [if_neg a]
        refine ⟨0, ?_⟩
        simp only
        rw [hrs, if_neg]
        rintro ⟨x, y⟩
        simp only [List.length_cons] at x
        exact a ⟨by omega, y _ (List.mem_cons_self ..)⟩
theorem name_eq {s : List UInt8} (hs : s.length ≤ 300) : name_Right.f 400 s = some (decide (NameOk s)) := by
  unfold name_Right.f
  obtain ⟨i', h⟩ := name_from (s := s) 399 0 0 (by omega) (by rw [List.drop_zero]; omega) (by omega)
  rw [List.drop_zero] at h
  have h' : loopM (name_Right.s0 400 s) 400 (0, 0) = some (if 0 + (rs 399 s).length ≤ 8 ∧ ∀ r ∈ rs 399 s, runeOk r then .inr (((0 + (rs 399 s).length : Nat) : Int), i') else .inl false) := h
  rw [h']
  by_cases hq : 0 + (rs 399 s).length ≤ 8 ∧ ∀ r ∈ rs 399 s, runeOk r
  · rw [if_pos hq]
    simp only [Option.bind_some]
    congr 1
    apply decide_eq_decide.2
    unfold NameOk
    constructor
    · intro x
      exact ⟨⟨by omega, by omega⟩, hq.2⟩
    · intro x
      have := x.1.1
      omega
  · rw [if_neg hq, decide_eq_false (fun x : NameOk s => hq ⟨by have := x.1.2; omega, x.2⟩)]
    rfl
end Go.Proofs.Ytjhajfkfhdnciaa.Pure

/- rickyard/rickyardref08.Block: its model, and that the Go function computes it: written by gen.py. -/
set_option linter.unusedVariables false
namespace Go.Proofs.Ytjhajfkfhdnciaa
open Go Go.Xw
def rickyardref08_Block.f (fu : Nat) (a0 : Int) : Option Bool := some ((if (decide (a0 ≥ 2)) = true then (decide (a0 ≤ 3071)) else false))
set_option maxRecDepth 100000 in
set_option maxHeartbeats 400000 in
theorem rickyardref08_Block.ok (fu : Nat) (w : World) (a0 : Int) (r : Bool) (h : rickyardref08_Block.f fu a0 = some r) :
    Calls Try.prog 107 (([.int .i64 a0] : List Value).toArray) w (fun e w' => ∃ v, e = .returned v ∧ v = .bool r ∧ Gr w w') := by
  unfold rickyardref08_Block.f at h
  have fB : Gr w w := Fr.refl _ _
  refine calls_cw Try.func107 rfl Try.ntmps107 rfl ?_
  refine cw_seq ?_
  refine cw_region ?_
  refine ol_val (v := .bool false) (by exact xr_assign rfl rfl) rfl rfl rfl ?_
  refine ol_nil ?_
  refine cw_seq ?_
  refine cw_mid (fun ρ' w' => ρ' 2 = .bool (if (decide (a0 ≥ 2)) = true then (decide (a0 ≤ 3071)) else false) ∧ w = w') ?_ ?_
  · skip
    refine cw_region ?_
    refine ol_val (v := .int .i64 a0) (by exact xr_move rfl rfl) rfl rfl rfl ?_
    refine ol_val (v := .bool (decide (a0 ≥ 2))) (by exact xr_geq rfl rfl rfl) rfl rfl rfl ?_
    refine ol_val (v := .bool (decide (a0 ≥ 2))) (by exact xr_move rfl rfl) rfl rfl rfl ?_
    rcases bt (decide (a0 ≥ 2)) with c1 | c1
    · skip
      refine ol_gval (v := .int .i64 a0) (by exact xr_move rfl rfl) rfl rfl rfl rfl rfl c1 ?_
      refine ol_gval (v := .bool (decide (a0 ≤ 3071))) (by exact xr_leq rfl rfl rfl) rfl rfl rfl rfl rfl c1 ?_
      refine ol_val (v := .bool (decide (a0 ≤ 3071))) (by exact xr_pickT rfl rfl c1 rfl) rfl rfl rfl ?_
      refine ol_val (v := .bool (decide (a0 ≤ 3071))) (by exact xr_assign rfl rfl) rfl rfl rfl ?_
      refine ol_nil ?_
      refine thn_i ?_
      exact ⟨(rfl).trans (congrArg (fun z => (.bool z : Value)) (show (decide (a0 ≤ 3071)) = (if (decide (a0 ≥ 2)) = true then (decide (a0 ≤ 3071)) else false) from by rw [ite_t c1])), rfl⟩
    · skip
      refine ol_gskip rfl rfl rfl rfl rfl c1 ?_
      refine ol_gskip rfl rfl rfl rfl rfl c1 ?_
      refine ol_val (v := .bool false) (by exact xr_pickF rfl rfl c1 rfl) rfl rfl rfl ?_
      refine ol_val (v := .bool false) (by exact xr_assign rfl rfl) rfl rfl rfl ?_
      refine ol_nil ?_
      refine thn_i ?_
      exact ⟨(rfl).trans (congrArg (fun z => (.bool z : Value)) (show false = (if (decide (a0 ≥ 2)) = true then (decide (a0 ≤ 3071)) else false) from by rw [ite_f c1])), rfl⟩
  · skip
    rintro ρ2 _ ⟨e2, rfl⟩
    refine cw_ret ?_
    repeat (first | with_reducible refine thn_r ?_ | with_reducible refine blk_r ?_)
    obtain rfl := Option.some.inj h
    refine fin_ret1 Try.results107 e2 ?_
    exact ⟨_, rfl, rfl, fB⟩
end Go.Proofs.Ytjhajfkfhdnciaa
