/- LabelReads: texts merged, part 5 of 7. The last part proves that the law LabelReads holds for every input. -/
import Derived.Test.YtjhajfkfhdnciaaPkLabelReads4
/- rickyard/rickyardref04.Of: its model, and that the Go function computes it: written by gen.py. -/
set_option linter.unusedVariables false
namespace Go.Proofs.Ytjhajfkfhdnciaa
open Go Go.Xw
def rickyardref04_Of.f (fu : Nat) (a0 : Int) : Option Bool := some ((if (decide (a0 ≥ 97)) = true then (if (decide (a0 ≤ 122)) = true then true else (if (decide (a0 ≥ 65)) = true then (if (decide (a0 ≤ 90)) = true then true else (if (decide (a0 ≥ 48)) = true then (if (decide (a0 ≤ 57)) = true then true else (if (decide (a0 = 45)) = true then true else (if (decide (a0 = 95)) = true then true else (if (decide (a0 ≥ 161)) = true then (decide (a0 ≤ 65519)) else false)))) else (if (decide (a0 = 45)) = true then true else (if (decide (a0 = 95)) = true then true else (if (decide (a0 ≥ 161)) = true then (decide (a0 ≤ 65519)) else false))))) else (if (decide (a0 ≥ 48)) = true then (if (decide (a0 ≤ 57)) = true then true else (if (decide (a0 = 45)) = true then true else (if (decide (a0 = 95)) = true then true else (if (decide (a0 ≥ 161)) = true then (decide (a0 ≤ 65519)) else false)))) else (if (decide (a0 = 45)) = true then true else (if (decide (a0 = 95)) = true then true else (if (decide (a0 ≥ 161)) = true then (decide (a0 ≤ 65519)) else false)))))) else (if (decide (a0 ≥ 65)) = true then (if (decide (a0 ≤ 90)) = true then true else (if (decide (a0 ≥ 48)) = true then (if (decide (a0 ≤ 57)) = true then true else (if (decide (a0 = 45)) = true then true else (if (decide (a0 = 95)) = true then true else (if (decide (a0 ≥ 161)) = true then (decide (a0 ≤ 65519)) else false)))) else (if (decide (a0 = 45)) = true then true else (if (decide (a0 = 95)) = true then true else (if (decide (a0 ≥ 161)) = true then (decide (a0 ≤ 65519)) else false))))) else (if (decide (a0 ≥ 48)) = true then (if (decide (a0 ≤ 57)) = true then true else (if (decide (a0 = 45)) = true then true else (if (decide (a0 = 95)) = true then true else (if (decide (a0 ≥ 161)) = true then (decide (a0 ≤ 65519)) else false)))) else (if (decide (a0 = 45)) = true then true else (if (decide (a0 = 95)) = true then true else (if (decide (a0 ≥ 161)) = true then (decide (a0 ≤ 65519)) else false)))))))
set_option maxRecDepth 100000 in
set_option maxHeartbeats 400000 in
theorem rickyardref04_Of.ok (fu : Nat) (w : World) (a0 : Int) (r : Bool) (h : rickyardref04_Of.f fu a0 = some r) :
    Calls Try.prog 140 (([.int .i64 a0] : List Value).toArray) w (fun e w' => ∃ v, e = .returned v ∧ v = .bool r ∧ Gr w w') := by
  unfold rickyardref04_Of.f at h
  have fB : Gr w w := Fr.refl _ _
  refine calls_cw Try.func140 rfl Try.ntmps140 rfl ?_
  refine cw_seq ?_
  refine cw_region ?_
  refine ol_val (v := .bool false) (by exact xr_assign rfl rfl) rfl rfl rfl ?_
  refine ol_nil ?_
  refine cw_seq ?_
  refine cw_mid (fun ρ' w' => ρ' 2 = .bool (if (decide (a0 ≥ 97)) = true then (if (decide (a0 ≤ 122)) = true then true else (if (decide (a0 ≥ 65)) = true then (if (decide (a0 ≤ 90)) = true then true else (if (decide (a0 ≥ 48)) = true then (if (decide (a0 ≤ 57)) = true then true else (if (decide (a0 = 45)) = true then true else (if (decide (a0 = 95)) = true then true else (if (decide (a0 ≥ 161)) = true then (decide (a0 ≤ 65519)) else false)))) else (if (decide (a0 = 45)) = true then true else (if (decide (a0 = 95)) = true then true else (if (decide (a0 ≥ 161)) = true then (decide (a0 ≤ 65519)) else false))))) else (if (decide (a0 ≥ 48)) = true then (if (decide (a0 ≤ 57)) = true then true else (if (decide (a0 = 45)) = true then true else (if (decide (a0 = 95)) = true then true else (if (decide (a0 ≥ 161)) = true then (decide (a0 ≤ 65519)) else false)))) else (if (decide (a0 = 45)) = true then true else (if (decide (a0 = 95)) = true then true else (if (decide (a0 ≥ 161)) = true then (decide (a0 ≤ 65519)) else false)))))) else (if (decide (a0 ≥ 65)) = true then (if (decide (a0 ≤ 90)) = true then true else (if (decide (a0 ≥ 48)) = true then (if (decide (a0 ≤ 57)) = true then true else (if (decide (a0 = 45)) = true then true else (if (decide (a0 = 95)) = true then true else (if (decide (a0 ≥ 161)) = true then (decide (a0 ≤ 65519)) else false)))) else (if (decide (a0 = 45)) = true then true else (if (decide (a0 = 95)) = true then true else (if (decide (a0 ≥ 161)) = true then (decide (a0 ≤ 65519)) else false))))) else (if (decide (a0 ≥ 48)) = true then (if (decide (a0 ≤ 57)) = true then true else (if (decide (a0 = 45)) = true then true else (if (decide (a0 = 95)) = true then true else (if (decide (a0 ≥ 161)) = true then (decide (a0 ≤ 65519)) else false)))) else (if (decide (a0 = 45)) = true then true else (if (decide (a0 = 95)) = true then true else (if (decide (a0 ≥ 161)) = true then (decide (a0 ≤ 65519)) else false)))))) ∧ w = w') ?_ ?_
  · skip
    refine cw_region ?_
    refine ol_val (v := .int .i64 a0) (by exact xr_move rfl rfl) rfl rfl rfl ?_
    refine ol_val (v := .bool (decide (a0 ≥ 97))) (by exact xr_geq rfl rfl rfl) rfl rfl rfl ?_
    refine ol_val (v := .bool (decide (a0 ≥ 97))) (by exact xr_move rfl rfl) rfl rfl rfl ?_
    rcases bt (decide (a0 ≥ 97)) with c1 | c1
    · skip
      refine ol_gval (v := .int .i64 a0) (by exact xr_move rfl rfl) rfl rfl rfl rfl rfl c1 ?_
      refine ol_gval (v := .bool (decide (a0 ≤ 122))) (by exact xr_leq rfl rfl rfl) rfl rfl rfl rfl rfl c1 ?_
      refine ol_val (v := .bool (decide (a0 ≤ 122))) (by exact xr_pickT rfl rfl c1 rfl) rfl rfl rfl ?_
      refine ol_val (v := .bool (decide (a0 ≤ 122))) (by exact xr_move rfl rfl) rfl rfl rfl ?_
      rcases bt (decide (a0 ≤ 122)) with c2 | c2
      · skip
        refine ol_gskip rfl rfl rfl rfl rfl c2 ?_
        refine ol_gskip rfl rfl rfl rfl rfl c2 ?_
        refine ol_gskip rfl rfl rfl rfl rfl c2 ?_
        refine ol_uskip rfl rfl rfl rfl rfl ?_
        refine ol_uskip rfl rfl rfl rfl rfl ?_
        refine ol_gskip rfl rfl rfl rfl rfl c2 ?_
        refine ol_val (v := .bool true) (by exact xr_pickT rfl rfl c2 rfl) rfl rfl rfl ?_
        refine ol_val (v := .bool true) (by exact xr_move rfl rfl) rfl rfl rfl ?_
        refine ol_gskip rfl rfl rfl rfl rfl rfl ?_
        refine ol_gskip rfl rfl rfl rfl rfl rfl ?_
        refine ol_gskip rfl rfl rfl rfl rfl rfl ?_
        refine ol_uskip rfl rfl rfl rfl rfl ?_
        refine ol_uskip rfl rfl rfl rfl rfl ?_
        refine ol_gskip rfl rfl rfl rfl rfl rfl ?_
        refine ol_val (v := .bool true) (by exact xr_pickT rfl rfl rfl rfl) rfl rfl rfl ?_
        refine ol_val (v := .bool true) (by exact xr_move rfl rfl) rfl rfl rfl ?_
        refine ol_gskip rfl rfl rfl rfl rfl rfl ?_
        refine ol_gskip rfl rfl rfl rfl rfl rfl ?_
        refine ol_val (v := .bool true) (by exact xr_pickT rfl rfl rfl rfl) rfl rfl rfl ?_
        refine ol_val (v := .bool true) (by exact xr_move rfl rfl) rfl rfl rfl ?_
        refine ol_gskip rfl rfl rfl rfl rfl rfl ?_
        refine ol_gskip rfl rfl rfl rfl rfl rfl ?_
        refine ol_val (v := .bool true) (by exact xr_pickT rfl rfl rfl rfl) rfl rfl rfl ?_
        refine ol_val (v := .bool true) (by exact xr_move rfl rfl) rfl rfl rfl ?_
        refine ol_gskip rfl rfl rfl rfl rfl rfl ?_
        refine ol_gskip rfl rfl rfl rfl rfl rfl ?_
        refine ol_gskip rfl rfl rfl rfl rfl rfl ?_
        refine ol_uskip rfl rfl rfl rfl rfl ?_
        refine ol_uskip rfl rfl rfl rfl rfl ?_
        refine ol_gskip rfl rfl rfl rfl rfl rfl ?_
        refine ol_val (v := .bool true) (by exact xr_pickT rfl rfl rfl rfl) rfl rfl rfl ?_
        refine ol_val (v := .bool true) (by exact xr_assign rfl rfl) rfl rfl rfl ?_
        refine ol_nil ?_
        refine thn_i ?_
        exact ⟨(rfl).trans (congrArg (fun z => (.bool z : Value)) (show true = (if (decide (a0 ≥ 97)) = true then (if (decide (a0 ≤ 122)) = true then true else (if (decide (a0 ≥ 65)) = true then (if (decide (a0 ≤ 90)) = true then true else (if (decide (a0 ≥ 48)) = true then (if (decide (a0 ≤ 57)) = true then true else (if (decide (a0 = 45)) = true then true else (if (decide (a0 = 95)) = true then true else (if (decide (a0 ≥ 161)) = true then (decide (a0 ≤ 65519)) else false)))) else (if (decide (a0 = 45)) = true then true else (if (decide (a0 = 95)) = true then true else (if (decide (a0 ≥ 161)) = true then (decide (a0 ≤ 65519)) else false))))) else (if (decide (a0 ≥ 48)) = true then (if (decide (a0 ≤ 57)) = true then true else (if (decide (a0 = 45)) = true then true else (if (decide (a0 = 95)) = true then true else (if (decide (a0 ≥ 161)) = true then (decide (a0 ≤ 65519)) else false)))) else (if (decide (a0 = 45)) = true then true else (if (decide (a0 = 95)) = true then true else (if (decide (a0 ≥ 161)) = true then (decide (a0 ≤ 65519)) else false)))))) else (if (decide (a0 ≥ 65)) = true then (if (decide (a0 ≤ 90)) = true then true else (if (decide (a0 ≥ 48)) = true then (if (decide (a0 ≤ 57)) = true then true else (if (decide (a0 = 45)) = true then true else (if (decide (a0 = 95)) = true then true else (if (decide (a0 ≥ 161)) = true then (decide (a0 ≤ 65519)) else false)))) else (if (decide (a0 = 45)) = true then true else (if (decide (a0 = 95)) = true then true else (if (decide (a0 ≥ 161)) = true then (decide (a0 ≤ 65519)) else false))))) else (if (decide (a0 ≥ 48)) = true then (if (decide (a0 ≤ 57)) = true then true else (if (decide (a0 = 45)) = true then true else (if (decide (a0 = 95)) = true then true else (if (decide (a0 ≥ 161)) = true then (decide (a0 ≤ 65519)) else false)))) else (if (decide (a0 = 45)) = true then true else (if (decide (a0 = 95)) = true then true else (if (decide (a0 ≥ 161)) = true then (decide (a0 ≤ 65519)) else false)))))) from by rw [ite_t c1, ite_t c2])), rfl⟩
      · skip
        refine ol_gval (v := .int .i64 a0) (by exact xr_move rfl rfl) rfl rfl rfl rfl rfl c2 ?_
        refine ol_gval (v := .bool (decide (a0 ≥ 65))) (by exact xr_geq rfl rfl rfl) rfl rfl rfl rfl rfl c2 ?_
        refine ol_gval (v := .bool (decide (a0 ≥ 65))) (by exact xr_move rfl rfl) rfl rfl rfl rfl rfl c2 ?_
        rcases bt (decide (a0 ≥ 65)) with c3 | c3
        · skip
          refine ol_gval (v := .int .i64 a0) (by exact xr_move rfl rfl) rfl rfl rfl rfl rfl c3 ?_
          refine ol_gval (v := .bool (decide (a0 ≤ 90))) (by exact xr_leq rfl rfl rfl) rfl rfl rfl rfl rfl c3 ?_
          refine ol_gval (v := .bool (decide (a0 ≤ 90))) (by exact xr_pickT rfl rfl c3 rfl) rfl rfl rfl rfl rfl c2 ?_
          refine ol_val (v := .bool (decide (a0 ≤ 90))) (by exact xr_pickF rfl rfl c2 rfl) rfl rfl rfl ?_
          refine ol_val (v := .bool (decide (a0 ≤ 90))) (by exact xr_move rfl rfl) rfl rfl rfl ?_
          rcases bt (decide (a0 ≤ 90)) with c4 | c4
          · skip
            refine ol_gskip rfl rfl rfl rfl rfl c4 ?_
            refine ol_gskip rfl rfl rfl rfl rfl c4 ?_
            refine ol_gskip rfl rfl rfl rfl rfl c4 ?_
            refine ol_uskip rfl rfl rfl rfl rfl ?_
            refine ol_uskip rfl rfl rfl rfl rfl ?_
            refine ol_gskip rfl rfl rfl rfl rfl c4 ?_
            refine ol_val (v := .bool true) (by exact xr_pickT rfl rfl c4 rfl) rfl rfl rfl ?_
            refine ol_val (v := .bool true) (by exact xr_move rfl rfl) rfl rfl rfl ?_
            refine ol_gskip rfl rfl rfl rfl rfl rfl ?_
            refine ol_gskip rfl rfl rfl rfl rfl rfl ?_
            refine ol_val (v := .bool true) (by exact xr_pickT rfl rfl rfl rfl) rfl rfl rfl ?_
            refine ol_val (v := .bool true) (by exact xr_move rfl rfl) rfl rfl rfl ?_
            refine ol_gskip rfl rfl rfl rfl rfl rfl ?_
            refine ol_gskip rfl rfl rfl rfl rfl rfl ?_
            refine ol_val (v := .bool true) (by exact xr_pickT rfl rfl rfl rfl) rfl rfl rfl ?_
            refine ol_val (v := .bool true) (by exact xr_move rfl rfl) rfl rfl rfl ?_
            refine ol_gskip rfl rfl rfl rfl rfl rfl ?_
            refine ol_gskip rfl rfl rfl rfl rfl rfl ?_
            refine ol_gskip rfl rfl rfl rfl rfl rfl ?_
            refine ol_uskip rfl rfl rfl rfl rfl ?_
            refine ol_uskip rfl rfl rfl rfl rfl ?_
            refine ol_gskip rfl rfl rfl rfl rfl rfl ?_
            refine ol_val (v := .bool true) (by exact xr_pickT rfl rfl rfl rfl) rfl rfl rfl ?_
            refine ol_val (v := .bool true) (by exact xr_assign rfl rfl) rfl rfl rfl ?_
            refine ol_nil ?_
            refine thn_i ?_
            exact ⟨(rfl).trans (congrArg (fun z => (.bool z : Value)) (show true = (if (decide (a0 ≥ 97)) = true then (if (decide (a0 ≤ 122)) = true then true else (if (decide (a0 ≥ 65)) = true then (if (decide (a0 ≤ 90)) = true then true else (if (decide (a0 ≥ 48)) = true then (if (decide (a0 ≤ 57)) = true then true else (if (decide (a0 = 45)) = true then true else (if (decide (a0 = 95)) = true then true else (if (decide (a0 ≥ 161)) = true then (decide (a0 ≤ 65519)) else false)))) else (if (decide (a0 = 45)) = true then true else (if (decide (a0 = 95)) = true then true else (if (decide (a0 ≥ 161)) = true then (decide (a0 ≤ 65519)) else false))))) else (if (decide (a0 ≥ 48)) = true then (if (decide (a0 ≤ 57)) = true then true else (if (decide (a0 = 45)) = true then true else (if (decide (a0 = 95)) = true then true else (if (decide (a0 ≥ 161)) = true then (decide (a0 ≤ 65519)) else false)))) else (if (decide (a0 = 45)) = true then true else (if (decide (a0 = 95)) = true then true else (if (decide (a0 ≥ 161)) = true then (decide (a0 ≤ 65519)) else false)))))) else (if (decide (a0 ≥ 65)) = true then (if (decide (a0 ≤ 90)) = true then true else (if (decide (a0 ≥ 48)) = true then (if (decide (a0 ≤ 57)) = true then true else (if (decide (a0 = 45)) = true then true else (if (decide (a0 = 95)) = true then true else (if (decide (a0 ≥ 161)) = true then (decide (a0 ≤ 65519)) else false)))) else (if (decide (a0 = 45)) = true then true else (if (decide (a0 = 95)) = true then true else (if (decide (a0 ≥ 161)) = true then (decide (a0 ≤ 65519)) else false))))) else (if (decide (a0 ≥ 48)) = true then (if (decide (a0 ≤ 57)) = true then true else (if (decide (a0 = 45)) = true then true else (if (decide (a0 = 95)) = true then true else (if (decide (a0 ≥ 161)) = true then (decide (a0 ≤ 65519)) else false)))) else (if (decide (a0 = 45)) = true then true else (if (decide (a0 = 95)) = true then true else (if (decide (a0 ≥ 161)) = true then (decide (a0 ≤ 65519)) else false)))))) from by rw [ite_t c1, ite_f c2, ite_t c3, ite_t c4])), rfl⟩
          · skip
            refine ol_gval (v := .int .i64 a0) (by exact xr_move rfl rfl) rfl rfl rfl rfl rfl c4 ?_
            refine ol_gval (v := .bool (decide (a0 ≥ 48))) (by exact xr_geq rfl rfl rfl) rfl rfl rfl rfl rfl c4 ?_
            refine ol_gval (v := .bool (decide (a0 ≥ 48))) (by exact xr_move rfl rfl) rfl rfl rfl rfl rfl c4 ?_
            rcases bt (decide (a0 ≥ 48)) with c5 | c5
            · skip
              refine ol_gval (v := .int .i64 a0) (by exact xr_move rfl rfl) rfl rfl rfl rfl rfl c5 ?_
              refine ol_gval (v := .bool (decide (a0 ≤ 57))) (by exact xr_leq rfl rfl rfl) rfl rfl rfl rfl rfl c5 ?_
              refine ol_gval (v := .bool (decide (a0 ≤ 57))) (by exact xr_pickT rfl rfl c5 rfl) rfl rfl rfl rfl rfl c4 ?_
              refine ol_val (v := .bool (decide (a0 ≤ 57))) (by exact xr_pickF rfl rfl c4 rfl) rfl rfl rfl ?_
              refine ol_val (v := .bool (decide (a0 ≤ 57))) (by exact xr_move rfl rfl) rfl rfl rfl ?_
              rcases bt (decide (a0 ≤ 57)) with c6 | c6
              · skip
                refine ol_gskip rfl rfl rfl rfl rfl c6 ?_
                refine ol_gskip rfl rfl rfl rfl rfl c6 ?_
                refine ol_val (v := .bool true) (by exact xr_pickT rfl rfl c6 rfl) rfl rfl rfl ?_
                refine ol_val (v := .bool true) (by exact xr_move rfl rfl) rfl rfl rfl ?_
                refine ol_gskip rfl rfl rfl rfl rfl rfl ?_
                refine ol_gskip rfl rfl rfl rfl rfl rfl ?_
                refine ol_val (v := .bool true) (by exact xr_pickT rfl rfl rfl rfl) rfl rfl rfl ?_
                refine ol_val (v := .bool true) (by exact xr_move rfl rfl) rfl rfl rfl ?_
                refine ol_gskip rfl rfl rfl rfl rfl rfl ?_
                refine ol_gskip rfl rfl rfl rfl rfl rfl ?_
                refine ol_gskip rfl rfl rfl rfl rfl rfl ?_
                refine ol_uskip rfl rfl rfl rfl rfl ?_
                refine ol_uskip rfl rfl rfl rfl rfl ?_
                refine ol_gskip rfl rfl rfl rfl rfl rfl ?_
                refine ol_val (v := .bool true) (by exact xr_pickT rfl rfl rfl rfl) rfl rfl rfl ?_
                refine ol_val (v := .bool true) (by exact xr_assign rfl rfl) rfl rfl rfl ?_
                refine ol_nil ?_
                refine thn_i ?_
                exact ⟨(rfl).trans (congrArg (fun z => (.bool z : Value)) (show true = (if (decide (a0 ≥ 97)) = true then (if (decide (a0 ≤ 122)) = true then true else (if (decide (a0 ≥ 65)) = true then (if (decide (a0 ≤ 90)) = true then true else (if (decide (a0 ≥ 48)) = true then (if (decide (a0 ≤ 57)) = true then true else (if (decide (a0 = 45)) = true then true else (if (decide (a0 = 95)) = true then true else (if (decide (a0 ≥ 161)) = true then (decide (a0 ≤ 65519)) else false)))) else (if (decide (a0 = 45)) = true then true else (if (decide (a0 = 95)) = true then true else (if (decide (a0 ≥ 161)) = true then (decide (a0 ≤ 65519)) else false))))) else (if (decide (a0 ≥ 48)) = true then (if (decide (a0 ≤ 57)) = true then true else (if (decide (a0 = 45)) = true then true else (if (decide (a0 = 95)) = true then true else (if (decide (a0 ≥ 161)) = true then (decide (a0 ≤ 65519)) else false)))) else (if (decide (a0 = 45)) = true then true else (if (decide (a0 = 95)) = true then true else (if (decide (a0 ≥ 161)) = true then (decide (a0 ≤ 65519)) else false)))))) else (if (decide (a0 ≥ 65)) = true then (if (decide (a0 ≤ 90)) = true then true else (if (decide (a0 ≥ 48)) = true then (if (decide (a0 ≤ 57)) = true then true else (if (decide (a0 = 45)) = true then true else (if (decide (a0 = 95)) = true then true else (if (decide (a0 ≥ 161)) = true then (decide (a0 ≤ 65519)) else false)))) else (if (decide (a0 = 45)) = true then true else (if (decide (a0 = 95)) = true then true else (if (decide (a0 ≥ 161)) = true then (decide (a0 ≤ 65519)) else false))))) else (if (decide (a0 ≥ 48)) = true then (if (decide (a0 ≤ 57)) = true then true else (if (decide (a0 = 45)) = true then true else (if (decide (a0 = 95)) = true then true else (if (decide (a0 ≥ 161)) = true then (decide (a0 ≤ 65519)) else false)))) else (if (decide (a0 = 45)) = true then true else (if (decide (a0 = 95)) = true then true else (if (decide (a0 ≥ 161)) = true then (decide (a0 ≤ 65519)) else false)))))) from by rw [ite_t c1, ite_f c2, ite_t c3, ite_f c4, ite_t c5, ite_t c6])), rfl⟩
              · skip
                refine ol_gval (v := .int .i64 a0) (by exact xr_move rfl rfl) rfl rfl rfl rfl rfl c6 ?_
                refine ol_gval (v := .bool (decide (a0 = 45))) (by exact xr_eqI rfl Try.underlying3 rfl rfl rfl) rfl rfl rfl rfl rfl c6 ?_
                refine ol_val (v := .bool (decide (a0 = 45))) (by exact xr_pickF rfl rfl c6 rfl) rfl rfl rfl ?_
                refine ol_val (v := .bool (decide (a0 = 45))) (by exact xr_move rfl rfl) rfl rfl rfl ?_
                rcases bt (decide (a0 = 45)) with c7 | c7
                · skip
                  refine ol_gskip rfl rfl rfl rfl rfl c7 ?_
                  refine ol_gskip rfl rfl rfl rfl rfl c7 ?_
                  refine ol_val (v := .bool true) (by exact xr_pickT rfl rfl c7 rfl) rfl rfl rfl ?_
                  refine ol_val (v := .bool true) (by exact xr_move rfl rfl) rfl rfl rfl ?_
                  refine ol_gskip rfl rfl rfl rfl rfl rfl ?_
                  refine ol_gskip rfl rfl rfl rfl rfl rfl ?_
                  refine ol_gskip rfl rfl rfl rfl rfl rfl ?_
                  refine ol_uskip rfl rfl rfl rfl rfl ?_
                  refine ol_uskip rfl rfl rfl rfl rfl ?_
                  refine ol_gskip rfl rfl rfl rfl rfl rfl ?_
                  refine ol_val (v := .bool true) (by exact xr_pickT rfl rfl rfl rfl) rfl rfl rfl ?_
                  refine ol_val (v := .bool true) (by exact xr_assign rfl rfl) rfl rfl rfl ?_
                  refine ol_nil ?_
                  refine thn_i ?_
                  exact ⟨(rfl).trans (congrArg (fun z => (.bool z : Value)) (show true = (if (decide (a0 ≥ 97)) = true then (if (decide (a0 ≤ 122)) = true then true else (if (decide (a0 ≥ 65)) = true then (if (decide (a0 ≤ 90)) = true then true else (if (decide (a0 ≥ 48)) = true then (if (decide (a0 ≤ 57)) = true then true else (if (decide (a0 = 45)) = true then true else (if (decide (a0 = 95)) = true then true else (if (decide (a0 ≥ 161)) = true then (decide (a0 ≤ 65519)) else false)))) else (if (decide (a0 = 45)) = true then true else (if (decide (a0 = 95)) = true then true else (if (decide (a0 ≥ 161)) = true then (decide (a0 ≤ 65519)) else false))))) else (if (decide (a0 ≥ 48)) = true then (if (decide (a0 ≤ 57)) = true then true else (if (decide (a0 = 45)) = true then true else (if (decide (a0 = 95)) = true then true else (if (decide (a0 ≥ 161)) = true then (decide (a0 ≤ 65519)) else false)))) else (if (decide (a0 = 45)) = true then true else (if (decide (a0 = 95)) = true then true else (if (decide (a0 ≥ 161)) = true then (decide (a0 ≤ 65519)) else false)))))) else (if (decide (a0 ≥ 65)) = true then (if (decide (a0 ≤ 90)) = true then true else (if (decide (a0 ≥ 48)) = true then (if (decide (a0 ≤ 57)) = true then true else (if (decide (a0 = 45)) = true then true else (if (decide (a0 = 95)) = true then true else (if (decide (a0 ≥ 161)) = true then (decide (a0 ≤ 65519)) else false)))) else (if (decide (a0 = 45)) = true then true else (if (decide (a0 = 95)) = true then true else (if (decide (a0 ≥ 161)) = true then (decide (a0 ≤ 65519)) else false))))) else (if (decide (a0 ≥ 48)) = true then (if (decide (a0 ≤ 57)) = true then true else (if (decide (a0 = 45)) = true then true else (if (decide (a0 = 95)) = true then true else (if (decide (a0 ≥ 161)) = true then (decide (a0 ≤ 65519)) else false)))) else (if (decide (a0 = 45)) = true then true else (if (decide (a0 = 95)) = true then true else (if (decide (a0 ≥ 161)) = true then (decide (a0 ≤ 65519)) else false)))))) from by rw [ite_t c1, ite_f c2, ite_t c3, ite_f c4, ite_t c5, ite_f c6, ite_t c7])), rfl⟩
                · skip
                  refine ol_gval (v := .int .i64 a0) (by exact xr_move rfl rfl) rfl rfl rfl rfl rfl c7 ?_
                  refine ol_gval (v := .bool (decide (a0 = 95))) (by exact xr_eqI rfl Try.underlying3 rfl rfl rfl) rfl rfl rfl rfl rfl c7 ?_
                  refine ol_val (v := .bool (decide (a0 = 95))) (by exact xr_pickF rfl rfl c7 rfl) rfl rfl rfl ?_
                  refine ol_val (v := .bool (decide (a0 = 95))) (by exact xr_move rfl rfl) rfl rfl rfl ?_
                  rcases bt (decide (a0 = 95)) with c8 | c8
                  · skip
                    refine ol_gskip rfl rfl rfl rfl rfl c8 ?_
                    refine ol_gskip rfl rfl rfl rfl rfl c8 ?_
                    refine ol_gskip rfl rfl rfl rfl rfl c8 ?_
                    refine ol_uskip rfl rfl rfl rfl rfl ?_
                    refine ol_uskip rfl rfl rfl rfl rfl ?_
                    refine ol_gskip rfl rfl rfl rfl rfl c8 ?_
                    refine ol_val (v := .bool true) (by exact xr_pickT rfl rfl c8 rfl) rfl rfl rfl ?_
                    refine ol_val (v := .bool true) (by exact xr_assign rfl rfl) rfl rfl rfl ?_
                    refine ol_nil ?_
                    refine thn_i ?_
                    exact ⟨(rfl).trans (congrArg (fun z => (.bool z : Value)) (show true = (if (decide (a0 ≥ 97)) = true then (if (decide (a0 ≤ 122)) = true then true else (if (decide (a0 ≥ 65)) = true then (if (decide (a0 ≤ 90)) = true then true else (if (decide (a0 ≥ 48)) = true then (if (decide (a0 ≤ 57)) = true then true else (if (decide (a0 = 45)) = true then true else (if (decide (a0 = 95)) = true then true else (if (decide (a0 ≥ 161)) = true then (decide (a0 ≤ 65519)) else false)))) else (if (decide (a0 = 45)) = true then true else (if (decide (a0 = 95)) = true then true else (if (decide (a0 ≥ 161)) = true then (decide (a0 ≤ 65519)) else false))))) else (if (decide (a0 ≥ 48)) = true then (if (decide (a0 ≤ 57)) = true then true else (if (decide (a0 = 45)) = true then true else (if (decide (a0 = 95)) = true then true else (if (decide (a0 ≥ 161)) = true then (decide (a0 ≤ 65519)) else false)))) else (if (decide (a0 = 45)) = true then true else (if (decide (a0 = 95)) = true then true else (if (decide (a0 ≥ 161)) = true then (decide (a0 ≤ 65519)) else false)))))) else (if (decide (a0 ≥ 65)) = true then (if (decide (a0 ≤ 90)) = true then true else (if (decide (a0 ≥ 48)) = true then (if (decide (a0 ≤ 57)) = true then true else (if (decide (a0 = 45)) = true then true else (if (decide (a0 = 95)) = true then true else (if (decide (a0 ≥ 161)) = true then (decide (a0 ≤ 65519)) else false)))) else (if (decide (a0 = 45)) = true then true else (if (decide (a0 = 95)) = true then true else (if (decide (a0 ≥ 161)) = true then (decide (a0 ≤ 65519)) else false))))) else (if (decide (a0 ≥ 48)) = true then (if (decide (a0 ≤ 57)) = true then true else (if (decide (a0 = 45)) = true then true else (if (decide (a0 = 95)) = true then true else (if (decide (a0 ≥ 161)) = true then (decide (a0 ≤ 65519)) else false)))) else (if (decide (a0 = 45)) = true then true else (if (decide (a0 = 95)) = true then true else (if (decide (a0 ≥ 161)) = true then (decide (a0 ≤ 65519)) else false)))))) from by rw [ite_t c1, ite_f c2, ite_t c3, ite_f c4, ite_t c5, ite_f c6, ite_f c7, ite_t c8])), rfl⟩
                  · skip
                    refine ol_gval (v := .int .i64 a0) (by exact xr_move rfl rfl) rfl rfl rfl rfl rfl c8 ?_
                    refine ol_gval (v := .bool (decide (a0 ≥ 161))) (by exact xr_geq rfl rfl rfl) rfl rfl rfl rfl rfl c8 ?_
                    refine ol_gval (v := .bool (decide (a0 ≥ 161))) (by exact xr_move rfl rfl) rfl rfl rfl rfl rfl c8 ?_
                    rcases bt (decide (a0 ≥ 161)) with c9 | c9
                    · skip
                      refine ol_gval (v := .int .i64 a0) (by exact xr_move rfl rfl) rfl rfl rfl rfl rfl c9 ?_
                      refine ol_gval (v := .bool (decide (a0 ≤ 65519))) (by exact xr_leq rfl rfl rfl) rfl rfl rfl rfl rfl c9 ?_
                      refine ol_gval (v := .bool (decide (a0 ≤ 65519))) (by exact xr_pickT rfl rfl c9 rfl) rfl rfl rfl rfl rfl c8 ?_
                      refine ol_val (v := .bool (decide (a0 ≤ 65519))) (by exact xr_pickF rfl rfl c8 rfl) rfl rfl rfl ?_
                      refine ol_val (v := .bool (decide (a0 ≤ 65519))) (by exact xr_assign rfl rfl) rfl rfl rfl ?_
                      refine ol_nil ?_
                      refine thn_i ?_
                      exact ⟨(rfl).trans (congrArg (fun z => (.bool z : Value)) (show (decide (a0 ≤ 65519)) = (if (decide (a0 ≥ 97)) = true then (if (decide (a0 ≤ 122)) = true then true else (if (decide (a0 ≥ 65)) = true then (if (decide (a0 ≤ 90)) = true then true else (if (decide (a0 ≥ 48)) = true then (if (decide (a0 ≤ 57)) = true then true else (if (decide (a0 = 45)) = true then true else (if (decide (a0 = 95)) = true then true else (if (decide (a0 ≥ 161)) = true then (decide (a0 ≤ 65519)) else false)))) else (if (decide (a0 = 45)) = true then true else (if (decide (a0 = 95)) = true then true else (if (decide (a0 ≥ 161)) = true then (decide (a0 ≤ 65519)) else false))))) else (if (decide (a0 ≥ 48)) = true then (if (decide (a0 ≤ 57)) = true then true else (if (decide (a0 = 45)) = true then true else (if (decide (a0 = 95)) = true then true else (if (decide (a0 ≥ 161)) = true then (decide (a0 ≤ 65519)) else false)))) else (if (decide (a0 = 45)) = true then true else (if (decide (a0 = 95)) = true then true else (if (decide (a0 ≥ 161)) = true then (decide (a0 ≤ 65519)) else false)))))) else (if (decide (a0 ≥ 65)) = true then (if (decide (a0 ≤ 90)) = true then true else (if (decide (a0 ≥ 48)) = true then (if (decide (a0 ≤ 57)) = true then true else (if (decide (a0 = 45)) = true then true else (if (decide (a0 = 95)) = true then true else (if (decide (a0 ≥ 161)) = true then (decide (a0 ≤ 65519)) else false)))) else (if (decide (a0 = 45)) = true then true else (if (decide (a0 = 95)) = true then true else (if (decide (a0 ≥ 161)) = true then (decide (a0 ≤ 65519)) else false))))) else (if (decide (a0 ≥ 48)) = true then (if (decide (a0 ≤ 57)) = true then true else (if (decide (a0 = 45)) = true then true else (if (decide (a0 = 95)) = true then true else (if (decide (a0 ≥ 161)) = true then (decide (a0 ≤ 65519)) else false)))) else (if (decide (a0 = 45)) = true then true else (if (decide (a0 = 95)) = true then true else (if (decide (a0 ≥ 161)) = true then (decide (a0 ≤ 65519)) else false)))))) from by rw [ite_t c1, ite_f c2, ite_t c3, ite_f c4, ite_t c5, ite_f c6, ite_f c7, ite_f c8, ite_t c9])), rfl⟩
                    · skip
                      refine ol_gskip rfl rfl rfl rfl rfl c9 ?_
                      refine ol_gskip rfl rfl rfl rfl rfl c9 ?_
                      refine ol_gval (v := .bool false) (by exact xr_pickF rfl rfl c9 rfl) rfl rfl rfl rfl rfl c8 ?_
                      refine ol_val (v := .bool false) (by exact xr_pickF rfl rfl c8 rfl) rfl rfl rfl ?_
                      refine ol_val (v := .bool false) (by exact xr_assign rfl rfl) rfl rfl rfl ?_
                      refine ol_nil ?_
                      refine thn_i ?_
                      exact ⟨(rfl).trans (congrArg (fun z => (.bool z : Value)) (show false = (if (decide (a0 ≥ 97)) = true then (if (decide (a0 ≤ 122)) = true then true else (if (decide (a0 ≥ 65)) = true then (if (decide (a0 ≤ 90)) = true then true else (if (decide (a0 ≥ 48)) = true then (if (decide (a0 ≤ 57)) = true then true else (if (decide (a0 = 45)) = true then true else (if (decide (a0 = 95)) = true then true else (if (decide (a0 ≥ 161)) = true then (decide (a0 ≤ 65519)) else false)))) else (if (decide (a0 = 45)) = true then true else (if (decide (a0 = 95)) = true then true else (if (decide (a0 ≥ 161)) = true then (decide (a0 ≤ 65519)) else false))))) else (if (decide (a0 ≥ 48)) = true then (if (decide (a0 ≤ 57)) = true then true else (if (decide (a0 = 45)) = true then true else (if (decide (a0 = 95)) = true then true else (if (decide (a0 ≥ 161)) = true then (decide (a0 ≤ 65519)) else false)))) else (if (decide (a0 = 45)) = true then true else (if (decide (a0 = 95)) = true then true else (if (decide (a0 ≥ 161)) = true then (decide (a0 ≤ 65519)) else false)))))) else (if (decide (a0 ≥ 65)) = true then (if (decide (a0 ≤ 90)) = true then true else (if (decide (a0 ≥ 48)) = true then (if (decide (a0 ≤ 57)) = true then true else (if (decide (a0 = 45)) = true then true else (if (decide (a0 = 95)) = true then true else (if (decide (a0 ≥ 161)) = true then (decide (a0 ≤ 65519)) else false)))) else (if (decide (a0 = 45)) = true then true else (if (decide (a0 = 95)) = true then true else (if (decide (a0 ≥ 161)) = true then (decide (a0 ≤ 65519)) else false))))) else (if (decide (a0 ≥ 48)) = true then (if (decide (a0 ≤ 57)) = true then true else (if (decide (a0 = 45)) = true then true else (if (decide (a0 = 95)) = true then true else (if (decide (a0 ≥ 161)) = true then (decide (a0 ≤ 65519)) else false)))) else (if (decide (a0 = 45)) = true then true else (if (decide (a0 = 95)) = true then true else (if (decide (a0 ≥ 161)) = true then (decide (a0 ≤ 65519)) else false)))))) from by rw [ite_t c1, ite_f c2, ite_t c3, ite_f c4, ite_t c5, ite_f c6, ite_f c7, ite_f c8, ite_f c9])), rfl⟩
            · skip
              refine ol_gskip rfl rfl rfl rfl rfl c5 ?_
              refine ol_gskip rfl rfl rfl rfl rfl c5 ?_
              refine ol_gval (v := .bool false) (by exact xr_pickF rfl rfl c5 rfl) rfl rfl rfl rfl rfl c4 ?_
              refine ol_val (v := .bool false) (by exact xr_pickF rfl rfl c4 rfl) rfl rfl rfl ?_
              refine ol_val (v := .bool false) (by exact xr_move rfl rfl) rfl rfl rfl ?_
              refine ol_gval (v := .int .i64 a0) (by exact xr_move rfl rfl) rfl rfl rfl rfl rfl rfl ?_
              refine ol_gval (v := .bool (decide (a0 = 45))) (by exact xr_eqI rfl Try.underlying3 rfl rfl rfl) rfl rfl rfl rfl rfl rfl ?_
              refine ol_val (v := .bool (decide (a0 = 45))) (by exact xr_pickF rfl rfl rfl rfl) rfl rfl rfl ?_
              refine ol_val (v := .bool (decide (a0 = 45))) (by exact xr_move rfl rfl) rfl rfl rfl ?_
              rcases bt (decide (a0 = 45)) with c10 | c10
              · skip
                refine ol_gskip rfl rfl rfl rfl rfl c10 ?_
                refine ol_gskip rfl rfl rfl rfl rfl c10 ?_
                refine ol_val (v := .bool true) (by exact xr_pickT rfl rfl c10 rfl) rfl rfl rfl ?_
                refine ol_val (v := .bool true) (by exact xr_move rfl rfl) rfl rfl rfl ?_
                refine ol_gskip rfl rfl rfl rfl rfl rfl ?_
                refine ol_gskip rfl rfl rfl rfl rfl rfl ?_
                refine ol_gskip rfl rfl rfl rfl rfl rfl ?_
                refine ol_uskip rfl rfl rfl rfl rfl ?_
                refine ol_uskip rfl rfl rfl rfl rfl ?_
                refine ol_gskip rfl rfl rfl rfl rfl rfl ?_
                refine ol_val (v := .bool true) (by exact xr_pickT rfl rfl rfl rfl) rfl rfl rfl ?_
                refine ol_val (v := .bool true) (by exact xr_assign rfl rfl) rfl rfl rfl ?_
                refine ol_nil ?_
                refine thn_i ?_
                exact ⟨(rfl).trans (congrArg (fun z => (.bool z : Value)) (show true = (if (decide (a0 ≥ 97)) = true then (if (decide (a0 ≤ 122)) = true then true else (if (decide (a0 ≥ 65)) = true then (if (decide (a0 ≤ 90)) = true then true else (if (decide (a0 ≥ 48)) = true then (if (decide (a0 ≤ 57)) = true then true else (if (decide (a0 = 45)) = true then true else (if (decide (a0 = 95)) = true then true else (if (decide (a0 ≥ 161)) = true then (decide (a0 ≤ 65519)) else false)))) else (if (decide (a0 = 45)) = true then true else (if (decide (a0 = 95)) = true then true else (if (decide (a0 ≥ 161)) = true then (decide (a0 ≤ 65519)) else false))))) else (if (decide (a0 ≥ 48)) = true then (if (decide (a0 ≤ 57)) = true then true else (if (decide (a0 = 45)) = true then true else (if (decide (a0 = 95)) = true then true else (if (decide (a0 ≥ 161)) = true then (decide (a0 ≤ 65519)) else false)))) else (if (decide (a0 = 45)) = true then true else (if (decide (a0 = 95)) = true then true else (if (decide (a0 ≥ 161)) = true then (decide (a0 ≤ 65519)) else false)))))) else (if (decide (a0 ≥ 65)) = true then (if (decide (a0 ≤ 90)) = true then true else (if (decide (a0 ≥ 48)) = true then (if (decide (a0 ≤ 57)) = true then true else (if (decide (a0 = 45)) = true then true else (if (decide (a0 = 95)) = true then true else (if (decide (a0 ≥ 161)) = true then (decide (a0 ≤ 65519)) else false)))) else (if (decide (a0 = 45)) = true then true else (if (decide (a0 = 95)) = true then true else (if (decide (a0 ≥ 161)) = true then (decide (a0 ≤ 65519)) else false))))) else (if (decide (a0 ≥ 48)) = true then (if (decide (a0 ≤ 57)) = true then true else (if (decide (a0 = 45)) = true then true else (if (decide (a0 = 95)) = true then true else (if (decide (a0 ≥ 161)) = true then (decide (a0 ≤ 65519)) else false)))) else (if (decide (a0 = 45)) = true then true else (if (decide (a0 = 95)) = true then true else (if (decide (a0 ≥ 161)) = true then (decide (a0 ≤ 65519)) else false)))))) from by rw [ite_t c1, ite_f c2, ite_t c3, ite_f c4, ite_f c5, ite_t c10])), rfl⟩
              · skip
                refine ol_gval (v := .int .i64 a0) (by exact xr_move rfl rfl) rfl rfl rfl rfl rfl c10 ?_
                refine ol_gval (v := .bool (decide (a0 = 95))) (by exact xr_eqI rfl Try.underlying3 rfl rfl rfl) rfl rfl rfl rfl rfl c10 ?_
                refine ol_val (v := .bool (decide (a0 = 95))) (by exact xr_pickF rfl rfl c10 rfl) rfl rfl rfl ?_
                refine ol_val (v := .bool (decide (a0 = 95))) (by exact xr_move rfl rfl) rfl rfl rfl ?_
                rcases bt (decide (a0 = 95)) with c11 | c11
                · skip
                  refine ol_gskip rfl rfl rfl rfl rfl c11 ?_
                  refine ol_gskip rfl rfl rfl rfl rfl c11 ?_
                  refine ol_gskip rfl rfl rfl rfl rfl c11 ?_
                  refine ol_uskip rfl rfl rfl rfl rfl ?_
                  refine ol_uskip rfl rfl rfl rfl rfl ?_
                  refine ol_gskip rfl rfl rfl rfl rfl c11 ?_
                  refine ol_val (v := .bool true) (by exact xr_pickT rfl rfl c11 rfl) rfl rfl rfl ?_
                  refine ol_val (v := .bool true) (by exact xr_assign rfl rfl) rfl rfl rfl ?_
                  refine ol_nil ?_
                  refine thn_i ?_
                  exact ⟨(rfl).trans (congrArg (fun z => (.bool z : Value)) (show true = (if (decide (a0 ≥ 97)) = true then (if (decide (a0 ≤ 122)) = true then true else (if (decide (a0 ≥ 65)) = true then (if (decide (a0 ≤ 90)) = true then true else (if (decide (a0 ≥ 48)) = true then (if (decide (a0 ≤ 57)) = true then true else (if (decide (a0 = 45)) = true then true else (if (decide (a0 = 95)) = true then true else (if (decide (a0 ≥ 161)) = true then (decide (a0 ≤ 65519)) else false)))) else (if (decide (a0 = 45)) = true then true else (if (decide (a0 = 95)) = true then true else (if (decide (a0 ≥ 161)) = true then (decide (a0 ≤ 65519)) else false))))) else (if (decide (a0 ≥ 48)) = true then (if (decide (a0 ≤ 57)) = true then true else (if (decide (a0 = 45)) = true then true else (if (decide (a0 = 95)) = true then true else (if (decide (a0 ≥ 161)) = true then (decide (a0 ≤ 65519)) else false)))) else (if (decide (a0 = 45)) = true then true else (if (decide (a0 = 95)) = true then true else (if (decide (a0 ≥ 161)) = true then (decide (a0 ≤ 65519)) else false)))))) else (if (decide (a0 ≥ 65)) = true then (if (decide (a0 ≤ 90)) = true then true else (if (decide (a0 ≥ 48)) = true then (if (decide (a0 ≤ 57)) = true then true else (if (decide (a0 = 45)) = true then true else (if (decide (a0 = 95)) = true then true else (if (decide (a0 ≥ 161)) = true then (decide (a0 ≤ 65519)) else false)))) else (if (decide (a0 = 45)) = true then true else (if (decide (a0 = 95)) = true then true else (if (decide (a0 ≥ 161)) = true then (decide (a0 ≤ 65519)) else false))))) else (if (decide (a0 ≥ 48)) = true then (if (decide (a0 ≤ 57)) = true then true else (if (decide (a0 = 45)) = true then true else (if (decide (a0 = 95)) = true then true else (if (decide (a0 ≥ 161)) = true then (decide (a0 ≤ 65519)) else false)))) else (if (decide (a0 = 45)) = true then true else (if (decide (a0 = 95)) = true then true else (if (decide (a0 ≥ 161)) = true then (decide (a0 ≤ 65519)) else false)))))) from by rw [ite_t c1, ite_f c2, ite_t c3, ite_f c4, ite_f c5, ite_f c10, ite_t c11])), rfl⟩
                · skip
                  refine ol_gval (v := .int .i64 a0) (by exact xr_move rfl rfl) rfl rfl rfl rfl rfl c11 ?_
                  refine ol_gval (v := .bool (decide (a0 ≥ 161))) (by exact xr_geq rfl rfl rfl) rfl rfl rfl rfl rfl c11 ?_
                  refine ol_gval (v := .bool (decide (a0 ≥ 161))) (by exact xr_move rfl rfl) rfl rfl rfl rfl rfl c11 ?_
                  rcases bt (decide (a0 ≥ 161)) with c12 | c12
                  · skip
                    refine ol_gval (v := .int .i64 a0) (by exact xr_move rfl rfl) rfl rfl rfl rfl rfl c12 ?_
                    refine ol_gval (v := .bool (decide (a0 ≤ 65519))) (by exact xr_leq rfl rfl rfl) rfl rfl rfl rfl rfl c12 ?_
                    refine ol_gval (v := .bool (decide (a0 ≤ 65519))) (by exact xr_pickT rfl rfl c12 rfl) rfl rfl rfl rfl rfl c11 ?_
                    refine ol_val (v := .bool (decide (a0 ≤ 65519))) (by exact xr_pickF rfl rfl c11 rfl) rfl rfl rfl ?_
                    refine ol_val (v := .bool (decide (a0 ≤ 65519))) (by exact xr_assign rfl rfl) rfl rfl rfl ?_
                    refine ol_nil ?_
                    refine thn_i ?_
                    exact ⟨(rfl).trans (congrArg (fun z => (.bool z : Value)) (show (decide (a0 ≤ 65519)) = (if (decide (a0 ≥ 97)) = true then (if (decide (a0 ≤ 122)) = true then true else (if (decide (a0 ≥ 65)) = true then (if (decide (a0 ≤ 90)) = true then true else (if (decide (a0 ≥ 48)) = true then (if (decide (a0 ≤ 57)) = true then true else (if (decide (a0 = 45)) = true then true else (if (decide (a0 = 95)) = true then true else (if (decide (a0 ≥ 161)) = true then (decide (a0 ≤ 65519)) else false)))) else (if (decide (a0 = 45)) = true then true else (if (decide (a0 = 95)) = true then true else (if (decide (a0 ≥ 161)) = true then (decide (a0 ≤ 65519)) else false))))) else (if (decide (a0 ≥ 48)) = true then (if (decide (a0 ≤ 57)) = true then true else (if (decide (a0 = 45)) = true then true else (if (decide (a0 = 95)) = true then true else (if (decide (a0 ≥ 161)) = true then (decide (a0 ≤ 65519)) else false)))) else (if (decide (a0 = 45)) = true then true else (if (decide (a0 = 95)) = true then true else (if (decide (a0 ≥ 161)) = true then (decide (a0 ≤ 65519)) else false)))))) else (if (decide (a0 ≥ 65)) = true then (if (decide (a0 ≤ 90)) = true then true else (if (decide (a0 ≥ 48)) = true then (if (decide (a0 ≤ 57)) = true then true else (if (decide (a0 = 45)) = true then true else (if (decide (a0 = 95)) = true then true else (if (decide (a0 ≥ 161)) = true then (decide (a0 ≤ 65519)) else false)))) else (if (decide (a0 = 45)) = true then true else (if (decide (a0 = 95)) = true then true else (if (decide (a0 ≥ 161)) = true then (decide (a0 ≤ 65519)) else false))))) else (if (decide (a0 ≥ 48)) = true then (if (decide (a0 ≤ 57)) = true then true else (if (decide (a0 = 45)) = true then true else (if (decide (a0 = 95)) = true then true else (if (decide (a0 ≥ 161)) = true then (decide (a0 ≤ 65519)) else false)))) else (if (decide (a0 = 45)) = true then true else (if (decide (a0 = 95)) = true then true else (if (decide (a0 ≥ 161)) = true then (decide (a0 ≤ 65519)) else false)))))) from by rw [ite_t c1, ite_f c2, ite_t c3, ite_f c4, ite_f c5, ite_f c10, ite_f c11, ite_t c12])), rfl⟩
                  · skip
                    refine ol_gskip rfl rfl rfl rfl rfl c12 ?_
                    refine ol_gskip rfl rfl rfl rfl rfl c12 ?_
                    refine ol_gval (v := .bool false) (by exact xr_pickF rfl rfl c12 rfl) rfl rfl rfl rfl rfl c11 ?_
                    refine ol_val (v := .bool false) (by exact xr_pickF rfl rfl c11 rfl) rfl rfl rfl ?_
                    refine ol_val (v := .bool false) (by exact xr_assign rfl rfl) rfl rfl rfl ?_
                    refine ol_nil ?_
                    refine thn_i ?_
                    exact ⟨(rfl).trans (congrArg (fun z => (.bool z : Value)) (show false = (if (decide (a0 ≥ 97)) = true then (if (decide (a0 ≤ 122)) = true then true else (if (decide (a0 ≥ 65)) = true then (if (decide (a0 ≤ 90)) = true then true else (if (decide (a0 ≥ 48)) = true then (if (decide (a0 ≤ 57)) = true then true else (if (decide (a0 = 45)) = true then true else (if (decide (a0 = 95)) = true then true else (if (decide (a0 ≥ 161)) = true then (decide (a0 ≤ 65519)) else false)))) else (if (decide (a0 = 45)) = true then true else (if (decide (a0 = 95)) = true then true else (if (decide (a0 ≥ 161)) = true then (decide (a0 ≤ 65519)) else false))))) else (if (decide (a0 ≥ 48)) = true then (if (decide (a0 ≤ 57)) = true then true else (if (decide (a0 = 45)) = true then true else (if (decide (a0 = 95)) = true then true else (if (decide (a0 ≥ 161)) = true then (decide (a0 ≤ 65519)) else false)))) else (if (decide (a0 = 45)) = true then true else (if (decide (a0 = 95)) = true then true else (if (decide (a0 ≥ 161)) = true then (decide (a0 ≤ 65519)) else false)))))) else (if (decide (a0 ≥ 65)) = true then (if (decide (a0 ≤ 90)) = true then true else (if (decide (a0 ≥ 48)) = true then (if (decide (a0 ≤ 57)) = true then true else (if (decide (a0 = 45)) = true then true else (if (decide (a0 = 95)) = true then true else (if (decide (a0 ≥ 161)) = true then (decide (a0 ≤ 65519)) else false)))) else (if (decide (a0 = 45)) = true then true else (if (decide (a0 = 95)) = true then true else (if (decide (a0 ≥ 161)) = true then (decide (a0 ≤ 65519)) else false))))) else (if (decide (a0 ≥ 48)) = true then (if (decide (a0 ≤ 57)) = true then true else (if (decide (a0 = 45)) = true then true else (if (decide (a0 = 95)) = true then true else (if (decide (a0 ≥ 161)) = true then (decide (a0 ≤ 65519)) else false)))) else (if (decide (a0 = 45)) = true then true else (if (decide (a0 = 95)) = true then true else (if (decide (a0 ≥ 161)) = true then (decide (a0 ≤ 65519)) else false)))))) from by rw [ite_t c1, ite_f c2, ite_t c3, ite_f c4, ite_f c5, ite_f c10, ite_f c11, ite_f c12])), rfl⟩
        · skip
          refine ol_gskip rfl rfl rfl rfl rfl c3 ?_
          refine ol_gskip rfl rfl rfl rfl rfl c3 ?_
          refine ol_gval (v := .bool false) (by exact xr_pickF rfl rfl c3 rfl) rfl rfl rfl rfl rfl c2 ?_
          refine ol_val (v := .bool false) (by exact xr_pickF rfl rfl c2 rfl) rfl rfl rfl ?_
          refine ol_val (v := .bool false) (by exact xr_move rfl rfl) rfl rfl rfl ?_
          refine ol_gval (v := .int .i64 a0) (by exact xr_move rfl rfl) rfl rfl rfl rfl rfl rfl ?_
          refine ol_gval (v := .bool (decide (a0 ≥ 48))) (by exact xr_geq rfl rfl rfl) rfl rfl rfl rfl rfl rfl ?_
          refine ol_gval (v := .bool (decide (a0 ≥ 48))) (by exact xr_move rfl rfl) rfl rfl rfl rfl rfl rfl ?_
          rcases bt (decide (a0 ≥ 48)) with c13 | c13
          · skip
            refine ol_gval (v := .int .i64 a0) (by exact xr_move rfl rfl) rfl rfl rfl rfl rfl c13 ?_
            refine ol_gval (v := .bool (decide (a0 ≤ 57))) (by exact xr_leq rfl rfl rfl) rfl rfl rfl rfl rfl c13 ?_
            refine ol_gval (v := .bool (decide (a0 ≤ 57))) (by exact xr_pickT rfl rfl c13 rfl) rfl rfl rfl rfl rfl rfl ?_
            refine ol_val (v := .bool (decide (a0 ≤ 57))) (by exact xr_pickF rfl rfl rfl rfl) rfl rfl rfl ?_
            refine ol_val (v := .bool (decide (a0 ≤ 57))) (by exact xr_move rfl rfl) rfl rfl rfl ?_
            rcases bt (decide (a0 ≤ 57)) with c14 | c14
            · skip
              refine ol_gskip rfl rfl rfl rfl rfl c14 ?_
              refine ol_gskip rfl rfl rfl rfl rfl c14 ?_
              refine ol_val (v := .bool true) (by exact xr_pickT rfl rfl c14 rfl) rfl rfl rfl ?_
              refine ol_val (v := .bool true) (by exact xr_move rfl rfl) rfl rfl rfl ?_
              refine ol_gskip rfl rfl rfl rfl rfl rfl ?_
              refine ol_gskip rfl rfl rfl rfl rfl rfl ?_
              refine ol_val (v := .bool true) (by exact xr_pickT rfl rfl rfl rfl) rfl rfl rfl ?_
              refine ol_val (v := .bool true) (by exact xr_move rfl rfl) rfl rfl rfl ?_
              refine ol_gskip rfl rfl rfl rfl rfl rfl ?_
              refine ol_gskip rfl rfl rfl rfl rfl rfl ?_
              refine ol_gskip rfl rfl rfl rfl rfl rfl ?_
              refine ol_uskip rfl rfl rfl rfl rfl ?_
              refine ol_uskip rfl rfl rfl rfl rfl ?_
              refine ol_gskip rfl rfl rfl rfl rfl rfl ?_
              refine ol_val (v := .bool true) (by exact xr_pickT rfl rfl rfl rfl) rfl rfl rfl ?_
              refine ol_val (v := .bool true) (by exact xr_assign rfl rfl) rfl rfl rfl ?_
              refine ol_nil ?_
              refine thn_i ?_
              exact ⟨(rfl).trans (congrArg (fun z => (.bool z : Value)) (show true = (if (decide (a0 ≥ 97)) = true then (if (decide (a0 ≤ 122)) = true then true else (if (decide (a0 ≥ 65)) = true then (if (decide (a0 ≤ 90)) = true then true else (if (decide (a0 ≥ 48)) = true then (if (decide (a0 ≤ 57)) = true then true else (if (decide (a0 = 45)) = true then true else (if (decide (a0 = 95)) = true then true else (if (decide (a0 ≥ 161)) = true then (decide (a0 ≤ 65519)) else false)))) else (if (decide (a0 = 45)) = true then true else (if (decide (a0 = 95)) = true then true else (if (decide (a0 ≥ 161)) = true then (decide (a0 ≤ 65519)) else false))))) else (if (decide (a0 ≥ 48)) = true then (if (decide (a0 ≤ 57)) = true then true else (if (decide (a0 = 45)) = true then true else (if (decide (a0 = 95)) = true then true else (if (decide (a0 ≥ 161)) = true then (decide (a0 ≤ 65519)) else false)))) else (if (decide (a0 = 45)) = true then true else (if (decide (a0 = 95)) = true then true else (if (decide (a0 ≥ 161)) = true then (decide (a0 ≤ 65519)) else false)))))) else (if (decide (a0 ≥ 65)) = true then (if (decide (a0 ≤ 90)) = true then true else (if (decide (a0 ≥ 48)) = true then (if (decide (a0 ≤ 57)) = true then true else (if (decide (a0 = 45)) = true then true else (if (decide (a0 = 95)) = true then true else (if (decide (a0 ≥ 161)) = true then (decide (a0 ≤ 65519)) else false)))) else (if (decide (a0 = 45)) = true then true else (if (decide (a0 = 95)) = true then true else (if (decide (a0 ≥ 161)) = true then (decide (a0 ≤ 65519)) else false))))) else (if (decide (a0 ≥ 48)) = true then (if (decide (a0 ≤ 57)) = true then true else (if (decide (a0 = 45)) = true then true else (if (decide (a0 = 95)) = true then true else (if (decide (a0 ≥ 161)) = true then (decide (a0 ≤ 65519)) else false)))) else (if (decide (a0 = 45)) = true then true else (if (decide (a0 = 95)) = true then true else (if (decide (a0 ≥ 161)) = true then (decide (a0 ≤ 65519)) else false)))))) from by rw [ite_t c1, ite_f c2, ite_f c3, ite_t c13, ite_t c14])), rfl⟩
            · skip
              refine ol_gval (v := .int .i64 a0) (by exact xr_move rfl rfl) rfl rfl rfl rfl rfl c14 ?_
              refine ol_gval (v := .bool (decide (a0 = 45))) (by exact xr_eqI rfl Try.underlying3 rfl rfl rfl) rfl rfl rfl rfl rfl c14 ?_
              refine ol_val (v := .bool (decide (a0 = 45))) (by exact xr_pickF rfl rfl c14 rfl) rfl rfl rfl ?_
              refine ol_val (v := .bool (decide (a0 = 45))) (by exact xr_move rfl rfl) rfl rfl rfl ?_
              rcases bt (decide (a0 = 45)) with c15 | c15
              · skip
                refine ol_gskip rfl rfl rfl rfl rfl c15 ?_
                refine ol_gskip rfl rfl rfl rfl rfl c15 ?_
                refine ol_val (v := .bool true) (by exact xr_pickT rfl rfl c15 rfl) rfl rfl rfl ?_
                refine ol_val (v := .bool true) (by exact xr_move rfl rfl) rfl rfl rfl ?_
                refine ol_gskip rfl rfl rfl rfl rfl rfl ?_
                refine ol_gskip rfl rfl rfl rfl rfl rfl ?_
                refine ol_gskip rfl rfl rfl rfl rfl rfl ?_
                refine ol_uskip rfl rfl rfl rfl rfl ?_
                refine ol_uskip rfl rfl rfl rfl rfl ?_
                refine ol_gskip rfl rfl rfl rfl rfl rfl ?_
                refine ol_val (v := .bool true) (by exact xr_pickT rfl rfl rfl rfl) rfl rfl rfl ?_
                refine ol_val (v := .bool true) (by exact xr_assign rfl rfl) rfl rfl rfl ?_
                refine ol_nil ?_
                refine thn_i ?_
                exact ⟨(rfl).trans (congrArg (fun z => (.bool z : Value)) (show true = (if (decide (a0 ≥ 97)) = true then (if (decide (a0 ≤ 122)) = true then true else (if (decide (a0 ≥ 65)) = true then (if (decide (a0 ≤ 90)) = true then true else (if (decide (a0 ≥ 48)) = true then (if (decide (a0 ≤ 57)) = true then true else (if (decide (a0 = 45)) = true then true else (if (decide (a0 = 95)) = true then true else (if (decide (a0 ≥ 161)) = true then (decide (a0 ≤ 65519)) else false)))) else (if (decide (a0 = 45)) = true then true else (if (decide (a0 = 95)) = true then true else (if (decide (a0 ≥ 161)) = true then (decide (a0 ≤ 65519)) else false))))) else (if (decide (a0 ≥ 48)) = true then (if (decide (a0 ≤ 57)) = true then true else (if (decide (a0 = 45)) = true then true else (if (decide (a0 = 95)) = true then true else (if (decide (a0 ≥ 161)) = true then (decide (a0 ≤ 65519)) else false)))) else (if (decide (a0 = 45)) = true then true else (if (decide (a0 = 95)) = true then true else (if (decide (a0 ≥ 161)) = true then (decide (a0 ≤ 65519)) else false)))))) else (if (decide (a0 ≥ 65)) = true then (if (decide (a0 ≤ 90)) = true then true else (if (decide (a0 ≥ 48)) = true then (if (decide (a0 ≤ 57)) = true then true else (if (decide (a0 = 45)) = true then true else (if (decide (a0 = 95)) = true then true else (if (decide (a0 ≥ 161)) = true then (decide (a0 ≤ 65519)) else false)))) else (if (decide (a0 = 45)) = true then true else (if (decide (a0 = 95)) = true then true else (if (decide (a0 ≥ 161)) = true then (decide (a0 ≤ 65519)) else false))))) else (if (decide (a0 ≥ 48)) = true then (if (decide (a0 ≤ 57)) = true then true else (if (decide (a0 = 45)) = true then true else (if (decide (a0 = 95)) = true then true else (if (decide (a0 ≥ 161)) = true then (decide (a0 ≤ 65519)) else false)))) else (if (decide (a0 = 45)) = true then true else (if (decide (a0 = 95)) = true then true else (if (decide (a0 ≥ 161)) = true then (decide (a0 ≤ 65519)) else false)))))) from by rw [ite_t c1, ite_f c2, ite_f c3, ite_t c13, ite_f c14, ite_t c15])), rfl⟩
              · skip
                refine ol_gval (v := .int .i64 a0) (by exact xr_move rfl rfl) rfl rfl rfl rfl rfl c15 ?_
                refine ol_gval (v := .bool (decide (a0 = 95))) (by exact xr_eqI rfl Try.underlying3 rfl rfl rfl) rfl rfl rfl rfl rfl c15 ?_
                refine ol_val (v := .bool (decide (a0 = 95))) (by exact xr_pickF rfl rfl c15 rfl) rfl rfl rfl ?_
                refine ol_val (v := .bool (decide (a0 = 95))) (by exact xr_move rfl rfl) rfl rfl rfl ?_
                rcases bt (decide (a0 = 95)) with c16 | c16
                · skip
                  refine ol_gskip rfl rfl rfl rfl rfl c16 ?_
                  refine ol_gskip rfl rfl rfl rfl rfl c16 ?_
                  refine ol_gskip rfl rfl rfl rfl rfl c16 ?_
                  refine ol_uskip rfl rfl rfl rfl rfl ?_
                  refine ol_uskip rfl rfl rfl rfl rfl ?_
                  refine ol_gskip rfl rfl rfl rfl rfl c16 ?_
                  refine ol_val (v := .bool true) (by exact xr_pickT rfl rfl c16 rfl) rfl rfl rfl ?_
                  refine ol_val (v := .bool true) (by exact xr_assign rfl rfl) rfl rfl rfl ?_
                  refine ol_nil ?_
                  refine thn_i ?_
                  exact ⟨(rfl).trans (congrArg (fun z => (.bool z : Value)) (show true = (if (decide (a0 ≥ 97)) = true then (if (decide (a0 ≤ 122)) = true then true else (if (decide (a0 ≥ 65)) = true then (if (decide (a0 ≤ 90)) = true then true else (if (decide (a0 ≥ 48)) = true then (if (decide (a0 ≤ 57)) = true then true else (if (decide (a0 = 45)) = true then true else (if (decide (a0 = 95)) = true then true else (if (decide (a0 ≥ 161)) = true then (decide (a0 ≤ 65519)) else false)))) else (if (decide (a0 = 45)) = true then true else (if (decide (a0 = 95)) = true then true else (if (decide (a0 ≥ 161)) = true then (decide (a0 ≤ 65519)) else false))))) else (if (decide (a0 ≥ 48)) = true then (if (decide (a0 ≤ 57)) = true then true else (if (decide (a0 = 45)) = true then true else (if (decide (a0 = 95)) = true then true else (if (decide (a0 ≥ 161)) = true then (decide (a0 ≤ 65519)) else false)))) else (if (decide (a0 = 45)) = true then true else (if (decide (a0 = 95)) = true then true else (if (decide (a0 ≥ 161)) = true then (decide (a0 ≤ 65519)) else false)))))) else (if (decide (a0 ≥ 65)) = true then (if (decide (a0 ≤ 90)) = true then true else (if (decide (a0 ≥ 48)) = true then (if (decide (a0 ≤ 57)) = true then true else (if (decide (a0 = 45)) = true then true else (if (decide (a0 = 95)) = true then true else (if (decide (a0 ≥ 161)) = true then (decide (a0 ≤ 65519)) else false)))) else (if (decide (a0 = 45)) = true then true else (if (decide (a0 = 95)) = true then true else (if (decide (a0 ≥ 161)) = true then (decide (a0 ≤ 65519)) else false))))) else (if (decide (a0 ≥ 48)) = true then (if (decide (a0 ≤ 57)) = true then true else (if (decide (a0 = 45)) = true then true else (if (decide (a0 = 95)) = true then true else (if (decide (a0 ≥ 161)) = true then (decide (a0 ≤ 65519)) else false)))) else (if (decide (a0 = 45)) = true then true else (if (decide (a0 = 95)) = true then true else (if (decide (a0 ≥ 161)) = true then (decide (a0 ≤ 65519)) else false)))))) from by rw [ite_t c1, ite_f c2, ite_f c3, ite_t c13, ite_f c14, ite_f c15, ite_t c16])), rfl⟩
                · skip
                  refine ol_gval (v := .int .i64 a0) (by exact xr_move rfl rfl) rfl rfl rfl rfl rfl c16 ?_
                  refine ol_gval (v := .bool (decide (a0 ≥ 161))) (by exact xr_geq rfl rfl rfl) rfl rfl rfl rfl rfl c16 ?_
                  refine ol_gval (v := .bool (decide (a0 ≥ 161))) (by exact xr_move rfl rfl) rfl rfl rfl rfl rfl c16 ?_
                  rcases bt (decide (a0 ≥ 161)) with c17 | c17
                  · skip
                    refine ol_gval (v := .int .i64 a0) (by exact xr_move rfl rfl) rfl rfl rfl rfl rfl c17 ?_
                    refine ol_gval (v := .bool (decide (a0 ≤ 65519))) (by exact xr_leq rfl rfl rfl) rfl rfl rfl rfl rfl c17 ?_
                    refine ol_gval (v := .bool (decide (a0 ≤ 65519))) (by exact xr_pickT rfl rfl c17 rfl) rfl rfl rfl rfl rfl c16 ?_
                    refine ol_val (v := .bool (decide (a0 ≤ 65519))) (by exact xr_pickF rfl rfl c16 rfl) rfl rfl rfl ?_
                    refine ol_val (v := .bool (decide (a0 ≤ 65519))) (by exact xr_assign rfl rfl) rfl rfl rfl ?_
                    refine ol_nil ?_
                    refine thn_i ?_
                    exact ⟨(rfl).trans (congrArg (fun z => (.bool z : Value)) (show (decide (a0 ≤ 65519)) = (if (decide (a0 ≥ 97)) = true then (if (decide (a0 ≤ 122)) = true then true else (if (decide (a0 ≥ 65)) = true then (if (decide (a0 ≤ 90)) = true then true else (if (decide (a0 ≥ 48)) = true then (if (decide (a0 ≤ 57)) = true then true else (if (decide (a0 = 45)) = true then true else (if (decide (a0 = 95)) = true then true else (if (decide (a0 ≥ 161)) = true then (decide (a0 ≤ 65519)) else false)))) else (if (decide (a0 = 45)) = true then true else (if (decide (a0 = 95)) = true then true else (if (decide (a0 ≥ 161)) = true then (decide (a0 ≤ 65519)) else false))))) else (if (decide (a0 ≥ 48)) = true then (if (decide (a0 ≤ 57)) = true then true else (if (decide (a0 = 45)) = true then true else (if (decide (a0 = 95)) = true then true else (if (decide (a0 ≥ 161)) = true then (decide (a0 ≤ 65519)) else false)))) else (if (decide (a0 = 45)) = true then true else (if (decide (a0 = 95)) = true then true else (if (decide (a0 ≥ 161)) = true then (decide (a0 ≤ 65519)) else false)))))) else (if (decide (a0 ≥ 65)) = true then (if (decide (a0 ≤ 90)) = true then true else (if (decide (a0 ≥ 48)) = true then (if (decide (a0 ≤ 57)) = true then true else (if (decide (a0 = 45)) = true then true else (if (decide (a0 = 95)) = true then true else (if (decide (a0 ≥ 161)) = true then (decide (a0 ≤ 65519)) else false)))) else (if (decide (a0 = 45)) = true then true else (if (decide (a0 = 95)) = true then true else (if (decide (a0 ≥ 161)) = true then (decide (a0 ≤ 65519)) else false))))) else (if (decide (a0 ≥ 48)) = true then (if (decide (a0 ≤ 57)) = true then true else (if (decide (a0 = 45)) = true then true else (if (decide (a0 = 95)) = true then true else (if (decide (a0 ≥ 161)) = true then (decide (a0 ≤ 65519)) else false)))) else (if (decide (a0 = 45)) = true then true else (if (decide (a0 = 95)) = true then true else (if (decide (a0 ≥ 161)) = true then (decide (a0 ≤ 65519)) else false)))))) from by rw [ite_t c1, ite_f c2, ite_f c3, ite_t c13, ite_f c14, ite_f c15, ite_f c16, ite_t c17])), rfl⟩
                  · skip
                    refine ol_gskip rfl rfl rfl rfl rfl c17 ?_
                    refine ol_gskip rfl rfl rfl rfl rfl c17 ?_
                    refine ol_gval (v := .bool false) (by exact xr_pickF rfl rfl c17 rfl) rfl rfl rfl rfl rfl c16 ?_
                    refine ol_val (v := .bool false) (by exact xr_pickF rfl rfl c16 rfl) rfl rfl rfl ?_
                    refine ol_val (v := .bool false) (by exact xr_assign rfl rfl) rfl rfl rfl ?_
                    refine ol_nil ?_
                    refine thn_i ?_
                    exact ⟨(rfl).trans (congrArg (fun z => (.bool z : Value)) (show false = (if (decide (a0 ≥ 97)) = true then (if (decide (a0 ≤ 122)) = true then true else (if (decide (a0 ≥ 65)) = true then (if (decide (a0 ≤ 90)) = true then true else (if (decide (a0 ≥ 48)) = true then (if (decide (a0 ≤ 57)) = true then true else (if (decide (a0 = 45)) = true then true else (if (decide (a0 = 95)) = true then true else (if (decide (a0 ≥ 161)) = true then (decide (a0 ≤ 65519)) else false)))) else (if (decide (a0 = 45)) = true then true else (if (decide (a0 = 95)) = true then true else (if (decide (a0 ≥ 161)) = true then (decide (a0 ≤ 65519)) else false))))) else (if (decide (a0 ≥ 48)) = true then (if (decide (a0 ≤ 57)) = true then true else (if (decide (a0 = 45)) = true then true else (if (decide (a0 = 95)) = true then true else (if (decide (a0 ≥ 161)) = true then (decide (a0 ≤ 65519)) else false)))) else (if (decide (a0 = 45)) = true then true else (if (decide (a0 = 95)) = true then true else (if (decide (a0 ≥ 161)) = true then (decide (a0 ≤ 65519)) else false)))))) else (if (decide (a0 ≥ 65)) = true then (if (decide (a0 ≤ 90)) = true then true else (if (decide (a0 ≥ 48)) = true then (if (decide (a0 ≤ 57)) = true then true else (if (decide (a0 = 45)) = true then true else (if (decide (a0 = 95)) = true then true else (if (decide (a0 ≥ 161)) = true then (decide (a0 ≤ 65519)) else false)))) else (if (decide (a0 = 45)) = true then true else (if (decide (a0 = 95)) = true then true else (if (decide (a0 ≥ 161)) = true then (decide (a0 ≤ 65519)) else false))))) else (if (decide (a0 ≥ 48)) = true then (if (decide (a0 ≤ 57)) = true then true else (if (decide (a0 = 45)) = true then true else (if (decide (a0 = 95)) = true then true else (if (decide (a0 ≥ 161)) = true then (decide (a0 ≤ 65519)) else false)))) else (if (decide (a0 = 45)) = true then true else (if (decide (a0 = 95)) = true then true else (if (decide (a0 ≥ 161)) = true then (decide (a0 ≤ 65519)) else false)))))) from by rw [ite_t c1, ite_f c2, ite_f c3, ite_t c13, ite_f c14, ite_f c15, ite_f c16, ite_f c17])), rfl⟩
          · skip
            refine ol_gskip rfl rfl rfl rfl rfl c13 ?_
            refine ol_gskip rfl rfl rfl rfl rfl c13 ?_
            refine ol_gval (v := .bool false) (by exact xr_pickF rfl rfl c13 rfl) rfl rfl rfl rfl rfl rfl ?_
            refine ol_val (v := .bool false) (by exact xr_pickF rfl rfl rfl rfl) rfl rfl rfl ?_
            refine ol_val (v := .bool false) (by exact xr_move rfl rfl) rfl rfl rfl ?_
            refine ol_gval (v := .int .i64 a0) (by exact xr_move rfl rfl) rfl rfl rfl rfl rfl rfl ?_
            refine ol_gval (v := .bool (decide (a0 = 45))) (by exact xr_eqI rfl Try.underlying3 rfl rfl rfl) rfl rfl rfl rfl rfl rfl ?_
            refine ol_val (v := .bool (decide (a0 = 45))) (by exact xr_pickF rfl rfl rfl rfl) rfl rfl rfl ?_
            refine ol_val (v := .bool (decide (a0 = 45))) (by exact xr_move rfl rfl) rfl rfl rfl ?_
            rcases bt (decide (a0 = 45)) with c18 | c18
            · skip
              refine ol_gskip rfl rfl rfl rfl rfl c18 ?_
              refine ol_gskip rfl rfl rfl rfl rfl c18 ?_
              refine ol_val (v := .bool true) (by exact xr_pickT rfl rfl c18 rfl) rfl rfl rfl ?_
              refine ol_val (v := .bool true) (by exact xr_move rfl rfl) rfl rfl rfl ?_
              refine ol_gskip rfl rfl rfl rfl rfl rfl ?_
              refine ol_gskip rfl rfl rfl rfl rfl rfl ?_
              refine ol_gskip rfl rfl rfl rfl rfl rfl ?_
              refine ol_uskip rfl rfl rfl rfl rfl ?_
              refine ol_uskip rfl rfl rfl rfl rfl ?_
              refine ol_gskip rfl rfl rfl rfl rfl rfl ?_
              refine ol_val (v := .bool true) (by exact xr_pickT rfl rfl rfl rfl) rfl rfl rfl ?_
              refine ol_val (v := .bool true) (by exact xr_assign rfl rfl) rfl rfl rfl ?_
              refine ol_nil ?_
              refine thn_i ?_
              exact ⟨(rfl).trans (congrArg (fun z => (.bool z : Value)) (show true = (if (decide (a0 ≥ 97)) = true then (if (decide (a0 ≤ 122)) = true then true else (if (decide (a0 ≥ 65)) = true then (if (decide (a0 ≤ 90)) = true then true else (if (decide (a0 ≥ 48)) = true then (if (decide (a0 ≤ 57)) = true then true else (if (decide (a0 = 45)) = true then true else (if (decide (a0 = 95)) = true then true else (if (decide (a0 ≥ 161)) = true then (decide (a0 ≤ 65519)) else false)))) else (if (decide (a0 = 45)) = true then true else (if (decide (a0 = 95)) = true then true else (if (decide (a0 ≥ 161)) = true then (decide (a0 ≤ 65519)) else false))))) else (if (decide (a0 ≥ 48)) = true then (if (decide (a0 ≤ 57)) = true then true else (if (decide (a0 = 45)) = true then true else (if (decide (a0 = 95)) = true then true else (if (decide (a0 ≥ 161)) = true then (decide (a0 ≤ 65519)) else false)))) else (if (decide (a0 = 45)) = true then true else (if (decide (a0 = 95)) = true then true else (if (decide (a0 ≥ 161)) = true then (decide (a0 ≤ 65519)) else false)))))) else (if (decide (a0 ≥ 65)) = true then (if (decide (a0 ≤ 90)) = true then true else (if (decide (a0 ≥ 48)) = true then (if (decide (a0 ≤ 57)) = true then true else (if (decide (a0 = 45)) = true then true else (if (decide (a0 = 95)) = true then true else (if (decide (a0 ≥ 161)) = true then (decide (a0 ≤ 65519)) else false)))) else (if (decide (a0 = 45)) = true then true else (if (decide (a0 = 95)) = true then true else (if (decide (a0 ≥ 161)) = true then (decide (a0 ≤ 65519)) else false))))) else (if (decide (a0 ≥ 48)) = true then (if (decide (a0 ≤ 57)) = true then true else (if (decide (a0 = 45)) = true then true else (if (decide (a0 = 95)) = true then true else (if (decide (a0 ≥ 161)) = true then (decide (a0 ≤ 65519)) else false)))) else (if (decide (a0 = 45)) = true then true else (if (decide (a0 = 95)) = true then true else (if (decide (a0 ≥ 161)) = true then (decide (a0 ≤ 65519)) else false)))))) from by rw [ite_t c1, ite_f c2, ite_f c3, ite_f c13, ite_t c18])), rfl⟩
            · skip
              refine ol_gval (v := .int .i64 a0) (by exact xr_move rfl rfl) rfl rfl rfl rfl rfl c18 ?_
              refine ol_gval (v := .bool (decide (a0 = 95))) (by exact xr_eqI rfl Try.underlying3 rfl rfl rfl) rfl rfl rfl rfl rfl c18 ?_
              refine ol_val (v := .bool (decide (a0 = 95))) (by exact xr_pickF rfl rfl c18 rfl) rfl rfl rfl ?_
              refine ol_val (v := .bool (decide (a0 = 95))) (by exact xr_move rfl rfl) rfl rfl rfl ?_
              rcases bt (decide (a0 = 95)) with c19 | c19
              · skip
                refine ol_gskip rfl rfl rfl rfl rfl c19 ?_
                refine ol_gskip rfl rfl rfl rfl rfl c19 ?_
                refine ol_gskip rfl rfl rfl rfl rfl c19 ?_
                refine ol_uskip rfl rfl rfl rfl rfl ?_
                refine ol_uskip rfl rfl rfl rfl rfl ?_
                refine ol_gskip rfl rfl rfl rfl rfl c19 ?_
                refine ol_val (v := .bool true) (by exact xr_pickT rfl rfl c19 rfl) rfl rfl rfl ?_
                refine ol_val (v := .bool true) (by exact xr_assign rfl rfl) rfl rfl rfl ?_
                refine ol_nil ?_
                refine thn_i ?_
                exact ⟨(rfl).trans (congrArg (fun z => (.bool z : Value)) (show true = (if (decide (a0 ≥ 97)) = true then (if (decide (a0 ≤ 122)) = true then true else (if (decide (a0 ≥ 65)) = true then (if (decide (a0 ≤ 90)) = true then true else (if (decide (a0 ≥ 48)) = true then (if (decide (a0 ≤ 57)) = true then true else (if (decide (a0 = 45)) = true then true else (if (decide (a0 = 95)) = true then true else (if (decide (a0 ≥ 161)) = true then (decide (a0 ≤ 65519)) else false)))) else (if (decide (a0 = 45)) = true then true else (if (decide (a0 = 95)) = true then true else (if (decide (a0 ≥ 161)) = true then (decide (a0 ≤ 65519)) else false))))) else (if (decide (a0 ≥ 48)) = true then (if (decide (a0 ≤ 57)) = true then true else (if (decide (a0 = 45)) = true then true else (if (decide (a0 = 95)) = true then true else (if (decide (a0 ≥ 161)) = true then (decide (a0 ≤ 65519)) else false)))) else (if (decide (a0 = 45)) = true then true else (if (decide (a0 = 95)) = true then true else (if (decide (a0 ≥ 161)) = true then (decide (a0 ≤ 65519)) else false)))))) else (if (decide (a0 ≥ 65)) = true then (if (decide (a0 ≤ 90)) = true then true else (if (decide (a0 ≥ 48)) = true then (if (decide (a0 ≤ 57)) = true then true else (if (decide (a0 = 45)) = true then true else (if (decide (a0 = 95)) = true then true else (if (decide (a0 ≥ 161)) = true then (decide (a0 ≤ 65519)) else false)))) else (if (decide (a0 = 45)) = true then true else (if (decide (a0 = 95)) = true then true else (if (decide (a0 ≥ 161)) = true then (decide (a0 ≤ 65519)) else false))))) else (if (decide (a0 ≥ 48)) = true then (if (decide (a0 ≤ 57)) = true then true else (if (decide (a0 = 45)) = true then true else (if (decide (a0 = 95)) = true then true else (if (decide (a0 ≥ 161)) = true then (decide (a0 ≤ 65519)) else false)))) else (if (decide (a0 = 45)) = true then true else (if (decide (a0 = 95)) = true then true else (if (decide (a0 ≥ 161)) = true then (decide (a0 ≤ 65519)) else false)))))) from by rw [ite_t c1, ite_f c2, ite_f c3, ite_f c13, ite_f c18, ite_t c19])), rfl⟩
              · skip
                refine ol_gval (v := .int .i64 a0) (by exact xr_move rfl rfl) rfl rfl rfl rfl rfl c19 ?_
                refine ol_gval (v := .bool (decide (a0 ≥ 161))) (by exact xr_geq rfl rfl rfl) rfl rfl rfl rfl rfl c19 ?_
                refine ol_gval (v := .bool (decide (a0 ≥ 161))) (by exact xr_move rfl rfl) rfl rfl rfl rfl rfl c19 ?_
                rcases bt (decide (a0 ≥ 161)) with c20 | c20
                · skip
                  refine ol_gval (v := .int .i64 a0) (by exact xr_move rfl rfl) rfl rfl rfl rfl rfl c20 ?_
                  refine ol_gval (v := .bool (decide (a0 ≤ 65519))) (by exact xr_leq rfl rfl rfl) rfl rfl rfl rfl rfl c20 ?_
                  refine ol_gval (v := .bool (decide (a0 ≤ 65519))) (by exact xr_pickT rfl rfl c20 rfl) rfl rfl rfl rfl rfl c19 ?_
                  refine ol_val (v := .bool (decide (a0 ≤ 65519))) (by exact xr_pickF rfl rfl c19 rfl) rfl rfl rfl ?_
                  refine ol_val (v := .bool (decide (a0 ≤ 65519))) (by exact xr_assign rfl rfl) rfl rfl rfl ?_
                  refine ol_nil ?_
                  refine thn_i ?_
                  exact ⟨(rfl).trans (congrArg (fun z => (.bool z : Value)) (show (decide (a0 ≤ 65519)) = (if (decide (a0 ≥ 97)) = true then (if (decide (a0 ≤ 122)) = true then true else (if (decide (a0 ≥ 65)) = true then (if (decide (a0 ≤ 90)) = true then true else (if (decide (a0 ≥ 48)) = true then (if (decide (a0 ≤ 57)) = true then true else (if (decide (a0 = 45)) = true then true else (if (decide (a0 = 95)) = true then true else (if (decide (a0 ≥ 161)) = true then (decide (a0 ≤ 65519)) else false)))) else (if (decide (a0 = 45)) = true then true else (if (decide (a0 = 95)) = true then true else (if (decide (a0 ≥ 161)) = true then (decide (a0 ≤ 65519)) else false))))) else (if (decide (a0 ≥ 48)) = true then (if (decide (a0 ≤ 57)) = true then true else (if (decide (a0 = 45)) = true then true else (if (decide (a0 = 95)) = true then true else (if (decide (a0 ≥ 161)) = true then (decide (a0 ≤ 65519)) else false)))) else (if (decide (a0 = 45)) = true then true else (if (decide (a0 = 95)) = true then true else (if (decide (a0 ≥ 161)) = true then (decide (a0 ≤ 65519)) else false)))))) else (if (decide (a0 ≥ 65)) = true then (if (decide (a0 ≤ 90)) = true then true else (if (decide (a0 ≥ 48)) = true then (if (decide (a0 ≤ 57)) = true then true else (if (decide (a0 = 45)) = true then true else (if (decide (a0 = 95)) = true then true else (if (decide (a0 ≥ 161)) = true then (decide (a0 ≤ 65519)) else false)))) else (if (decide (a0 = 45)) = true then true else (if (decide (a0 = 95)) = true then true else (if (decide (a0 ≥ 161)) = true then (decide (a0 ≤ 65519)) else false))))) else (if (decide (a0 ≥ 48)) = true then (if (decide (a0 ≤ 57)) = true then true else (if (decide (a0 = 45)) = true then true else (if (decide (a0 = 95)) = true then true else (if (decide (a0 ≥ 161)) = true then (decide (a0 ≤ 65519)) else false)))) else (if (decide (a0 = 45)) = true then true else (if (decide (a0 = 95)) = true then true else (if (decide (a0 ≥ 161)) = true then (decide (a0 ≤ 65519)) else false)))))) from by rw [ite_t c1, ite_f c2, ite_f c3, ite_f c13, ite_f c18, ite_f c19, ite_t c20])), rfl⟩
                · skip
                  refine ol_gskip rfl rfl rfl rfl rfl c20 ?_
                  refine ol_gskip rfl rfl rfl rfl rfl c20 ?_
                  refine ol_gval (v := .bool false) (by exact xr_pickF rfl rfl c20 rfl) rfl rfl rfl rfl rfl c19 ?_
                  refine ol_val (v := .bool false) (by exact xr_pickF rfl rfl c19 rfl) rfl rfl rfl ?_
                  refine ol_val (v := .bool false) (by exact xr_assign rfl rfl) rfl rfl rfl ?_
                  refine ol_nil ?_
                  refine thn_i ?_
                  exact ⟨(rfl).trans (congrArg (fun z => (.bool z : Value)) (show false = (if (decide (a0 ≥ 97)) = true then (if (decide (a0 ≤ 122)) = true then true else (if (decide (a0 ≥ 65)) = true then (if (decide (a0 ≤ 90)) = true then true else (if (decide (a0 ≥ 48)) = true then (if (decide (a0 ≤ 57)) = true then true else (if (decide (a0 = 45)) = true then true else (if (decide (a0 = 95)) = true then true else (if (decide (a0 ≥ 161)) = true then (decide (a0 ≤ 65519)) else false)))) else (if (decide (a0 = 45)) = true then true else (if (decide (a0 = 95)) = true then true else (if (decide (a0 ≥ 161)) = true then (decide (a0 ≤ 65519)) else false))))) else (if (decide (a0 ≥ 48)) = true then (if (decide (a0 ≤ 57)) = true then true else (if (decide (a0 = 45)) = true then true else (if (decide (a0 = 95)) = true then true else (if (decide (a0 ≥ 161)) = true then (decide (a0 ≤ 65519)) else false)))) else (if (decide (a0 = 45)) = true then true else (if (decide (a0 = 95)) = true then true else (if (decide (a0 ≥ 161)) = true then (decide (a0 ≤ 65519)) else false)))))) else (if (decide (a0 ≥ 65)) = true then (if (decide (a0 ≤ 90)) = true then true else (if (decide (a0 ≥ 48)) = true then (if (decide (a0 ≤ 57)) = true then true else (if (decide (a0 = 45)) = true then true else (if (decide (a0 = 95)) = true then true else (if (decide (a0 ≥ 161)) = true then (decide (a0 ≤ 65519)) else false)))) else (if (decide (a0 = 45)) = true then true else (if (decide (a0 = 95)) = true then true else (if (decide (a0 ≥ 161)) = true then (decide (a0 ≤ 65519)) else false))))) else (if (decide (a0 ≥ 48)) = true then (if (decide (a0 ≤ 57)) = true then true else (if (decide (a0 = 45)) = true then true else (if (decide (a0 = 95)) = true then true else (if (decide (a0 ≥ 161)) = true then (decide (a0 ≤ 65519)) else false)))) else (if (decide (a0 = 45)) = true then true else (if (decide (a0 = 95)) = true then true else (if (decide (a0 ≥ 161)) = true then (decide (a0 ≤ 65519)) else false)))))) from by rw [ite_t c1, ite_f c2, ite_f c3, ite_f c13, ite_f c18, ite_f c19, ite_f c20])), rfl⟩
    · skip
      refine ol_gskip rfl rfl rfl rfl rfl c1 ?_
      refine ol_gskip rfl rfl rfl rfl rfl c1 ?_
      refine ol_val (v := .bool false) (by exact xr_pickF rfl rfl c1 rfl) rfl rfl rfl ?_
      refine ol_val (v := .bool false) (by exact xr_move rfl rfl) rfl rfl rfl ?_
      refine ol_gval (v := .int .i64 a0) (by exact xr_move rfl rfl) rfl rfl rfl rfl rfl rfl ?_
      refine ol_gval (v := .bool (decide (a0 ≥ 65))) (by exact xr_geq rfl rfl rfl) rfl rfl rfl rfl rfl rfl ?_
      refine ol_gval (v := .bool (decide (a0 ≥ 65))) (by exact xr_move rfl rfl) rfl rfl rfl rfl rfl rfl ?_
      rcases bt (decide (a0 ≥ 65)) with c21 | c21
      · skip
        refine ol_gval (v := .int .i64 a0) (by exact xr_move rfl rfl) rfl rfl rfl rfl rfl c21 ?_
        refine ol_gval (v := .bool (decide (a0 ≤ 90))) (by exact xr_leq rfl rfl rfl) rfl rfl rfl rfl rfl c21 ?_
        refine ol_gval (v := .bool (decide (a0 ≤ 90))) (by exact xr_pickT rfl rfl c21 rfl) rfl rfl rfl rfl rfl rfl ?_
        refine ol_val (v := .bool (decide (a0 ≤ 90))) (by exact xr_pickF rfl rfl rfl rfl) rfl rfl rfl ?_
        refine ol_val (v := .bool (decide (a0 ≤ 90))) (by exact xr_move rfl rfl) rfl rfl rfl ?_
        rcases bt (decide (a0 ≤ 90)) with c22 | c22
        · skip
          refine ol_gskip rfl rfl rfl rfl rfl c22 ?_
          refine ol_gskip rfl rfl rfl rfl rfl c22 ?_
          refine ol_gskip rfl rfl rfl rfl rfl c22 ?_
          refine ol_uskip rfl rfl rfl rfl rfl ?_
          refine ol_uskip rfl rfl rfl rfl rfl ?_
          refine ol_gskip rfl rfl rfl rfl rfl c22 ?_
          refine ol_val (v := .bool true) (by exact xr_pickT rfl rfl c22 rfl) rfl rfl rfl ?_
          refine ol_val (v := .bool true) (by exact xr_move rfl rfl) rfl rfl rfl ?_
          refine ol_gskip rfl rfl rfl rfl rfl rfl ?_
          refine ol_gskip rfl rfl rfl rfl rfl rfl ?_
          refine ol_val (v := .bool true) (by exact xr_pickT rfl rfl rfl rfl) rfl rfl rfl ?_
          refine ol_val (v := .bool true) (by exact xr_move rfl rfl) rfl rfl rfl ?_
          refine ol_gskip rfl rfl rfl rfl rfl rfl ?_
          refine ol_gskip rfl rfl rfl rfl rfl rfl ?_
          refine ol_val (v := .bool true) (by exact xr_pickT rfl rfl rfl rfl) rfl rfl rfl ?_
          refine ol_val (v := .bool true) (by exact xr_move rfl rfl) rfl rfl rfl ?_
          refine ol_gskip rfl rfl rfl rfl rfl rfl ?_
          refine ol_gskip rfl rfl rfl rfl rfl rfl ?_
          refine ol_gskip rfl rfl rfl rfl rfl rfl ?_
          refine ol_uskip rfl rfl rfl rfl rfl ?_
          refine ol_uskip rfl rfl rfl rfl rfl ?_
          refine ol_gskip rfl rfl rfl rfl rfl rfl ?_
          refine ol_val (v := .bool true) (by exact xr_pickT rfl rfl rfl rfl) rfl rfl rfl ?_
          refine ol_val (v := .bool true) (by exact xr_assign rfl rfl) rfl rfl rfl ?_
          refine ol_nil ?_
          refine thn_i ?_
          exact ⟨(rfl).trans (congrArg (fun z => (.bool z : Value)) (show true = (if (decide (a0 ≥ 97)) = true then (if (decide (a0 ≤ 122)) = true then true else (if (decide (a0 ≥ 65)) = true then (if (decide (a0 ≤ 90)) = true then true else (if (decide (a0 ≥ 48)) = true then (if (decide (a0 ≤ 57)) = true then true else (if (decide (a0 = 45)) = true then true else (if (decide (a0 = 95)) = true then true else (if (decide (a0 ≥ 161)) = true then (decide (a0 ≤ 65519)) else false)))) else (if (decide (a0 = 45)) = true then true else (if (decide (a0 = 95)) = true then true else (if (decide (a0 ≥ 161)) = true then (decide (a0 ≤ 65519)) else false))))) else (if (decide (a0 ≥ 48)) = true then (if (decide (a0 ≤ 57)) = true then true else (if (decide (a0 = 45)) = true then true else (if (decide (a0 = 95)) = true then true else (if (decide (a0 ≥ 161)) = true then (decide (a0 ≤ 65519)) else false)))) else (if (decide (a0 = 45)) = true then true else (if (decide (a0 = 95)) = true then true else (if (decide (a0 ≥ 161)) = true then (decide (a0 ≤ 65519)) else false)))))) else (if (decide (a0 ≥ 65)) = true then (if (decide (a0 ≤ 90)) = true then true else (if (decide (a0 ≥ 48)) = true then (if (decide (a0 ≤ 57)) = true then true else (if (decide (a0 = 45)) = true then true else (if (decide (a0 = 95)) = true then true else (if (decide (a0 ≥ 161)) = true then (decide (a0 ≤ 65519)) else false)))) else (if (decide (a0 = 45)) = true then true else (if (decide (a0 = 95)) = true then true else (if (decide (a0 ≥ 161)) = true then (decide (a0 ≤ 65519)) else false))))) else (if (decide (a0 ≥ 48)) = true then (if (decide (a0 ≤ 57)) = true then true else (if (decide (a0 = 45)) = true then true else (if (decide (a0 = 95)) = true then true else (if (decide (a0 ≥ 161)) = true then (decide (a0 ≤ 65519)) else false)))) else (if (decide (a0 = 45)) = true then true else (if (decide (a0 = 95)) = true then true else (if (decide (a0 ≥ 161)) = true then (decide (a0 ≤ 65519)) else false)))))) from by rw [ite_f c1, ite_t c21, ite_t c22])), rfl⟩
        · skip
          refine ol_gval (v := .int .i64 a0) (by exact xr_move rfl rfl) rfl rfl rfl rfl rfl c22 ?_
          refine ol_gval (v := .bool (decide (a0 ≥ 48))) (by exact xr_geq rfl rfl rfl) rfl rfl rfl rfl rfl c22 ?_
          refine ol_gval (v := .bool (decide (a0 ≥ 48))) (by exact xr_move rfl rfl) rfl rfl rfl rfl rfl c22 ?_
          rcases bt (decide (a0 ≥ 48)) with c23 | c23
          · skip
            refine ol_gval (v := .int .i64 a0) (by exact xr_move rfl rfl) rfl rfl rfl rfl rfl c23 ?_
            refine ol_gval (v := .bool (decide (a0 ≤ 57))) (by exact xr_leq rfl rfl rfl) rfl rfl rfl rfl rfl c23 ?_
            refine ol_gval (v := .bool (decide (a0 ≤ 57))) (by exact xr_pickT rfl rfl c23 rfl) rfl rfl rfl rfl rfl c22 ?_
            refine ol_val (v := .bool (decide (a0 ≤ 57))) (by exact xr_pickF rfl rfl c22 rfl) rfl rfl rfl ?_
            refine ol_val (v := .bool (decide (a0 ≤ 57))) (by exact xr_move rfl rfl) rfl rfl rfl ?_
            rcases bt (decide (a0 ≤ 57)) with c24 | c24
            · skip
              refine ol_gskip rfl rfl rfl rfl rfl c24 ?_
              refine ol_gskip rfl rfl rfl rfl rfl c24 ?_
              refine ol_val (v := .bool true) (by exact xr_pickT rfl rfl c24 rfl) rfl rfl rfl ?_
              refine ol_val (v := .bool true) (by exact xr_move rfl rfl) rfl rfl rfl ?_
              refine ol_gskip rfl rfl rfl rfl rfl rfl ?_
              refine ol_gskip rfl rfl rfl rfl rfl rfl ?_
              refine ol_val (v := .bool true) (by exact xr_pickT rfl rfl rfl rfl) rfl rfl rfl ?_
              refine ol_val (v := .bool true) (by exact xr_move rfl rfl) rfl rfl rfl ?_
              refine ol_gskip rfl rfl rfl rfl rfl rfl ?_
              refine ol_gskip rfl rfl rfl rfl rfl rfl ?_
              refine ol_gskip rfl rfl rfl rfl rfl rfl ?_
              refine ol_uskip rfl rfl rfl rfl rfl ?_
              refine ol_uskip rfl rfl rfl rfl rfl ?_
              refine ol_gskip rfl rfl rfl rfl rfl rfl ?_
              refine ol_val (v := .bool true) (by exact xr_pickT rfl rfl rfl rfl) rfl rfl rfl ?_
              refine ol_val (v := .bool true) (by exact xr_assign rfl rfl) rfl rfl rfl ?_
              refine ol_nil ?_
              refine thn_i ?_
              exact ⟨(rfl).trans (congrArg (fun z => (.bool z : Value)) (show true = (if (decide (a0 ≥ 97)) = true then (if (decide (a0 ≤ 122)) = true then true else (if (decide (a0 ≥ 65)) = true then (if (decide (a0 ≤ 90)) = true then true else (if (decide (a0 ≥ 48)) = true then (if (decide (a0 ≤ 57)) = true then true else (if (decide (a0 = 45)) = true then true else (if (decide (a0 = 95)) = true then true else (if (decide (a0 ≥ 161)) = true then (decide (a0 ≤ 65519)) else false)))) else (if (decide (a0 = 45)) = true then true else (if (decide (a0 = 95)) = true then true else (if (decide (a0 ≥ 161)) = true then (decide (a0 ≤ 65519)) else false))))) else (if (decide (a0 ≥ 48)) = true then (if (decide (a0 ≤ 57)) = true then true else (if (decide (a0 = 45)) = true then true else (if (decide (a0 = 95)) = true then true else (if (decide (a0 ≥ 161)) = true then (decide (a0 ≤ 65519)) else false)))) else (if (decide (a0 = 45)) = true then true else (if (decide (a0 = 95)) = true then true else (if (decide (a0 ≥ 161)) = true then (decide (a0 ≤ 65519)) else false)))))) else (if (decide (a0 ≥ 65)) = true then (if (decide (a0 ≤ 90)) = true then true else (if (decide (a0 ≥ 48)) = true then (if (decide (a0 ≤ 57)) = true then true else (if (decide (a0 = 45)) = true then true else (if (decide (a0 = 95)) = true then true else (if (decide (a0 ≥ 161)) = true then (decide (a0 ≤ 65519)) else false)))) else (if (decide (a0 = 45)) = true then true else (if (decide (a0 = 95)) = true then true else (if (decide (a0 ≥ 161)) = true then (decide (a0 ≤ 65519)) else false))))) else (if (decide (a0 ≥ 48)) = true then (if (decide (a0 ≤ 57)) = true then true else (if (decide (a0 = 45)) = true then true else (if (decide (a0 = 95)) = true then true else (if (decide (a0 ≥ 161)) = true then (decide (a0 ≤ 65519)) else false)))) else (if (decide (a0 = 45)) = true then true else (if (decide (a0 = 95)) = true then true else (if (decide (a0 ≥ 161)) = true then (decide (a0 ≤ 65519)) else false)))))) from by rw [ite_f c1, ite_t c21, ite_f c22, ite_t c23, ite_t c24])), rfl⟩
            · skip
              refine ol_gval (v := .int .i64 a0) (by exact xr_move rfl rfl) rfl rfl rfl rfl rfl c24 ?_
              refine ol_gval (v := .bool (decide (a0 = 45))) (by exact xr_eqI rfl Try.underlying3 rfl rfl rfl) rfl rfl rfl rfl rfl c24 ?_
              refine ol_val (v := .bool (decide (a0 = 45))) (by exact xr_pickF rfl rfl c24 rfl) rfl rfl rfl ?_
              refine ol_val (v := .bool (decide (a0 = 45))) (by exact xr_move rfl rfl) rfl rfl rfl ?_
              rcases bt (decide (a0 = 45)) with c25 | c25
              · skip
                refine ol_gskip rfl rfl rfl rfl rfl c25 ?_
                refine ol_gskip rfl rfl rfl rfl rfl c25 ?_
                refine ol_val (v := .bool true) (by exact xr_pickT rfl rfl c25 rfl) rfl rfl rfl ?_
                refine ol_val (v := .bool true) (by exact xr_move rfl rfl) rfl rfl rfl ?_
                refine ol_gskip rfl rfl rfl rfl rfl rfl ?_
                refine ol_gskip rfl rfl rfl rfl rfl rfl ?_
                refine ol_gskip rfl rfl rfl rfl rfl rfl ?_
                refine ol_uskip rfl rfl rfl rfl rfl ?_
                refine ol_uskip rfl rfl rfl rfl rfl ?_
                refine ol_gskip rfl rfl rfl rfl rfl rfl ?_
                refine ol_val (v := .bool true) (by exact xr_pickT rfl rfl rfl rfl) rfl rfl rfl ?_
                refine ol_val (v := .bool true) (by exact xr_assign rfl rfl) rfl rfl rfl ?_
                refine ol_nil ?_
                refine thn_i ?_
                exact ⟨(rfl).trans (congrArg (fun z => (.bool z : Value)) (show true = (if (decide (a0 ≥ 97)) = true then (if (decide (a0 ≤ 122)) = true then true else (if (decide (a0 ≥ 65)) = true then (if (decide (a0 ≤ 90)) = true then true else (if (decide (a0 ≥ 48)) = true then (if (decide (a0 ≤ 57)) = true then true else (if (decide (a0 = 45)) = true then true else (if (decide (a0 = 95)) = true then true else (if (decide (a0 ≥ 161)) = true then (decide (a0 ≤ 65519)) else false)))) else (if (decide (a0 = 45)) = true then true else (if (decide (a0 = 95)) = true then true else (if (decide (a0 ≥ 161)) = true then (decide (a0 ≤ 65519)) else false))))) else (if (decide (a0 ≥ 48)) = true then (if (decide (a0 ≤ 57)) = true then true else (if (decide (a0 = 45)) = true then true else (if (decide (a0 = 95)) = true then true else (if (decide (a0 ≥ 161)) = true then (decide (a0 ≤ 65519)) else false)))) else (if (decide (a0 = 45)) = true then true else (if (decide (a0 = 95)) = true then true else (if (decide (a0 ≥ 161)) = true then (decide (a0 ≤ 65519)) else false)))))) else (if (decide (a0 ≥ 65)) = true then (if (decide (a0 ≤ 90)) = true then true else (if (decide (a0 ≥ 48)) = true then (if (decide (a0 ≤ 57)) = true then true else (if (decide (a0 = 45)) = true then true else (if (decide (a0 = 95)) = true then true else (if (decide (a0 ≥ 161)) = true then (decide (a0 ≤ 65519)) else false)))) else (if (decide (a0 = 45)) = true then true else (if (decide (a0 = 95)) = true then true else (if (decide (a0 ≥ 161)) = true then (decide (a0 ≤ 65519)) else false))))) else (if (decide (a0 ≥ 48)) = true then (if (decide (a0 ≤ 57)) = true then true else (if (decide (a0 = 45)) = true then true else (if (decide (a0 = 95)) = true then true else (if (decide (a0 ≥ 161)) = true then (decide (a0 ≤ 65519)) else false)))) else (if (decide (a0 = 45)) = true then true else (if (decide (a0 = 95)) = true then true else (if (decide (a0 ≥ 161)) = true then (decide (a0 ≤ 65519)) else false)))))) from by rw [ite_f c1, ite_t c21, ite_f c22, ite_t c23, ite_f c24, ite_t c25])), rfl⟩
              · skip
                refine ol_gval (v := .int .i64 a0) (by exact xr_move rfl rfl) rfl rfl rfl rfl rfl c25 ?_
                refine ol_gval (v := .bool (decide (a0 = 95))) (by exact xr_eqI rfl Try.underlying3 rfl rfl rfl) rfl rfl rfl rfl rfl c25 ?_
                refine ol_val (v := .bool (decide (a0 = 95))) (by exact xr_pickF rfl rfl c25 rfl) rfl rfl rfl ?_
                refine ol_val (v := .bool (decide (a0 = 95))) (by exact xr_move rfl rfl) rfl rfl rfl ?_
                rcases bt (decide (a0 = 95)) with c26 | c26
                · skip
                  refine ol_gskip rfl rfl rfl rfl rfl c26 ?_
                  refine ol_gskip rfl rfl rfl rfl rfl c26 ?_
                  refine ol_gskip rfl rfl rfl rfl rfl c26 ?_
                  refine ol_uskip rfl rfl rfl rfl rfl ?_
                  refine ol_uskip rfl rfl rfl rfl rfl ?_
                  refine ol_gskip rfl rfl rfl rfl rfl c26 ?_
                  refine ol_val (v := .bool true) (by exact xr_pickT rfl rfl c26 rfl) rfl rfl rfl ?_
                  refine ol_val (v := .bool true) (by exact xr_assign rfl rfl) rfl rfl rfl ?_
                  refine ol_nil ?_
                  refine thn_i ?_
                  exact ⟨(rfl).trans (congrArg (fun z => (.bool z : Value)) (show true = (if (decide (a0 ≥ 97)) = true then (if (decide (a0 ≤ 122)) = true then true else (if (decide (a0 ≥ 65)) = true then (if (decide (a0 ≤ 90)) = true then true else (if (decide (a0 ≥ 48)) = true then (if (decide (a0 ≤ 57)) = true then true else (if (decide (a0 = 45)) = true then true else (if (decide (a0 = 95)) = true then true else (if (decide (a0 ≥ 161)) = true then (decide (a0 ≤ 65519)) else false)))) else (if (decide (a0 = 45)) = true then true else (if (decide (a0 = 95)) = true then true else (if (decide (a0 ≥ 161)) = true then (decide (a0 ≤ 65519)) else false))))) else (if (decide (a0 ≥ 48)) = true then (if (decide (a0 ≤ 57)) = true then true else (if (decide (a0 = 45)) = true then true else (if (decide (a0 = 95)) = true then true else (if (decide (a0 ≥ 161)) = true then (decide (a0 ≤ 65519)) else false)))) else (if (decide (a0 = 45)) = true then true else (if (decide (a0 = 95)) = true then true else (if (decide (a0 ≥ 161)) = true then (decide (a0 ≤ 65519)) else false)))))) else (if (decide (a0 ≥ 65)) = true then (if (decide (a0 ≤ 90)) = true then true else (if (decide (a0 ≥ 48)) = true then (if (decide (a0 ≤ 57)) = true then true else (if (decide (a0 = 45)) = true then true else (if (decide (a0 = 95)) = true then true else (if (decide (a0 ≥ 161)) = true then (decide (a0 ≤ 65519)) else false)))) else (if (decide (a0 = 45)) = true then true else (if (decide (a0 = 95)) = true then true else (if (decide (a0 ≥ 161)) = true then (decide (a0 ≤ 65519)) else false))))) else (if (decide (a0 ≥ 48)) = true then (if (decide (a0 ≤ 57)) = true then true else (if (decide (a0 = 45)) = true then true else (if (decide (a0 = 95)) = true then true else (if (decide (a0 ≥ 161)) = true then (decide (a0 ≤ 65519)) else false)))) else (if (decide (a0 = 45)) = true then true else (if (decide (a0 = 95)) = true then true else (if (decide (a0 ≥ 161)) = true then (decide (a0 ≤ 65519)) else false)))))) from by rw [ite_f c1, ite_t c21, ite_f c22, ite_t c23, ite_f c24, ite_f c25, ite_t c26])), rfl⟩
                · skip
                  refine ol_gval (v := .int .i64 a0) (by exact xr_move rfl rfl) rfl rfl rfl rfl rfl c26 ?_
                  refine ol_gval (v := .bool (decide (a0 ≥ 161))) (by exact xr_geq rfl rfl rfl) rfl rfl rfl rfl rfl c26 ?_
                  refine ol_gval (v := .bool (decide (a0 ≥ 161))) (by exact xr_move rfl rfl) rfl rfl rfl rfl rfl c26 ?_
                  rcases bt (decide (a0 ≥ 161)) with c27 | c27
                  · skip
                    refine ol_gval (v := .int .i64 a0) (by exact xr_move rfl rfl) rfl rfl rfl rfl rfl c27 ?_
                    refine ol_gval (v := .bool (decide (a0 ≤ 65519))) (by exact xr_leq rfl rfl rfl) rfl rfl rfl rfl rfl c27 ?_
                    refine ol_gval (v := .bool (decide (a0 ≤ 65519))) (by exact xr_pickT rfl rfl c27 rfl) rfl rfl rfl rfl rfl c26 ?_
                    refine ol_val (v := .bool (decide (a0 ≤ 65519))) (by exact xr_pickF rfl rfl c26 rfl) rfl rfl rfl ?_
                    refine ol_val (v := .bool (decide (a0 ≤ 65519))) (by exact xr_assign rfl rfl) rfl rfl rfl ?_
                    refine ol_nil ?_
                    refine thn_i ?_
                    exact ⟨(rfl).trans (congrArg (fun z => (.bool z : Value)) (show (decide (a0 ≤ 65519)) = (if (decide (a0 ≥ 97)) = true then (if (decide (a0 ≤ 122)) = true then true else (if (decide (a0 ≥ 65)) = true then (if (decide (a0 ≤ 90)) = true then true else (if (decide (a0 ≥ 48)) = true then (if (decide (a0 ≤ 57)) = true then true else (if (decide (a0 = 45)) = true then true else (if (decide (a0 = 95)) = true then true else (if (decide (a0 ≥ 161)) = true then (decide (a0 ≤ 65519)) else false)))) else (if (decide (a0 = 45)) = true then true else (if (decide (a0 = 95)) = true then true else (if (decide (a0 ≥ 161)) = true then (decide (a0 ≤ 65519)) else false))))) else (if (decide (a0 ≥ 48)) = true then (if (decide (a0 ≤ 57)) = true then true else (if (decide (a0 = 45)) = true then true else (if (decide (a0 = 95)) = true then true else (if (decide (a0 ≥ 161)) = true then (decide (a0 ≤ 65519)) else false)))) else (if (decide (a0 = 45)) = true then true else (if (decide (a0 = 95)) = true then true else (if (decide (a0 ≥ 161)) = true then (decide (a0 ≤ 65519)) else false)))))) else (if (decide (a0 ≥ 65)) = true then (if (decide (a0 ≤ 90)) = true then true else (if (decide (a0 ≥ 48)) = true then (if (decide (a0 ≤ 57)) = true then true else (if (decide (a0 = 45)) = true then true else (if (decide (a0 = 95)) = true then true else (if (decide (a0 ≥ 161)) = true then (decide (a0 ≤ 65519)) else false)))) else (if (decide (a0 = 45)) = true then true else (if (decide (a0 = 95)) = true then true else (if (decide (a0 ≥ 161)) = true then (decide (a0 ≤ 65519)) else false))))) else (if (decide (a0 ≥ 48)) = true then (if (decide (a0 ≤ 57)) = true then true else (if (decide (a0 = 45)) = true then true else (if (decide (a0 = 95)) = true then true else (if (decide (a0 ≥ 161)) = true then (decide (a0 ≤ 65519)) else false)))) else (if (decide (a0 = 45)) = true then true else (if (decide (a0 = 95)) = true then true else (if (decide (a0 ≥ 161)) = true then (decide (a0 ≤ 65519)) else false)))))) from by rw [ite_f c1, ite_t c21, ite_f c22, ite_t c23, ite_f c24, ite_f c25, ite_f c26, ite_t c27])), rfl⟩
                  · skip
                    refine ol_gskip rfl rfl rfl rfl rfl c27 ?_
                    refine ol_gskip rfl rfl rfl rfl rfl c27 ?_
                    refine ol_gval (v := .bool false) (by exact xr_pickF rfl rfl c27 rfl) rfl rfl rfl rfl rfl c26 ?_
                    refine ol_val (v := .bool false) (by exact xr_pickF rfl rfl c26 rfl) rfl rfl rfl ?_
                    refine ol_val (v := .bool false) (by exact xr_assign rfl rfl) rfl rfl rfl ?_
                    refine ol_nil ?_
                    refine thn_i ?_
                    exact ⟨(rfl).trans (congrArg (fun z => (.bool z : Value)) (show false = (if (decide (a0 ≥ 97)) = true then (if (decide (a0 ≤ 122)) = true then true else (if (decide (a0 ≥ 65)) = true then (if (decide (a0 ≤ 90)) = true then true else (if (decide (a0 ≥ 48)) = true then (if (decide (a0 ≤ 57)) = true then true else (if (decide (a0 = 45)) = true then true else (if (decide (a0 = 95)) = true then true else (if (decide (a0 ≥ 161)) = true then (decide (a0 ≤ 65519)) else false)))) else (if (decide (a0 = 45)) = true then true else (if (decide (a0 = 95)) = true then true else (if (decide (a0 ≥ 161)) = true then (decide (a0 ≤ 65519)) else false))))) else (if (decide (a0 ≥ 48)) = true then (if (decide (a0 ≤ 57)) = true then true else (if (decide (a0 = 45)) = true then true else (if (decide (a0 = 95)) = true then true else (if (decide (a0 ≥ 161)) = true then (decide (a0 ≤ 65519)) else false)))) else (if (decide (a0 = 45)) = true then true else (if (decide (a0 = 95)) = true then true else (if (decide (a0 ≥ 161)) = true then (decide (a0 ≤ 65519)) else false)))))) else (if (decide (a0 ≥ 65)) = true then (if (decide (a0 ≤ 90)) = true then true else (if (decide (a0 ≥ 48)) = true then (if (decide (a0 ≤ 57)) = true then true else (if (decide (a0 = 45)) = true then true else (if (decide (a0 = 95)) = true then true else (if (decide (a0 ≥ 161)) = true then (decide (a0 ≤ 65519)) else false)))) else (if (decide (a0 = 45)) = true then true else (if (decide (a0 = 95)) = true then true else (if (decide (a0 ≥ 161)) = true then (decide (a0 ≤ 65519)) else false))))) else (if (decide (a0 ≥ 48)) = true then (if (decide (a0 ≤ 57)) = true then true else (if (decide (a0 = 45)) = true then true else (if (decide (a0 = 95)) = true then true else (if (decide (a0 ≥ 161)) = true then (decide (a0 ≤ 65519)) else false)))) else (if (decide (a0 = 45)) = true then true else (if (decide (a0 = 95)) = true then true else (if (decide (a0 ≥ 161)) = true then (decide (a0 ≤ 65519)) else false)))))) from by rw [ite_f c1, ite_t c21, ite_f c22, ite_t c23, ite_f c24, ite_f c25, ite_f c26, ite_f c27])), rfl⟩
          · skip
            refine ol_gskip rfl rfl rfl rfl rfl c23 ?_
            refine ol_gskip rfl rfl rfl rfl rfl c23 ?_
            refine ol_gval (v := .bool false) (by exact xr_pickF rfl rfl c23 rfl) rfl rfl rfl rfl rfl c22 ?_
            refine ol_val (v := .bool false) (by exact xr_pickF rfl rfl c22 rfl) rfl rfl rfl ?_
            refine ol_val (v := .bool false) (by exact xr_move rfl rfl) rfl rfl rfl ?_
            refine ol_gval (v := .int .i64 a0) (by exact xr_move rfl rfl) rfl rfl rfl rfl rfl rfl ?_
            refine ol_gval (v := .bool (decide (a0 = 45))) (by exact xr_eqI rfl Try.underlying3 rfl rfl rfl) rfl rfl rfl rfl rfl rfl ?_
            refine ol_val (v := .bool (decide (a0 = 45))) (by exact xr_pickF rfl rfl rfl rfl) rfl rfl rfl ?_
            refine ol_val (v := .bool (decide (a0 = 45))) (by exact xr_move rfl rfl) rfl rfl rfl ?_
            rcases bt (decide (a0 = 45)) with c28 | c28
            · skip
              refine ol_gskip rfl rfl rfl rfl rfl c28 ?_
              refine ol_gskip rfl rfl rfl rfl rfl c28 ?_
              refine ol_val (v := .bool true) (by exact xr_pickT rfl rfl c28 rfl) rfl rfl rfl ?_
              refine ol_val (v := .bool true) (by exact xr_move rfl rfl) rfl rfl rfl ?_
              refine ol_gskip rfl rfl rfl rfl rfl rfl ?_
              refine ol_gskip rfl rfl rfl rfl rfl rfl ?_
              refine ol_gskip rfl rfl rfl rfl rfl rfl ?_
              refine ol_uskip rfl rfl rfl rfl rfl ?_
              refine ol_uskip rfl rfl rfl rfl rfl ?_
              refine ol_gskip rfl rfl rfl rfl rfl rfl ?_
              refine ol_val (v := .bool true) (by exact xr_pickT rfl rfl rfl rfl) rfl rfl rfl ?_
              refine ol_val (v := .bool true) (by exact xr_assign rfl rfl) rfl rfl rfl ?_
              refine ol_nil ?_
              refine thn_i ?_
              exact ⟨(rfl).trans (congrArg (fun z => (.bool z : Value)) (show true = (if (decide (a0 ≥ 97)) = true then (if (decide (a0 ≤ 122)) = true then true else (if (decide (a0 ≥ 65)) = true then (if (decide (a0 ≤ 90)) = true then true else (if (decide (a0 ≥ 48)) = true then (if (decide (a0 ≤ 57)) = true then true else (if (decide (a0 = 45)) = true then true else (if (decide (a0 = 95)) = true then true else (if (decide (a0 ≥ 161)) = true then (decide (a0 ≤ 65519)) else false)))) else (if (decide (a0 = 45)) = true then true else (if (decide (a0 = 95)) = true then true else (if (decide (a0 ≥ 161)) = true then (decide (a0 ≤ 65519)) else false))))) else (if (decide (a0 ≥ 48)) = true then (if (decide (a0 ≤ 57)) = true then true else (if (decide (a0 = 45)) = true then true else (if (decide (a0 = 95)) = true then true else (if (decide (a0 ≥ 161)) = true then (decide (a0 ≤ 65519)) else false)))) else (if (decide (a0 = 45)) = true then true else (if (decide (a0 = 95)) = true then true else (if (decide (a0 ≥ 161)) = true then (decide (a0 ≤ 65519)) else false)))))) else (if (decide (a0 ≥ 65)) = true then (if (decide (a0 ≤ 90)) = true then true else (if (decide (a0 ≥ 48)) = true then (if (decide (a0 ≤ 57)) = true then true else (if (decide (a0 = 45)) = true then true else (if (decide (a0 = 95)) = true then true else (if (decide (a0 ≥ 161)) = true then (decide (a0 ≤ 65519)) else false)))) else (if (decide (a0 = 45)) = true then true else (if (decide (a0 = 95)) = true then true else (if (decide (a0 ≥ 161)) = true then (decide (a0 ≤ 65519)) else false))))) else (if (decide (a0 ≥ 48)) = true then (if (decide (a0 ≤ 57)) = true then true else (if (decide (a0 = 45)) = true then true else (if (decide (a0 = 95)) = true then true else (if (decide (a0 ≥ 161)) = true then (decide (a0 ≤ 65519)) else false)))) else (if (decide (a0 = 45)) = true then true else (if (decide (a0 = 95)) = true then true else (if (decide (a0 ≥ 161)) = true then (decide (a0 ≤ 65519)) else false)))))) from by rw [ite_f c1, ite_t c21, ite_f c22, ite_f c23, ite_t c28])), rfl⟩
            · skip
              refine ol_gval (v := .int .i64 a0) (by exact xr_move rfl rfl) rfl rfl rfl rfl rfl c28 ?_
              refine ol_gval (v := .bool (decide (a0 = 95))) (by exact xr_eqI rfl Try.underlying3 rfl rfl rfl) rfl rfl rfl rfl rfl c28 ?_
              refine ol_val (v := .bool (decide (a0 = 95))) (by exact xr_pickF rfl rfl c28 rfl) rfl rfl rfl ?_
              refine ol_val (v := .bool (decide (a0 = 95))) (by exact xr_move rfl rfl) rfl rfl rfl ?_
              rcases bt (decide (a0 = 95)) with c29 | c29
              · skip
                refine ol_gskip rfl rfl rfl rfl rfl c29 ?_
                refine ol_gskip rfl rfl rfl rfl rfl c29 ?_
                refine ol_gskip rfl rfl rfl rfl rfl c29 ?_
                refine ol_uskip rfl rfl rfl rfl rfl ?_
                refine ol_uskip rfl rfl rfl rfl rfl ?_
                refine ol_gskip rfl rfl rfl rfl rfl c29 ?_
                refine ol_val (v := .bool true) (by exact xr_pickT rfl rfl c29 rfl) rfl rfl rfl ?_
                refine ol_val (v := .bool true) (by exact xr_assign rfl rfl) rfl rfl rfl ?_
                refine ol_nil ?_
                refine thn_i ?_
                exact ⟨(rfl).trans (congrArg (fun z => (.bool z : Value)) (show true = (if (decide (a0 ≥ 97)) = true then (if (decide (a0 ≤ 122)) = true then true else (if (decide (a0 ≥ 65)) = true then (if (decide (a0 ≤ 90)) = true then true else (if (decide (a0 ≥ 48)) = true then (if (decide (a0 ≤ 57)) = true then true else (if (decide (a0 = 45)) = true then true else (if (decide (a0 = 95)) = true then true else (if (decide (a0 ≥ 161)) = true then (decide (a0 ≤ 65519)) else false)))) else (if (decide (a0 = 45)) = true then true else (if (decide (a0 = 95)) = true then true else (if (decide (a0 ≥ 161)) = true then (decide (a0 ≤ 65519)) else false))))) else (if (decide (a0 ≥ 48)) = true then (if (decide (a0 ≤ 57)) = true then true else (if (decide (a0 = 45)) = true then true else (if (decide (a0 = 95)) = true then true else (if (decide (a0 ≥ 161)) = true then (decide (a0 ≤ 65519)) else false)))) else (if (decide (a0 = 45)) = true then true else (if (decide (a0 = 95)) = true then true else (if (decide (a0 ≥ 161)) = true then (decide (a0 ≤ 65519)) else false)))))) else (if (decide (a0 ≥ 65)) = true then (if (decide (a0 ≤ 90)) = true then true else (if (decide (a0 ≥ 48)) = true then (if (decide (a0 ≤ 57)) = true then true else (if (decide (a0 = 45)) = true then true else (if (decide (a0 = 95)) = true then true else (if (decide (a0 ≥ 161)) = true then (decide (a0 ≤ 65519)) else false)))) else (if (decide (a0 = 45)) = true then true else (if (decide (a0 = 95)) = true then true else (if (decide (a0 ≥ 161)) = true then (decide (a0 ≤ 65519)) else false))))) else (if (decide (a0 ≥ 48)) = true then (if (decide (a0 ≤ 57)) = true then true else (if (decide (a0 = 45)) = true then true else (if (decide (a0 = 95)) = true then true else (if (decide (a0 ≥ 161)) = true then (decide (a0 ≤ 65519)) else false)))) else (if (decide (a0 = 45)) = true then true else (if (decide (a0 = 95)) = true then true else (if (decide (a0 ≥ 161)) = true then (decide (a0 ≤ 65519)) else false)))))) from by rw [ite_f c1, ite_t c21, ite_f c22, ite_f c23, ite_f c28, ite_t c29])), rfl⟩
              · skip
                refine ol_gval (v := .int .i64 a0) (by exact xr_move rfl rfl) rfl rfl rfl rfl rfl c29 ?_
                refine ol_gval (v := .bool (decide (a0 ≥ 161))) (by exact xr_geq rfl rfl rfl) rfl rfl rfl rfl rfl c29 ?_
                refine ol_gval (v := .bool (decide (a0 ≥ 161))) (by exact xr_move rfl rfl) rfl rfl rfl rfl rfl c29 ?_
                rcases bt (decide (a0 ≥ 161)) with c30 | c30
                · skip
                  refine ol_gval (v := .int .i64 a0) (by exact xr_move rfl rfl) rfl rfl rfl rfl rfl c30 ?_
                  refine ol_gval (v := .bool (decide (a0 ≤ 65519))) (by exact xr_leq rfl rfl rfl) rfl rfl rfl rfl rfl c30 ?_
                  refine ol_gval (v := .bool (decide (a0 ≤ 65519))) (by exact xr_pickT rfl rfl c30 rfl) rfl rfl rfl rfl rfl c29 ?_
                  refine ol_val (v := .bool (decide (a0 ≤ 65519))) (by exact xr_pickF rfl rfl c29 rfl) rfl rfl rfl ?_
                  refine ol_val (v := .bool (decide (a0 ≤ 65519))) (by exact xr_assign rfl rfl) rfl rfl rfl ?_
                  refine ol_nil ?_
                  refine thn_i ?_
                  exact ⟨(rfl).trans (congrArg (fun z => (.bool z : Value)) (show (decide (a0 ≤ 65519)) = (if (decide (a0 ≥ 97)) = true then (if (decide (a0 ≤ 122)) = true then true else (if (decide (a0 ≥ 65)) = true then (if (decide (a0 ≤ 90)) = true then true else (if (decide (a0 ≥ 48)) = true then (if (decide (a0 ≤ 57)) = true then true else (if (decide (a0 = 45)) = true then true else (if (decide (a0 = 95)) = true then true else (if (decide (a0 ≥ 161)) = true then (decide (a0 ≤ 65519)) else false)))) else (if (decide (a0 = 45)) = true then true else (if (decide (a0 = 95)) = true then true else (if (decide (a0 ≥ 161)) = true then (decide (a0 ≤ 65519)) else false))))) else (if (decide (a0 ≥ 48)) = true then (if (decide (a0 ≤ 57)) = true then true else (if (decide (a0 = 45)) = true then true else (if (decide (a0 = 95)) = true then true else (if (decide (a0 ≥ 161)) = true then (decide (a0 ≤ 65519)) else false)))) else (if (decide (a0 = 45)) = true then true else (if (decide (a0 = 95)) = true then true else (if (decide (a0 ≥ 161)) = true then (decide (a0 ≤ 65519)) else false)))))) else (if (decide (a0 ≥ 65)) = true then (if (decide (a0 ≤ 90)) = true then true else (if (decide (a0 ≥ 48)) = true then (if (decide (a0 ≤ 57)) = true then true else (if (decide (a0 = 45)) = true then true else (if (decide (a0 = 95)) = true then true else (if (decide (a0 ≥ 161)) = true then (decide (a0 ≤ 65519)) else false)))) else (if (decide (a0 = 45)) = true then true else (if (decide (a0 = 95)) = true then true else (if (decide (a0 ≥ 161)) = true then (decide (a0 ≤ 65519)) else false))))) else (if (decide (a0 ≥ 48)) = true then (if (decide (a0 ≤ 57)) = true then true else (if (decide (a0 = 45)) = true then true else (if (decide (a0 = 95)) = true then true else (if (decide (a0 ≥ 161)) = true then (decide (a0 ≤ 65519)) else false)))) else (if (decide (a0 = 45)) = true then true else (if (decide (a0 = 95)) = true then true else (if (decide (a0 ≥ 161)) = true then (decide (a0 ≤ 65519)) else false)))))) from by rw [ite_f c1, ite_t c21, ite_f c22, ite_f c23, ite_f c28, ite_f c29, ite_t c30])), rfl⟩
                · skip
                  refine ol_gskip rfl rfl rfl rfl rfl c30 ?_
                  refine ol_gskip rfl rfl rfl rfl rfl c30 ?_
                  refine ol_gval (v := .bool false) (by exact xr_pickF rfl rfl c30 rfl) rfl rfl rfl rfl rfl c29 ?_
                  refine ol_val (v := .bool false) (by exact xr_pickF rfl rfl c29 rfl) rfl rfl rfl ?_
                  refine ol_val (v := .bool false) (by exact xr_assign rfl rfl) rfl rfl rfl ?_
                  refine ol_nil ?_
                  refine thn_i ?_
                  exact ⟨(rfl).trans (congrArg (fun z => (.bool z : Value)) (show false = (if (decide (a0 ≥ 97)) = true then (if (decide (a0 ≤ 122)) = true then true else (if (decide (a0 ≥ 65)) = true then (if (decide (a0 ≤ 90)) = true then true else (if (decide (a0 ≥ 48)) = true then (if (decide (a0 ≤ 57)) = true then true else (if (decide (a0 = 45)) = true then true else (if (decide (a0 = 95)) = true then true else (if (decide (a0 ≥ 161)) = true then (decide (a0 ≤ 65519)) else false)))) else (if (decide (a0 = 45)) = true then true else (if (decide (a0 = 95)) = true then true else (if (decide (a0 ≥ 161)) = true then (decide (a0 ≤ 65519)) else false))))) else (if (decide (a0 ≥ 48)) = true then (if (decide (a0 ≤ 57)) = true then true else (if (decide (a0 = 45)) = true then true else (if (decide (a0 = 95)) = true then true else (if (decide (a0 ≥ 161)) = true then (decide (a0 ≤ 65519)) else false)))) else (if (decide (a0 = 45)) = true then true else (if (decide (a0 = 95)) = true then true else (if (decide (a0 ≥ 161)) = true then (decide (a0 ≤ 65519)) else false)))))) else (if (decide (a0 ≥ 65)) = true then (if (decide (a0 ≤ 90)) = true then true else (if (decide (a0 ≥ 48)) = true then (if (decide (a0 ≤ 57)) = true then true else (if (decide (a0 = 45)) = true then true else (if (decide (a0 = 95)) = true then true else (if (decide (a0 ≥ 161)) = true then (decide (a0 ≤ 65519)) else false)))) else (if (decide (a0 = 45)) = true then true else (if (decide (a0 = 95)) = true then true else (if (decide (a0 ≥ 161)) = true then (decide (a0 ≤ 65519)) else false))))) else (if (decide (a0 ≥ 48)) = true then (if (decide (a0 ≤ 57)) = true then true else (if (decide (a0 = 45)) = true then true else (if (decide (a0 = 95)) = true then true else (if (decide (a0 ≥ 161)) = true then (decide (a0 ≤ 65519)) else false)))) else (if (decide (a0 = 45)) = true then true else (if (decide (a0 = 95)) = true then true else (if (decide (a0 ≥ 161)) = true then (decide (a0 ≤ 65519)) else false)))))) from by rw [ite_f c1, ite_t c21, ite_f c22, ite_f c23, ite_f c28, ite_f c29, ite_f c30])), rfl⟩
      · skip
        refine ol_gskip rfl rfl rfl rfl rfl c21 ?_
        refine ol_gskip rfl rfl rfl rfl rfl c21 ?_
        refine ol_gval (v := .bool false) (by exact xr_pickF rfl rfl c21 rfl) rfl rfl rfl rfl rfl rfl ?_
        refine ol_val (v := .bool false) (by exact xr_pickF rfl rfl rfl rfl) rfl rfl rfl ?_
        refine ol_val (v := .bool false) (by exact xr_move rfl rfl) rfl rfl rfl ?_
        refine ol_gval (v := .int .i64 a0) (by exact xr_move rfl rfl) rfl rfl rfl rfl rfl rfl ?_
        refine ol_gval (v := .bool (decide (a0 ≥ 48))) (by exact xr_geq rfl rfl rfl) rfl rfl rfl rfl rfl rfl ?_
        refine ol_gval (v := .bool (decide (a0 ≥ 48))) (by exact xr_move rfl rfl) rfl rfl rfl rfl rfl rfl ?_
        rcases bt (decide (a0 ≥ 48)) with c31 | c31
        · skip
          refine ol_gval (v := .int .i64 a0) (by exact xr_move rfl rfl) rfl rfl rfl rfl rfl c31 ?_
          refine ol_gval (v := .bool (decide (a0 ≤ 57))) (by exact xr_leq rfl rfl rfl) rfl rfl rfl rfl rfl c31 ?_
          refine ol_gval (v := .bool (decide (a0 ≤ 57))) (by exact xr_pickT rfl rfl c31 rfl) rfl rfl rfl rfl rfl rfl ?_
          refine ol_val (v := .bool (decide (a0 ≤ 57))) (by exact xr_pickF rfl rfl rfl rfl) rfl rfl rfl ?_
          refine ol_val (v := .bool (decide (a0 ≤ 57))) (by exact xr_move rfl rfl) rfl rfl rfl ?_
          rcases bt (decide (a0 ≤ 57)) with c32 | c32
          · skip
            refine ol_gskip rfl rfl rfl rfl rfl c32 ?_
            refine ol_gskip rfl rfl rfl rfl rfl c32 ?_
            refine ol_val (v := .bool true) (by exact xr_pickT rfl rfl c32 rfl) rfl rfl rfl ?_
            refine ol_val (v := .bool true) (by exact xr_move rfl rfl) rfl rfl rfl ?_
            refine ol_gskip rfl rfl rfl rfl rfl rfl ?_
            refine ol_gskip rfl rfl rfl rfl rfl rfl ?_
            refine ol_val (v := .bool true) (by exact xr_pickT rfl rfl rfl rfl) rfl rfl rfl ?_
            refine ol_val (v := .bool true) (by exact xr_move rfl rfl) rfl rfl rfl ?_
            refine ol_gskip rfl rfl rfl rfl rfl rfl ?_
            refine ol_gskip rfl rfl rfl rfl rfl rfl ?_
            refine ol_gskip rfl rfl rfl rfl rfl rfl ?_
            refine ol_uskip rfl rfl rfl rfl rfl ?_
            refine ol_uskip rfl rfl rfl rfl rfl ?_
            refine ol_gskip rfl rfl rfl rfl rfl rfl ?_
            refine ol_val (v := .bool true) (by exact xr_pickT rfl rfl rfl rfl) rfl rfl rfl ?_
            refine ol_val (v := .bool true) (by exact xr_assign rfl rfl) rfl rfl rfl ?_
            refine ol_nil ?_
            refine thn_i ?_
            exact ⟨(rfl).trans (congrArg (fun z => (.bool z : Value)) (show true = (if (decide (a0 ≥ 97)) = true then (if (decide (a0 ≤ 122)) = true then true else (if (decide (a0 ≥ 65)) = true then (if (decide (a0 ≤ 90)) = true then true else (if (decide (a0 ≥ 48)) = true then (if (decide (a0 ≤ 57)) = true then true else (if (decide (a0 = 45)) = true then true else (if (decide (a0 = 95)) = true then true else (if (decide (a0 ≥ 161)) = true then (decide (a0 ≤ 65519)) else false)))) else (if (decide (a0 = 45)) = true then true else (if (decide (a0 = 95)) = true then true else (if (decide (a0 ≥ 161)) = true then (decide (a0 ≤ 65519)) else false))))) else (if (decide (a0 ≥ 48)) = true then (if (decide (a0 ≤ 57)) = true then true else (if (decide (a0 = 45)) = true then true else (if (decide (a0 = 95)) = true then true else (if (decide (a0 ≥ 161)) = true then (decide (a0 ≤ 65519)) else false)))) else (if (decide (a0 = 45)) = true then true else (if (decide (a0 = 95)) = true then true else (if (decide (a0 ≥ 161)) = true then (decide (a0 ≤ 65519)) else false)))))) else (if (decide (a0 ≥ 65)) = true then (if (decide (a0 ≤ 90)) = true then true else (if (decide (a0 ≥ 48)) = true then (if (decide (a0 ≤ 57)) = true then true else (if (decide (a0 = 45)) = true then true else (if (decide (a0 = 95)) = true then true else (if (decide (a0 ≥ 161)) = true then (decide (a0 ≤ 65519)) else false)))) else (if (decide (a0 = 45)) = true then true else (if (decide (a0 = 95)) = true then true else (if (decide (a0 ≥ 161)) = true then (decide (a0 ≤ 65519)) else false))))) else (if (decide (a0 ≥ 48)) = true then (if (decide (a0 ≤ 57)) = true then true else (if (decide (a0 = 45)) = true then true else (if (decide (a0 = 95)) = true then true else (if (decide (a0 ≥ 161)) = true then (decide (a0 ≤ 65519)) else false)))) else (if (decide (a0 = 45)) = true then true else (if (decide (a0 = 95)) = true then true else (if (decide (a0 ≥ 161)) = true then (decide (a0 ≤ 65519)) else false)))))) from by rw [ite_f c1, ite_f c21, ite_t c31, ite_t c32])), rfl⟩
          · skip
            refine ol_gval (v := .int .i64 a0) (by exact xr_move rfl rfl) rfl rfl rfl rfl rfl c32 ?_
            refine ol_gval (v := .bool (decide (a0 = 45))) (by exact xr_eqI rfl Try.underlying3 rfl rfl rfl) rfl rfl rfl rfl rfl c32 ?_
            refine ol_val (v := .bool (decide (a0 = 45))) (by exact xr_pickF rfl rfl c32 rfl) rfl rfl rfl ?_
            refine ol_val (v := .bool (decide (a0 = 45))) (by exact xr_move rfl rfl) rfl rfl rfl ?_
            rcases bt (decide (a0 = 45)) with c33 | c33
            · skip
              refine ol_gskip rfl rfl rfl rfl rfl c33 ?_
              refine ol_gskip rfl rfl rfl rfl rfl c33 ?_
              refine ol_val (v := .bool true) (by exact xr_pickT rfl rfl c33 rfl) rfl rfl rfl ?_
              refine ol_val (v := .bool true) (by exact xr_move rfl rfl) rfl rfl rfl ?_
              refine ol_gskip rfl rfl rfl rfl rfl rfl ?_
              refine ol_gskip rfl rfl rfl rfl rfl rfl ?_
              refine ol_gskip rfl rfl rfl rfl rfl rfl ?_
              refine ol_uskip rfl rfl rfl rfl rfl ?_
              refine ol_uskip rfl rfl rfl rfl rfl ?_
              refine ol_gskip rfl rfl rfl rfl rfl rfl ?_
              refine ol_val (v := .bool true) (by exact xr_pickT rfl rfl rfl rfl) rfl rfl rfl ?_
              refine ol_val (v := .bool true) (by exact xr_assign rfl rfl) rfl rfl rfl ?_
              refine ol_nil ?_
              refine thn_i ?_
              exact ⟨(rfl).trans (congrArg (fun z => (.bool z : Value)) (show true = (if (decide (a0 ≥ 97)) = true then (if (decide (a0 ≤ 122)) = true then true else (if (decide (a0 ≥ 65)) = true then (if (decide (a0 ≤ 90)) = true then true else (if (decide (a0 ≥ 48)) = true then (if (decide (a0 ≤ 57)) = true then true else (if (decide (a0 = 45)) = true then true else (if (decide (a0 = 95)) = true then true else (if (decide (a0 ≥ 161)) = true then (decide (a0 ≤ 65519)) else false)))) else (if (decide (a0 = 45)) = true then true else (if (decide (a0 = 95)) = true then true else (if (decide (a0 ≥ 161)) = true then (decide (a0 ≤ 65519)) else false))))) else (if (decide (a0 ≥ 48)) = true then (if (decide (a0 ≤ 57)) = true then true else (if (decide (a0 = 45)) = true then true else (if (decide (a0 = 95)) = true then true else (if (decide (a0 ≥ 161)) = true then (decide (a0 ≤ 65519)) else false)))) else (if (decide (a0 = 45)) = true then true else (if (decide (a0 = 95)) = true then true else (if (decide (a0 ≥ 161)) = true then (decide (a0 ≤ 65519)) else false)))))) else (if (decide (a0 ≥ 65)) = true then (if (decide (a0 ≤ 90)) = true then true else (if (decide (a0 ≥ 48)) = true then (if (decide (a0 ≤ 57)) = true then true else (if (decide (a0 = 45)) = true then true else (if (decide (a0 = 95)) = true then true else (if (decide (a0 ≥ 161)) = true then (decide (a0 ≤ 65519)) else false)))) else (if (decide (a0 = 45)) = true then true else (if (decide (a0 = 95)) = true then true else (if (decide (a0 ≥ 161)) = true then (decide (a0 ≤ 65519)) else false))))) else (if (decide (a0 ≥ 48)) = true then (if (decide (a0 ≤ 57)) = true then true else (if (decide (a0 = 45)) = true then true else (if (decide (a0 = 95)) = true then true else (if (decide (a0 ≥ 161)) = true then (decide (a0 ≤ 65519)) else false)))) else (if (decide (a0 = 45)) = true then true else (if (decide (a0 = 95)) = true then true else (if (decide (a0 ≥ 161)) = true then (decide (a0 ≤ 65519)) else false)))))) from by rw [ite_f c1, ite_f c21, ite_t c31, ite_f c32, ite_t c33])), rfl⟩
            · skip
              refine ol_gval (v := .int .i64 a0) (by exact xr_move rfl rfl) rfl rfl rfl rfl rfl c33 ?_
              refine ol_gval (v := .bool (decide (a0 = 95))) (by exact xr_eqI rfl Try.underlying3 rfl rfl rfl) rfl rfl rfl rfl rfl c33 ?_
              refine ol_val (v := .bool (decide (a0 = 95))) (by exact xr_pickF rfl rfl c33 rfl) rfl rfl rfl ?_
              refine ol_val (v := .bool (decide (a0 = 95))) (by exact xr_move rfl rfl) rfl rfl rfl ?_
              rcases bt (decide (a0 = 95)) with c34 | c34
              · skip
                refine ol_gskip rfl rfl rfl rfl rfl c34 ?_
                refine ol_gskip rfl rfl rfl rfl rfl c34 ?_
                refine ol_gskip rfl rfl rfl rfl rfl c34 ?_
                refine ol_uskip rfl rfl rfl rfl rfl ?_
                refine ol_uskip rfl rfl rfl rfl rfl ?_
                refine ol_gskip rfl rfl rfl rfl rfl c34 ?_
                refine ol_val (v := .bool true) (by exact xr_pickT rfl rfl c34 rfl) rfl rfl rfl ?_
                refine ol_val (v := .bool true) (by exact xr_assign rfl rfl) rfl rfl rfl ?_
                refine ol_nil ?_
                refine thn_i ?_
                exact ⟨(rfl).trans (congrArg (fun z => (.bool z : Value)) (show true = (if (decide (a0 ≥ 97)) = true then (if (decide (a0 ≤ 122)) = true then true else (if (decide (a0 ≥ 65)) = true then (if (decide (a0 ≤ 90)) = true then true else (if (decide (a0 ≥ 48)) = true then (if (decide (a0 ≤ 57)) = true then true else (if (decide (a0 = 45)) = true then true else (if (decide (a0 = 95)) = true then true else (if (decide (a0 ≥ 161)) = true then (decide (a0 ≤ 65519)) else false)))) else (if (decide (a0 = 45)) = true then true else (if (decide (a0 = 95)) = true then true else (if (decide (a0 ≥ 161)) = true then (decide (a0 ≤ 65519)) else false))))) else (if (decide (a0 ≥ 48)) = true then (if (decide (a0 ≤ 57)) = true then true else (if (decide (a0 = 45)) = true then true else (if (decide (a0 = 95)) = true then true else (if (decide (a0 ≥ 161)) = true then (decide (a0 ≤ 65519)) else false)))) else (if (decide (a0 = 45)) = true then true else (if (decide (a0 = 95)) = true then true else (if (decide (a0 ≥ 161)) = true then (decide (a0 ≤ 65519)) else false)))))) else (if (decide (a0 ≥ 65)) = true then (if (decide (a0 ≤ 90)) = true then true else (if (decide (a0 ≥ 48)) = true then (if (decide (a0 ≤ 57)) = true then true else (if (decide (a0 = 45)) = true then true else (if (decide (a0 = 95)) = true then true else (if (decide (a0 ≥ 161)) = true then (decide (a0 ≤ 65519)) else false)))) else (if (decide (a0 = 45)) = true then true else (if (decide (a0 = 95)) = true then true else (if (decide (a0 ≥ 161)) = true then (decide (a0 ≤ 65519)) else false))))) else (if (decide (a0 ≥ 48)) = true then (if (decide (a0 ≤ 57)) = true then true else (if (decide (a0 = 45)) = true then true else (if (decide (a0 = 95)) = true then true else (if (decide (a0 ≥ 161)) = true then (decide (a0 ≤ 65519)) else false)))) else (if (decide (a0 = 45)) = true then true else (if (decide (a0 = 95)) = true then true else (if (decide (a0 ≥ 161)) = true then (decide (a0 ≤ 65519)) else false)))))) from by rw [ite_f c1, ite_f c21, ite_t c31, ite_f c32, ite_f c33, ite_t c34])), rfl⟩
              · skip
                refine ol_gval (v := .int .i64 a0) (by exact xr_move rfl rfl) rfl rfl rfl rfl rfl c34 ?_
                refine ol_gval (v := .bool (decide (a0 ≥ 161))) (by exact xr_geq rfl rfl rfl) rfl rfl rfl rfl rfl c34 ?_
                refine ol_gval (v := .bool (decide (a0 ≥ 161))) (by exact xr_move rfl rfl) rfl rfl rfl rfl rfl c34 ?_
                rcases bt (decide (a0 ≥ 161)) with c35 | c35
                · skip
                  refine ol_gval (v := .int .i64 a0) (by exact xr_move rfl rfl) rfl rfl rfl rfl rfl c35 ?_
                  refine ol_gval (v := .bool (decide (a0 ≤ 65519))) (by exact xr_leq rfl rfl rfl) rfl rfl rfl rfl rfl c35 ?_
                  refine ol_gval (v := .bool (decide (a0 ≤ 65519))) (by exact xr_pickT rfl rfl c35 rfl) rfl rfl rfl rfl rfl c34 ?_
                  refine ol_val (v := .bool (decide (a0 ≤ 65519))) (by exact xr_pickF rfl rfl c34 rfl) rfl rfl rfl ?_
                  refine ol_val (v := .bool (decide (a0 ≤ 65519))) (by exact xr_assign rfl rfl) rfl rfl rfl ?_
                  refine ol_nil ?_
                  refine thn_i ?_
                  exact ⟨(rfl).trans (congrArg (fun z => (.bool z : Value)) (show (decide (a0 ≤ 65519)) = (if (decide (a0 ≥ 97)) = true then (if (decide (a0 ≤ 122)) = true then true else (if (decide (a0 ≥ 65)) = true then (if (decide (a0 ≤ 90)) = true then true else (if (decide (a0 ≥ 48)) = true then (if (decide (a0 ≤ 57)) = true then true else (if (decide (a0 = 45)) = true then true else (if (decide (a0 = 95)) = true then true else (if (decide (a0 ≥ 161)) = true then (decide (a0 ≤ 65519)) else false)))) else (if (decide (a0 = 45)) = true then true else (if (decide (a0 = 95)) = true then true else (if (decide (a0 ≥ 161)) = true then (decide (a0 ≤ 65519)) else false))))) else (if (decide (a0 ≥ 48)) = true then (if (decide (a0 ≤ 57)) = true then true else (if (decide (a0 = 45)) = true then true else (if (decide (a0 = 95)) = true then true else (if (decide (a0 ≥ 161)) = true then (decide (a0 ≤ 65519)) else false)))) else (if (decide (a0 = 45)) = true then true else (if (decide (a0 = 95)) = true then true else (if (decide (a0 ≥ 161)) = true then (decide (a0 ≤ 65519)) else false)))))) else (if (decide (a0 ≥ 65)) = true then (if (decide (a0 ≤ 90)) = true then true else (if (decide (a0 ≥ 48)) = true then (if (decide (a0 ≤ 57)) = true then true else (if (decide (a0 = 45)) = true then true else (if (decide (a0 = 95)) = true then true else (if (decide (a0 ≥ 161)) = true then (decide (a0 ≤ 65519)) else false)))) else (if (decide (a0 = 45)) = true then true else (if (decide (a0 = 95)) = true then true else (if (decide (a0 ≥ 161)) = true then (decide (a0 ≤ 65519)) else false))))) else (if (decide (a0 ≥ 48)) = true then (if (decide (a0 ≤ 57)) = true then true else (if (decide (a0 = 45)) = true then true else (if (decide (a0 = 95)) = true then true else (if (decide (a0 ≥ 161)) = true then (decide (a0 ≤ 65519)) else false)))) else (if (decide (a0 = 45)) = true then true else (if (decide (a0 = 95)) = true then true else (if (decide (a0 ≥ 161)) = true then (decide (a0 ≤ 65519)) else false)))))) from by rw [ite_f c1, ite_f c21, ite_t c31, ite_f c32, ite_f c33, ite_f c34, ite_t c35])), rfl⟩
                · skip
                  refine ol_gskip rfl rfl rfl rfl rfl c35 ?_
                  refine ol_gskip rfl rfl rfl rfl rfl c35 ?_
                  refine ol_gval (v := .bool false) (by exact xr_pickF rfl rfl c35 rfl) rfl rfl rfl rfl rfl c34 ?_
                  refine ol_val (v := .bool false) (by exact xr_pickF rfl rfl c34 rfl) rfl rfl rfl ?_
                  refine ol_val (v := .bool false) (by exact xr_assign rfl rfl) rfl rfl rfl ?_
                  refine ol_nil ?_
                  refine thn_i ?_
                  exact ⟨(rfl).trans (congrArg (fun z => (.bool z : Value)) (show false = (if (decide (a0 ≥ 97)) = true then (if (decide (a0 ≤ 122)) = true then true else (if (decide (a0 ≥ 65)) = true then (if (decide (a0 ≤ 90)) = true then true else (if (decide (a0 ≥ 48)) = true then (if (decide (a0 ≤ 57)) = true then true else (if (decide (a0 = 45)) = true then true else (if (decide (a0 = 95)) = true then true else (if (decide (a0 ≥ 161)) = true then (decide (a0 ≤ 65519)) else false)))) else (if (decide (a0 = 45)) = true then true else (if (decide (a0 = 95)) = true then true else (if (decide (a0 ≥ 161)) = true then (decide (a0 ≤ 65519)) else false))))) else (if (decide (a0 ≥ 48)) = true then (if (decide (a0 ≤ 57)) = true then true else (if (decide (a0 = 45)) = true then true else (if (decide (a0 = 95)) = true then true else (if (decide (a0 ≥ 161)) = true then (decide (a0 ≤ 65519)) else false)))) else (if (decide (a0 = 45)) = true then true else (if (decide (a0 = 95)) = true then true else (if (decide (a0 ≥ 161)) = true then (decide (a0 ≤ 65519)) else false)))))) else (if (decide (a0 ≥ 65)) = true then (if (decide (a0 ≤ 90)) = true then true else (if (decide (a0 ≥ 48)) = true then (if (decide (a0 ≤ 57)) = true then true else (if (decide (a0 = 45)) = true then true else (if (decide (a0 = 95)) = true then true else (if (decide (a0 ≥ 161)) = true then (decide (a0 ≤ 65519)) else false)))) else (if (decide (a0 = 45)) = true then true else (if (decide (a0 = 95)) = true then true else (if (decide (a0 ≥ 161)) = true then (decide (a0 ≤ 65519)) else false))))) else (if (decide (a0 ≥ 48)) = true then (if (decide (a0 ≤ 57)) = true then true else (if (decide (a0 = 45)) = true then true else (if (decide (a0 = 95)) = true then true else (if (decide (a0 ≥ 161)) = true then (decide (a0 ≤ 65519)) else false)))) else (if (decide (a0 = 45)) = true then true else (if (decide (a0 = 95)) = true then true else (if (decide (a0 ≥ 161)) = true then (decide (a0 ≤ 65519)) else false)))))) from by rw [ite_f c1, ite_f c21, ite_t c31, ite_f c32, ite_f c33, ite_f c34, ite_f c35])), rfl⟩
        · skip
          refine ol_gskip rfl rfl rfl rfl rfl c31 ?_
          refine ol_gskip rfl rfl rfl rfl rfl c31 ?_
          refine ol_gval (v := .bool false) (by exact xr_pickF rfl rfl c31 rfl) rfl rfl rfl rfl rfl rfl ?_
          refine ol_val (v := .bool false) (by exact xr_pickF rfl rfl rfl rfl) rfl rfl rfl ?_
          refine ol_val (v := .bool false) (by exact xr_move rfl rfl) rfl rfl rfl ?_
          refine ol_gval (v := .int .i64 a0) (by exact xr_move rfl rfl) rfl rfl rfl rfl rfl rfl ?_
          refine ol_gval (v := .bool (decide (a0 = 45))) (by exact xr_eqI rfl Try.underlying3 rfl rfl rfl) rfl rfl rfl rfl rfl rfl ?_
          refine ol_val (v := .bool (decide (a0 = 45))) (by exact xr_pickF rfl rfl rfl rfl) rfl rfl rfl ?_
          refine ol_val (v := .bool (decide (a0 = 45))) (by exact xr_move rfl rfl) rfl rfl rfl ?_
          rcases bt (decide (a0 = 45)) with c36 | c36
          · skip
            refine ol_gskip rfl rfl rfl rfl rfl c36 ?_
            refine ol_gskip rfl rfl rfl rfl rfl c36 ?_
            refine ol_val (v := .bool true) (by exact xr_pickT rfl rfl c36 rfl) rfl rfl rfl ?_
            refine ol_val (v := .bool true) (by exact xr_move rfl rfl) rfl rfl rfl ?_
            refine ol_gskip rfl rfl rfl rfl rfl rfl ?_
            refine ol_gskip rfl rfl rfl rfl rfl rfl ?_
            refine ol_gskip rfl rfl rfl rfl rfl rfl ?_
            refine ol_uskip rfl rfl rfl rfl rfl ?_
            refine ol_uskip rfl rfl rfl rfl rfl ?_
            refine ol_gskip rfl rfl rfl rfl rfl rfl ?_
            refine ol_val (v := .bool true) (by exact xr_pickT rfl rfl rfl rfl) rfl rfl rfl ?_
            refine ol_val (v := .bool true) (by exact xr_assign rfl rfl) rfl rfl rfl ?_
            refine ol_nil ?_
            refine thn_i ?_
            exact ⟨(rfl).trans (congrArg (fun z => (.bool z : Value)) (show true = (if (decide (a0 ≥ 97)) = true then (if (decide (a0 ≤ 122)) = true then true else (if (decide (a0 ≥ 65)) = true then (if (decide (a0 ≤ 90)) = true then true else (if (decide (a0 ≥ 48)) = true then (if (decide (a0 ≤ 57)) = true then true else (if (decide (a0 = 45)) = true then true else (if (decide (a0 = 95)) = true then true else (if (decide (a0 ≥ 161)) = true then (decide (a0 ≤ 65519)) else false)))) else (if (decide (a0 = 45)) = true then true else (if (decide (a0 = 95)) = true then true else (if (decide (a0 ≥ 161)) = true then (decide (a0 ≤ 65519)) else false))))) else (if (decide (a0 ≥ 48)) = true then (if (decide (a0 ≤ 57)) = true then true else (if (decide (a0 = 45)) = true then true else (if (decide (a0 = 95)) = true then true else (if (decide (a0 ≥ 161)) = true then (decide (a0 ≤ 65519)) else false)))) else (if (decide (a0 = 45)) = true then true else (if (decide (a0 = 95)) = true then true else (if (decide (a0 ≥ 161)) = true then (decide (a0 ≤ 65519)) else false)))))) else (if (decide (a0 ≥ 65)) = true then (if (decide (a0 ≤ 90)) = true then true else (if (decide (a0 ≥ 48)) = true then (if (decide (a0 ≤ 57)) = true then true else (if (decide (a0 = 45)) = true then true else (if (decide (a0 = 95)) = true then true else (if (decide (a0 ≥ 161)) = true then (decide (a0 ≤ 65519)) else false)))) else (if (decide (a0 = 45)) = true then true else (if (decide (a0 = 95)) = true then true else (if (decide (a0 ≥ 161)) = true then (decide (a0 ≤ 65519)) else false))))) else (if (decide (a0 ≥ 48)) = true then (if (decide (a0 ≤ 57)) = true then true else (if (decide (a0 = 45)) = true then true else (if (decide (a0 = 95)) = true then true else (if (decide (a0 ≥ 161)) = true then (decide (a0 ≤ 65519)) else false)))) else (if (decide (a0 = 45)) = true then true else (if (decide (a0 = 95)) = true then true else (if (decide (a0 ≥ 161)) = true then (decide (a0 ≤ 65519)) else false)))))) from by rw [ite_f c1, ite_f c21, ite_f c31, ite_t c36])), rfl⟩
          · skip
            refine ol_gval (v := .int .i64 a0) (by exact xr_move rfl rfl) rfl rfl rfl rfl rfl c36 ?_
            refine ol_gval (v := .bool (decide (a0 = 95))) (by exact xr_eqI rfl Try.underlying3 rfl rfl rfl) rfl rfl rfl rfl rfl c36 ?_
            refine ol_val (v := .bool (decide (a0 = 95))) (by exact xr_pickF rfl rfl c36 rfl) rfl rfl rfl ?_
            refine ol_val (v := .bool (decide (a0 = 95))) (by exact xr_move rfl rfl) rfl rfl rfl ?_
            rcases bt (decide (a0 = 95)) with c37 | c37
            · skip
              refine ol_gskip rfl rfl rfl rfl rfl c37 ?_
              refine ol_gskip rfl rfl rfl rfl rfl c37 ?_
              refine ol_gskip rfl rfl rfl rfl rfl c37 ?_
              refine ol_uskip rfl rfl rfl rfl rfl ?_
              refine ol_uskip rfl rfl rfl rfl rfl ?_
              refine ol_gskip rfl rfl rfl rfl rfl c37 ?_
              refine ol_val (v := .bool true) (by exact xr_pickT rfl rfl c37 rfl) rfl rfl rfl ?_
              refine ol_val (v := .bool true) (by exact xr_assign rfl rfl) rfl rfl rfl ?_
              refine ol_nil ?_
              refine thn_i ?_
              exact ⟨(rfl).trans (congrArg (fun z => (.bool z : Value)) (show true = (if (decide (a0 ≥ 97)) = true then (if (decide (a0 ≤ 122)) = true then true else (if (decide (a0 ≥ 65)) = true then (if (decide (a0 ≤ 90)) = true then true else (if (decide (a0 ≥ 48)) = true then (if (decide (a0 ≤ 57)) = true then true else (if (decide (a0 = 45)) = true then true else (if (decide (a0 = 95)) = true then true else (if (decide (a0 ≥ 161)) = true then (decide (a0 ≤ 65519)) else false)))) else (if (decide (a0 = 45)) = true then true else (if (decide (a0 = 95)) = true then true else (if (decide (a0 ≥ 161)) = true then (decide (a0 ≤ 65519)) else false))))) else (if (decide (a0 ≥ 48)) = true then (if (decide (a0 ≤ 57)) = true then true else (if (decide (a0 = 45)) = true then true else (if (decide (a0 = 95)) = true then true else (if (decide (a0 ≥ 161)) = true then (decide (a0 ≤ 65519)) else false)))) else (if (decide (a0 = 45)) = true then true else (if (decide (a0 = 95)) = true then true else (if (decide (a0 ≥ 161)) = true then (decide (a0 ≤ 65519)) else false)))))) else (if (decide (a0 ≥ 65)) = true then (if (decide (a0 ≤ 90)) = true then true else (if (decide (a0 ≥ 48)) = true then (if (decide (a0 ≤ 57)) = true then true else (if (decide (a0 = 45)) = true then true else (if (decide (a0 = 95)) = true then true else (if (decide (a0 ≥ 161)) = true then (decide (a0 ≤ 65519)) else false)))) else (if (decide (a0 = 45)) = true then true else (if (decide (a0 = 95)) = true then true else (if (decide (a0 ≥ 161)) = true then (decide (a0 ≤ 65519)) else false))))) else (if (decide (a0 ≥ 48)) = true then (if (decide (a0 ≤ 57)) = true then true else (if (decide (a0 = 45)) = true then true else (if (decide (a0 = 95)) = true then true else (if (decide (a0 ≥ 161)) = true then (decide (a0 ≤ 65519)) else false)))) else (if (decide (a0 = 45)) = true then true else (if (decide (a0 = 95)) = true then true else (if (decide (a0 ≥ 161)) = true then (decide (a0 ≤ 65519)) else false)))))) from by rw [ite_f c1, ite_f c21, ite_f c31, ite_f c36, ite_t c37])), rfl⟩
            · skip
              refine ol_gval (v := .int .i64 a0) (by exact xr_move rfl rfl) rfl rfl rfl rfl rfl c37 ?_
              refine ol_gval (v := .bool (decide (a0 ≥ 161))) (by exact xr_geq rfl rfl rfl) rfl rfl rfl rfl rfl c37 ?_
              refine ol_gval (v := .bool (decide (a0 ≥ 161))) (by exact xr_move rfl rfl) rfl rfl rfl rfl rfl c37 ?_
              rcases bt (decide (a0 ≥ 161)) with c38 | c38
              · skip
                refine ol_gval (v := .int .i64 a0) (by exact xr_move rfl rfl) rfl rfl rfl rfl rfl c38 ?_
                refine ol_gval (v := .bool (decide (a0 ≤ 65519))) (by exact xr_leq rfl rfl rfl) rfl rfl rfl rfl rfl c38 ?_
                refine ol_gval (v := .bool (decide (a0 ≤ 65519))) (by exact xr_pickT rfl rfl c38 rfl) rfl rfl rfl rfl rfl c37 ?_
                refine ol_val (v := .bool (decide (a0 ≤ 65519))) (by exact xr_pickF rfl rfl c37 rfl) rfl rfl rfl ?_
                refine ol_val (v := .bool (decide (a0 ≤ 65519))) (by exact xr_assign rfl rfl) rfl rfl rfl ?_
                refine ol_nil ?_
                refine thn_i ?_
                exact ⟨(rfl).trans (congrArg (fun z => (.bool z : Value)) (show (decide (a0 ≤ 65519)) = (if (decide (a0 ≥ 97)) = true then (if (decide (a0 ≤ 122)) = true then true else (if (decide (a0 ≥ 65)) = true then (if (decide (a0 ≤ 90)) = true then true else (if (decide (a0 ≥ 48)) = true then (if (decide (a0 ≤ 57)) = true then true else (if (decide (a0 = 45)) = true then true else (if (decide (a0 = 95)) = true then true else (if (decide (a0 ≥ 161)) = true then (decide (a0 ≤ 65519)) else false)))) else (if (decide (a0 = 45)) = true then true else (if (decide (a0 = 95)) = true then true else (if (decide (a0 ≥ 161)) = true then (decide (a0 ≤ 65519)) else false))))) else (if (decide (a0 ≥ 48)) = true then (if (decide (a0 ≤ 57)) = true then true else (if (decide (a0 = 45)) = true then true else (if (decide (a0 = 95)) = true then true else (if (decide (a0 ≥ 161)) = true then (decide (a0 ≤ 65519)) else false)))) else (if (decide (a0 = 45)) = true then true else (if (decide (a0 = 95)) = true then true else (if (decide (a0 ≥ 161)) = true then (decide (a0 ≤ 65519)) else false)))))) else (if (decide (a0 ≥ 65)) = true then (if (decide (a0 ≤ 90)) = true then true else (if (decide (a0 ≥ 48)) = true then (if (decide (a0 ≤ 57)) = true then true else (if (decide (a0 = 45)) = true then true else (if (decide (a0 = 95)) = true then true else (if (decide (a0 ≥ 161)) = true then (decide (a0 ≤ 65519)) else false)))) else (if (decide (a0 = 45)) = true then true else (if (decide (a0 = 95)) = true then true else (if (decide (a0 ≥ 161)) = true then (decide (a0 ≤ 65519)) else false))))) else (if (decide (a0 ≥ 48)) = true then (if (decide (a0 ≤ 57)) = true then true else (if (decide (a0 = 45)) = true then true else (if (decide (a0 = 95)) = true then true else (if (decide (a0 ≥ 161)) = true then (decide (a0 ≤ 65519)) else false)))) else (if (decide (a0 = 45)) = true then true else (if (decide (a0 = 95)) = true then true else (if (decide (a0 ≥ 161)) = true then (decide (a0 ≤ 65519)) else false)))))) from by rw [ite_f c1, ite_f c21, ite_f c31, ite_f c36, ite_f c37, ite_t c38])), rfl⟩
              · skip
                refine ol_gskip rfl rfl rfl rfl rfl c38 ?_
                refine ol_gskip rfl rfl rfl rfl rfl c38 ?_
                refine ol_gval (v := .bool false) (by exact xr_pickF rfl rfl c38 rfl) rfl rfl rfl rfl rfl c37 ?_
                refine ol_val (v := .bool false) (by exact xr_pickF rfl rfl c37 rfl) rfl rfl rfl ?_
                refine ol_val (v := .bool false) (by exact xr_assign rfl rfl) rfl rfl rfl ?_
                refine ol_nil ?_
                refine thn_i ?_
                exact ⟨(rfl).trans (congrArg (fun z => (.bool z : Value)) (show false = (if (decide (a0 ≥ 97)) = true then (if (decide (a0 ≤ 122)) = true then true else (if (decide (a0 ≥ 65)) = true then (if (decide (a0 ≤ 90)) = true then true else (if (decide (a0 ≥ 48)) = true then (if (decide (a0 ≤ 57)) = true then true else (if (decide (a0 = 45)) = true then true else (if (decide (a0 = 95)) = true then true else (if (decide (a0 ≥ 161)) = true then (decide (a0 ≤ 65519)) else false)))) else (if (decide (a0 = 45)) = true then true else (if (decide (a0 = 95)) = true then true else (if (decide (a0 ≥ 161)) = true then (decide (a0 ≤ 65519)) else false))))) else (if (decide (a0 ≥ 48)) = true then (if (decide (a0 ≤ 57)) = true then true else (if (decide (a0 = 45)) = true then true else (if (decide (a0 = 95)) = true then true else (if (decide (a0 ≥ 161)) = true then (decide (a0 ≤ 65519)) else false)))) else (if (decide (a0 = 45)) = true then true else (if (decide (a0 = 95)) = true then true else (if (decide (a0 ≥ 161)) = true then (decide (a0 ≤ 65519)) else false)))))) else (if (decide (a0 ≥ 65)) = true then (if (decide (a0 ≤ 90)) = true then true else (if (decide (a0 ≥ 48)) = true then (if (decide (a0 ≤ 57)) = true then true else (if (decide (a0 = 45)) = true then true else (if (decide (a0 = 95)) = true then true else (if (decide (a0 ≥ 161)) = true then (decide (a0 ≤ 65519)) else false)))) else (if (decide (a0 = 45)) = true then true else (if (decide (a0 = 95)) = true then true else (if (decide (a0 ≥ 161)) = true then (decide (a0 ≤ 65519)) else false))))) else (if (decide (a0 ≥ 48)) = true then (if (decide (a0 ≤ 57)) = true then true else (if (decide (a0 = 45)) = true then true else (if (decide (a0 = 95)) = true then true else (if (decide (a0 ≥ 161)) = true then (decide (a0 ≤ 65519)) else false)))) else (if (decide (a0 = 45)) = true then true else (if (decide (a0 = 95)) = true then true else (if (decide (a0 ≥ 161)) = true then (decide (a0 ≤ 65519)) else false)))))) from by rw [ite_f c1, ite_f c21, ite_f c31, ite_f c36, ite_f c37, ite_f c38])), rfl⟩
  · skip
    rintro ρ39 _ ⟨e2, rfl⟩
    refine cw_ret ?_
    repeat (first | with_reducible refine thn_r ?_ | with_reducible refine blk_r ?_)
    obtain rfl := Option.some.inj h
    refine fin_ret1 Try.results140 e2 ?_
    exact ⟨_, rfl, rfl, fB⟩
end Go.Proofs.Ytjhajfkfhdnciaa

/- rickyard/rickyardref04.Right: its model, and that the Go function computes it: written by gen.py. -/
set_option linter.unusedVariables false
namespace Go.Proofs.Ytjhajfkfhdnciaa
open Go Go.Xw
def rickyardref04_Right.s0 (fu : Nat) (t1 : (List Int)) : (Bool × Int) → Option (Sum Bool (Bool × Int)) := fun s10 => (if (decide (s10.2 < (List.length t1 : Int))) = true then (((if s10.1 = true then (if 0 ≤ s10.2 ∧ s10.2 < (List.length t1 : Int) then ((rickyardref04_Of.f fu (ix t1 s10.2) : Option Bool).bind fun t22 => some (t22)) else none) else some (false)) : Option Bool).bind fun x18 => some (Sum.inr (x18, (IntKind.i64.wrap (s10.2 + 1))))) else some (Sum.inl (s10.1)))
def rickyardref04_Right.f (fu : Nat) (a0 : List UInt8) : Option Bool := ((rickyardref04_Runes.f fu a0 : Option (List Int)).bind fun t1 => ((loopM (rickyardref04_Right.s0 fu t1) fu ((if (decide ((List.length t1 : Int) > 0)) = true then (decide ((List.length t1 : Int) ≤ 8)) else false), 0)).bind fun e11 => some (e11)))
set_option maxRecDepth 100000 in
set_option maxHeartbeats 400000 in
theorem rickyardref04_Right.ok (fu : Nat) (w : World) (a0 : List UInt8) (r : Bool) (h : rickyardref04_Right.f fu a0 = some r) :
    Calls Try.prog 117 (([sv a0] : List Value).toArray) w (fun e w' => ∃ v, e = .returned v ∧ v = .bool r ∧ Gr w w') := by
  unfold rickyardref04_Right.f at h
  have fB : Gr w w := Fr.refl _ _
  refine calls_cw Try.func117 rfl Try.ntmps117 rfl ?_
  refine cw_seq ?_
  refine cw_region ?_
  refine ol_val (v := .bool false) (by exact xr_assign rfl rfl) rfl rfl rfl ?_
  refine ol_nil ?_
  refine cw_seq ?_
  refine cw_region ?_
  refine ol_val (v := sv a0) (by exact xr_move rfl rfl) rfl rfl rfl ?_
  obtain ⟨t1, k2, h⟩ := bs h
  refine ol_op (by exact opv_call rfl cal139 (ac rfl an) (rickyardref04_Runes.ok fu _ a0 _ k2)) rfl rfl rfl ?_
  rintro u3 w7 ⟨_, o4, rfl, q6⟩
  have o4 := Own.base o4 fB.size
  have fB := fB.gr q6
  refine ol_val (v := u3) (by exact xr_assign rfl rfl) rfl rfl rfl ?_
  refine ol_nil ?_
  refine cw_seq ?_
  refine cw_mid (fun ρ' w' => ρ' 3 = u3 ∧ ρ' 4 = .bool (if (decide ((List.length t1 : Int) > 0)) = true then (decide ((List.length t1 : Int) ≤ 8)) else false) ∧ w7 = w') ?_ ?_
  · skip
    refine cw_region ?_
    refine ol_val (v := u3) (by exact xr_move rfl rfl) rfl rfl rfl ?_
    refine ol_val (v := .int .i64 (List.length t1 : Int)) (by exact xr_lenR rfl Try.underlying45 rfl o4.rd) rfl rfl rfl ?_
    refine ol_val (v := .bool (decide ((List.length t1 : Int) > 0))) (by exact xr_gtr rfl rfl rfl) rfl rfl rfl ?_
    refine ol_val (v := .bool (decide ((List.length t1 : Int) > 0))) (by exact xr_move rfl rfl) rfl rfl rfl ?_
    rcases bt (decide ((List.length t1 : Int) > 0)) with c8 | c8
    · skip
      refine ol_gval (v := u3) (by exact xr_move rfl rfl) rfl rfl rfl rfl rfl c8 ?_
      refine ol_gval (v := .int .i64 (List.length t1 : Int)) (by exact xr_lenR rfl Try.underlying45 rfl o4.rd) rfl rfl rfl rfl rfl c8 ?_
      refine ol_gval (v := .bool (decide ((List.length t1 : Int) ≤ 8))) (by exact xr_leq rfl rfl rfl) rfl rfl rfl rfl rfl c8 ?_
      refine ol_val (v := .bool (decide ((List.length t1 : Int) ≤ 8))) (by exact xr_pickT rfl rfl c8 rfl) rfl rfl rfl ?_
      refine ol_val (v := .bool (decide ((List.length t1 : Int) ≤ 8))) (by exact xr_assign rfl rfl) rfl rfl rfl ?_
      refine ol_nil ?_
      refine thn_i ?_
      exact ⟨rfl, (rfl).trans (congrArg (fun z => (.bool z : Value)) (show (decide ((List.length t1 : Int) ≤ 8)) = (if (decide ((List.length t1 : Int) > 0)) = true then (decide ((List.length t1 : Int) ≤ 8)) else false) from by rw [ite_t c8])), rfl⟩
    · skip
      refine ol_gskip rfl rfl rfl rfl rfl c8 ?_
      refine ol_gskip rfl rfl rfl rfl rfl c8 ?_
      refine ol_gskip rfl rfl rfl rfl rfl c8 ?_
      refine ol_val (v := .bool false) (by exact xr_pickF rfl rfl c8 rfl) rfl rfl rfl ?_
      refine ol_val (v := .bool false) (by exact xr_assign rfl rfl) rfl rfl rfl ?_
      refine ol_nil ?_
      refine thn_i ?_
      exact ⟨rfl, (rfl).trans (congrArg (fun z => (.bool z : Value)) (show false = (if (decide ((List.length t1 : Int) > 0)) = true then (decide ((List.length t1 : Int) ≤ 8)) else false) from by rw [ite_f c8])), rfl⟩
  · skip
    rintro ρ9 _ ⟨e3, e4, rfl⟩
    refine cw_seq ?_
    refine cw_seq ?_
    refine cw_region ?_
    refine ol_val (v := .int .i64 0) (by exact xr_assign rfl rfl) rfl rfl rfl ?_
    refine ol_nil ?_
    obtain ⟨e11, l12, h13⟩ := bs h
    refine cw_mid (fun ρ' w' => ρ' 4 = .bool e11 ∧ Gr w w') ?_ ?_
    · refine cw_block ?_
      refine cw_round (fun (s10 : Bool × Int) ρ' w' => ∃ o4 : Own (kI .i64) 3 w' w.heap.size u3 t1, ρ' 3 = u3 ∧ ρ' 4 = .bool s10.1 ∧ ρ' 5 = .int .i64 s10.2 ∧ Gr w w') l12 ?_ ?_
      · skip
        exact ⟨o4, e3, e4, rfl, fB⟩
      · rintro s10 x16 ρ14 w15 ⟨o4, e3, e4, e5, fB⟩ h
        unfold rickyardref04_Right.s0 at h
        refine cw_seq ?_
        refine cw_seq ?_
        refine cw_region ?_
        refine ol_val (v := .int .i64 s10.2) (by exact xr_move rfl e5) rfl rfl rfl ?_
        refine ol_val (v := u3) (by exact xr_move rfl e3) rfl rfl rfl ?_
        refine ol_val (v := .int .i64 (List.length t1 : Int)) (by exact xr_lenR rfl Try.underlying45 rfl o4.rd) rfl rfl rfl ?_
        refine ol_val (v := .bool (decide (s10.2 < (List.length t1 : Int)))) (by exact xr_lss rfl rfl rfl) rfl rfl rfl ?_
        refine ol_nil ?_
        rcases is h with ⟨c17, h⟩ | ⟨c17, h⟩
        · refine cw_condT rfl c17 ?_
          refine cw_skip ?_
          refine cw_seq ?_
          refine cw_block ?_
          obtain ⟨x18, j19, h⟩ := bs h
          refine cw_mid (fun ρ' w' => ρ' 3 = u3 ∧ ρ' 4 = .bool x18 ∧ ρ' 5 = .int .i64 s10.2 ∧ Gr w15 w') ?_ ?_
          · skip
            refine cw_region ?_
            refine ol_val (v := .bool s10.1) (by exact xr_move rfl e4) rfl rfl rfl ?_
            refine ol_val (v := .bool s10.1) (by exact xr_move rfl rfl) rfl rfl rfl ?_
            rcases is j19 with ⟨c20, j19⟩ | ⟨c20, j19⟩
            · skip
              refine ol_gval (v := u3) (by exact xr_move rfl e3) rfl rfl rfl rfl rfl c20 ?_
              refine ol_gval (v := .int .i64 s10.2) (by exact xr_move rfl e5) rfl rfl rfl rfl rfl c20 ?_
              obtain ⟨g21, j19⟩ := gs j19
              refine ol_gval (v := .pointer (some ⟨(sb u3), so u3 + Int.toNat s10.2 * 1, none⟩)) (by exact xr_indexR (K := (kI .i64)) (v := u3) rfl Try.underlying45 sz3 rfl o4.rd rfl g21.1 g21.2) rfl rfl rfl rfl rfl c20 ?_
              refine ol_gval (v := .int .i64 (ix t1 s10.2)) (by exact xr_load1 (v := .int .i64 (ix t1 s10.2)) rfl ag3 rfl (o4.rd.elem g21.1 g21.2)) rfl rfl rfl rfl rfl c20 ?_
              obtain ⟨t22, k23, j19⟩ := bs j19
              refine ol_gop (by exact opv_call rfl cal140 (ac rfl an) (rickyardref04_Of.ok fu _ (ix t1 s10.2) _ k23)) rfl rfl rfl rfl rfl c20 ?_
              rintro _ w25 ⟨rfl, q24⟩
              have o4 := o4.gr q24
              have fB := fB.gr q24
              refine ol_val (v := .bool t22) (by exact xr_pickT rfl rfl c20 rfl) rfl rfl rfl ?_
              refine ol_val (v := .bool t22) (by exact xr_assign rfl rfl) rfl rfl rfl ?_
              refine ol_nil ?_
              obtain rfl := Option.some.inj j19
              refine thn_i ?_
              exact ⟨e3, rfl, e5, q24⟩
            · skip
              refine ol_gskip rfl rfl rfl rfl rfl c20 ?_
              refine ol_gskip rfl rfl rfl rfl rfl c20 ?_
              refine ol_gskip rfl rfl rfl rfl rfl c20 ?_
              refine ol_gskip rfl rfl rfl rfl rfl c20 ?_
              refine ol_gskip rfl rfl rfl rfl rfl c20 ?_
              refine ol_val (v := .bool false) (by exact xr_pickF rfl rfl c20 rfl) rfl rfl rfl ?_
              refine ol_val (v := .bool false) (by exact xr_assign rfl rfl) rfl rfl rfl ?_
              refine ol_nil ?_
              obtain rfl := Option.some.inj j19
              refine thn_i ?_
              exact ⟨e3, rfl, e5, Fr.refl _ _⟩
          · skip
            rintro ρ26 w27 ⟨e3, e4, e5, q28⟩
            have o4 := o4.gr q28
            have fB := fB.gr q28
            refine blk_i ?_
            refine cw_region ?_
            refine ol_val (v := .int .i64 s10.2) (by exact xr_move rfl e5) rfl rfl rfl ?_
            refine ol_val (v := .int .i64 (IntKind.i64.wrap (s10.2 + 1))) (by exact xr_add rfl rfl rfl) rfl rfl rfl ?_
            refine ol_val (v := .int .i64 (IntKind.i64.wrap (s10.2 + 1))) (by exact xr_assign rfl rfl) rfl rfl rfl ?_
            refine ol_nil ?_
            obtain rfl := Option.some.inj h
            refine lp_in ?_
            exact ⟨o4, e3, e4, rfl, fB⟩
        · refine cw_condF rfl c17 ?_
          refine cw_exit ?_
          repeat (first | with_reducible refine thn_e ?_ | with_reducible refine blk_e rfl ?_)
          obtain rfl := Option.some.inj h
          refine lp_exit ?_
          rintro rfl
          refine thn_x ?_
          exact ⟨e4, fB⟩
    · rintro ρ29 w30 ⟨e4, fB⟩
      have h := h13
      refine cw_seq ?_
      refine cw_region ?_
      refine ol_val (v := .bool e11) (by exact xr_move rfl e4) rfl rfl rfl ?_
      refine ol_val (v := .bool e11) (by exact xr_assign rfl rfl) rfl rfl rfl ?_
      refine ol_nil ?_
      refine cw_ret ?_
      repeat (first | with_reducible refine thn_r ?_ | with_reducible refine blk_r ?_)
      obtain rfl := Option.some.inj h
      refine fin_ret1 Try.results117 rfl ?_
      exact ⟨_, rfl, rfl, fB⟩
end Go.Proofs.Ytjhajfkfhdnciaa

/- rickyard/rickyardref11.Right: its model, and that the Go function computes it: written by gen.py. -/
set_option linter.unusedVariables false
namespace Go.Proofs.Ytjhajfkfhdnciaa
open Go Go.Xw
def rickyardref11_Right.s0 (fu : Nat) (a0 : S_api_Queue) : (Int × Int) → Option (Sum (Sum Bool Unit) (Int × Int)) := fun s19 => (if (decide (s19.2 < 12)) = true then (((if (decide ((Int.tmod s19.1 2) = 0)) = true then (if 0 ≤ s19.2 ∧ s19.2 < 12 then (if (!decide ((Arr.get a0.Roots s19.2) = 0)) = true then some (true) else (if (decide ((Int.tmod s19.1 2) = 1)) = true then (if 0 ≤ s19.2 ∧ s19.2 < 12 then ((rickyardref08_Block.f fu (Arr.get a0.Roots s19.2) : Option Bool).bind fun t35 => some ((!t35))) else none) else some (false))) else none) else (if (decide ((Int.tmod s19.1 2) = 1)) = true then (if 0 ≤ s19.2 ∧ s19.2 < 12 then ((rickyardref08_Block.f fu (Arr.get a0.Roots s19.2) : Option Bool).bind fun t41 => some ((!t41))) else none) else some (false))) : Option Bool).bind fun x28 => (if x28 = true then some (Sum.inl (Sum.inl (false))) else some (Sum.inr ((IntKind.i64.wrap (Int.tdiv s19.1 2)), (IntKind.i64.wrap (s19.2 + 1)))))) else some (Sum.inl (Sum.inr ())))
def rickyardref11_Right.f (fu : Nat) (a0 : S_api_Queue) : Option Bool := ((((rickyardref04_Right.f fu a0.Name : Option Bool).bind fun t9 => (if (!t9) = true then some (true) else (if (decide (a0.Count < 0)) = true then some (true) else some ((decide (a0.Count > 4095)))))) : Option Bool).bind fun x7 => (if x7 = true then some (false) else ((loopM (rickyardref11_Right.s0 fu a0) fu (a0.Count, 0)).bind fun e20 => match e20 with | Sum.inl p => some p | Sum.inr x23 => some (true))))
set_option maxRecDepth 100000 in
set_option maxHeartbeats 400000 in
theorem rickyardref11_Right.ok (fu : Nat) (w : World) (a0 : S_api_Queue) (r : Bool) (h : rickyardref11_Right.f fu a0 = some r) :
    Calls Try.prog 75 (([aggV [Seg.cell (sv a0.Name), Seg.cell (.int .i64 a0.Count), Kd.seg (kA 12 (kI .i64)) a0.Roots]] : List Value).toArray) w (fun e w' => ∃ v, e = .returned v ∧ v = .bool r ∧ Gr w w') := by
  unfold rickyardref11_Right.f at h
  have fB : Gr w w := Fr.refl _ _
  refine calls_cw Try.func75 rfl Try.ntmps75 rfl ?_
  refine cw_seq ?_
  refine cw_region ?_
  refine ol_op (by exact opv_box (ss := [Seg.cell (sv a0.Name), Seg.cell (.int .i64 a0.Count), Kd.seg (kA 12 (kI .i64)) a0.Roots]) rfl rfl rfl) rfl rfl rfl ?_
  rintro _ w6 ⟨G1, rfl, b2, q3, z4⟩
  have z4 := Nat.le_trans fB.size z4
  have fB := fB.gr q3
  refine ol_val (v := .bool false) (by exact xr_assign rfl rfl) rfl rfl rfl ?_
  refine ol_nil ?_
  refine cw_seq ?_
  refine cw_seq ?_
  obtain ⟨x7, j8, h⟩ := bs h
  refine cw_mid (fun ρ' w' => ρ' 1 = .pointer (some ⟨G1, 0, none⟩) ∧ ρ' 18 = .bool x7 ∧ Gr w6 w') ?_ ?_
  · skip
    refine cw_region ?_
    refine ol_val (v := .pointer (some ⟨G1, 0, none⟩)) (by exact xr_fieldAddr (p := 0) (q := 0) rfl fl98_0 rfl) rfl rfl rfl ?_
    refine ol_val (v := sv a0.Name) (by exact xr_load1 (v := sv a0.Name) rfl ag9 rfl (b2.seg 0 rfl rfl)) rfl rfl rfl ?_
    obtain ⟨t9, k10, j8⟩ := bs j8
    refine ol_op (by exact opv_call rfl cal117 (ac rfl an) (rickyardref04_Right.ok fu _ a0.Name _ k10)) rfl rfl rfl ?_
    rintro _ w12 ⟨rfl, q11⟩
    have b2 := b2.gr q11
    have fB := fB.gr q11
    refine ol_val (v := .bool (!t9)) (by exact xr_not rfl rfl) rfl rfl rfl ?_
    refine ol_val (v := .bool (!t9)) (by exact xr_move rfl rfl) rfl rfl rfl ?_
    rcases is j8 with ⟨c13, j8⟩ | ⟨c13, j8⟩
    · skip
      refine ol_gskip rfl rfl rfl rfl rfl c13 ?_
      refine ol_gskip rfl rfl rfl rfl rfl c13 ?_
      refine ol_gskip rfl rfl rfl rfl rfl c13 ?_
      refine ol_val (v := .bool true) (by exact xr_pickT rfl rfl c13 rfl) rfl rfl rfl ?_
      refine ol_val (v := .bool true) (by exact xr_move rfl rfl) rfl rfl rfl ?_
      refine ol_gskip rfl rfl rfl rfl rfl rfl ?_
      refine ol_gskip rfl rfl rfl rfl rfl rfl ?_
      refine ol_gskip rfl rfl rfl rfl rfl rfl ?_
      refine ol_val (v := .bool true) (by exact xr_pickT rfl rfl rfl rfl) rfl rfl rfl ?_
      refine ol_nil ?_
      obtain rfl := Option.some.inj j8
      refine thn_i ?_
      exact ⟨rfl, rfl, q11⟩
    · skip
      refine ol_gval (v := .pointer (some ⟨G1, 1, none⟩)) (by exact xr_fieldAddr (p := 0) (q := 1) rfl fl98_1 rfl) rfl rfl rfl rfl rfl c13 ?_
      refine ol_gval (v := .int .i64 a0.Count) (by exact xr_load1 (v := .int .i64 a0.Count) rfl ag3 rfl (b2.seg 1 rfl rfl)) rfl rfl rfl rfl rfl c13 ?_
      refine ol_gval (v := .bool (decide (a0.Count < 0))) (by exact xr_lss rfl rfl rfl) rfl rfl rfl rfl rfl c13 ?_
      refine ol_val (v := .bool (decide (a0.Count < 0))) (by exact xr_pickF rfl rfl c13 rfl) rfl rfl rfl ?_
      refine ol_val (v := .bool (decide (a0.Count < 0))) (by exact xr_move rfl rfl) rfl rfl rfl ?_
      rcases is j8 with ⟨c14, j8⟩ | ⟨c14, j8⟩
      · skip
        refine ol_gskip rfl rfl rfl rfl rfl c14 ?_
        refine ol_gskip rfl rfl rfl rfl rfl c14 ?_
        refine ol_gskip rfl rfl rfl rfl rfl c14 ?_
        refine ol_val (v := .bool true) (by exact xr_pickT rfl rfl c14 rfl) rfl rfl rfl ?_
        refine ol_nil ?_
        obtain rfl := Option.some.inj j8
        refine thn_i ?_
        exact ⟨rfl, rfl, q11⟩
      · skip
        refine ol_gval (v := .pointer (some ⟨G1, 1, none⟩)) (by exact xr_fieldAddr (p := 0) (q := 1) rfl fl98_1 rfl) rfl rfl rfl rfl rfl c14 ?_
        refine ol_gval (v := .int .i64 a0.Count) (by exact xr_load1 (v := .int .i64 a0.Count) rfl ag3 rfl (b2.seg 1 rfl rfl)) rfl rfl rfl rfl rfl c14 ?_
        refine ol_gval (v := .bool (decide (a0.Count > 4095))) (by exact xr_gtr rfl rfl rfl) rfl rfl rfl rfl rfl c14 ?_
        refine ol_val (v := .bool (decide (a0.Count > 4095))) (by exact xr_pickF rfl rfl c14 rfl) rfl rfl rfl ?_
        refine ol_nil ?_
        obtain rfl := Option.some.inj j8
        refine thn_i ?_
        exact ⟨rfl, rfl, q11⟩
  · skip
    rintro ρ15 w16 ⟨e1, e18, q17⟩
    have b2 := b2.gr q17
    have fB := fB.gr q17
    rcases is h with ⟨c18, h⟩ | ⟨c18, h⟩
    · refine cw_condT e18 c18 ?_
      refine cw_seq ?_
      refine cw_region ?_
      refine ol_val (v := .bool false) (by exact xr_assign rfl rfl) rfl rfl rfl ?_
      refine ol_nil ?_
      refine cw_ret ?_
      repeat (first | with_reducible refine thn_r ?_ | with_reducible refine blk_r ?_)
      obtain rfl := Option.some.inj h
      refine fin_ret1 Try.results75 rfl ?_
      exact ⟨_, rfl, rfl, fB⟩
    · refine cw_condF e18 c18 ?_
      refine cw_skip ?_
      refine cw_seq ?_
      refine cw_region ?_
      refine ol_val (v := .pointer (some ⟨G1, 1, none⟩)) (by exact xr_fieldAddr (p := 0) (q := 1) rfl fl98_1 e1) rfl rfl rfl ?_
      refine ol_val (v := .int .i64 a0.Count) (by exact xr_load1 (v := .int .i64 a0.Count) rfl ag3 rfl (b2.seg 1 rfl rfl)) rfl rfl rfl ?_
      refine ol_val (v := .int .i64 a0.Count) (by exact xr_assign rfl rfl) rfl rfl rfl ?_
      refine ol_nil ?_
      refine cw_seq ?_
      refine cw_seq ?_
      refine cw_region ?_
      refine ol_val (v := .int .i64 0) (by exact xr_assign rfl rfl) rfl rfl rfl ?_
      refine ol_nil ?_
      obtain ⟨e20, l21, h22⟩ := bs h
      refine cw_mid (fun ρ' w' => ∃ x23, e20 = Sum.inr x23 ∧ Gr w w') ?_ ?_
      · refine cw_block ?_
        refine cw_round (fun (s19 : Int × Int) ρ' w' => ρ' 1 = .pointer (some ⟨G1, 0, none⟩) ∧ ρ' 3 = .int .i64 s19.1 ∧ ρ' 4 = .int .i64 s19.2 ∧ Blk w' G1 98 [Seg.cell (sv a0.Name), Seg.cell (.int .i64 a0.Count), Kd.seg (kA 12 (kI .i64)) a0.Roots] ∧ Gr w w') l21 ?_ ?_
        · skip
          exact ⟨e1, rfl, rfl, b2, fB⟩
        · rintro s19 x26 ρ24 w25 ⟨e1, e3, e4, b2, fB⟩ h
          unfold rickyardref11_Right.s0 at h
          refine cw_seq ?_
          refine cw_seq ?_
          refine cw_region ?_
          refine ol_val (v := .int .i64 s19.2) (by exact xr_move rfl e4) rfl rfl rfl ?_
          refine ol_val (v := .bool (decide (s19.2 < 12))) (by exact xr_lss rfl rfl rfl) rfl rfl rfl ?_
          refine ol_nil ?_
          rcases is h with ⟨c27, h⟩ | ⟨c27, h⟩
          · refine cw_condT rfl c27 ?_
            refine cw_skip ?_
            refine cw_seq ?_
            refine cw_block ?_
            refine cw_seq ?_
            refine cw_seq ?_
            obtain ⟨x28, j29, h⟩ := bs h
            refine cw_mid (fun ρ' w' => ρ' 1 = .pointer (some ⟨G1, 0, none⟩) ∧ ρ' 3 = .int .i64 s19.1 ∧ ρ' 4 = .int .i64 s19.2 ∧ ρ' 47 = .bool x28 ∧ Gr w25 w') ?_ ?_
            · skip
              refine cw_region ?_
              refine ol_val (v := .int .i64 s19.1) (by exact xr_move rfl e3) rfl rfl rfl ?_
              refine ol_val (v := .int .i64 (Int.tmod s19.1 2)) (by exact xr_rem rfl rfl rfl (by decide)) rfl rfl rfl ?_
              refine ol_val (v := .bool (decide ((Int.tmod s19.1 2) = 0))) (by exact xr_eqI rfl Try.underlying3 rfl rfl rfl) rfl rfl rfl ?_
              refine ol_val (v := .bool (decide ((Int.tmod s19.1 2) = 0))) (by exact xr_move rfl rfl) rfl rfl rfl ?_
              rcases is j29 with ⟨c30, j29⟩ | ⟨c30, j29⟩
              · skip
                refine ol_gval (v := .int .i64 s19.2) (by exact xr_move rfl e4) rfl rfl rfl rfl rfl c30 ?_
                refine ol_gval (v := .pointer (some ⟨G1, 2, none⟩)) (by exact xr_fieldAddr (p := 0) (q := 2) rfl fl98_2 e1) rfl rfl rfl rfl rfl c30 ?_
                obtain ⟨g31, j29⟩ := gs j29
                refine ol_gval (v := .pointer (some ⟨G1, 2 + Int.toNat s19.2 * 1, none⟩)) (by exact xr_indexA (p := 2) (s := 1) rfl Try.underlying96 sz3 rfl rfl g31.1 g31.2) rfl rfl rfl rfl rfl c30 ?_
                refine ol_gval (v := .int .i64 (Arr.get a0.Roots s19.2)) (by exact xr_load1 (v := .int .i64 (Arr.get a0.Roots s19.2)) rfl ag3 rfl (At.arr (a := a0.Roots) (b2.seg 2 rfl rfl) g31.1 g31.2)) rfl rfl rfl rfl rfl c30 ?_
                refine ol_gval (v := .bool (!decide ((Arr.get a0.Roots s19.2) = 0))) (by exact xr_neI rfl Try.underlying3 rfl rfl rfl) rfl rfl rfl rfl rfl c30 ?_
                refine ol_val (v := .bool (!decide ((Arr.get a0.Roots s19.2) = 0))) (by exact xr_pickT rfl rfl c30 rfl) rfl rfl rfl ?_
                refine ol_val (v := .bool (!decide ((Arr.get a0.Roots s19.2) = 0))) (by exact xr_move rfl rfl) rfl rfl rfl ?_
                rcases is j29 with ⟨c32, j29⟩ | ⟨c32, j29⟩
                · skip
                  refine ol_gskip rfl rfl rfl rfl rfl c32 ?_
                  refine ol_gskip rfl rfl rfl rfl rfl c32 ?_
                  refine ol_gskip rfl rfl rfl rfl rfl c32 ?_
                  refine ol_gskip rfl rfl rfl rfl rfl c32 ?_
                  refine ol_uskip rfl rfl rfl rfl rfl ?_
                  refine ol_uskip rfl rfl rfl rfl rfl ?_
                  refine ol_uskip rfl rfl rfl rfl rfl ?_
                  refine ol_uskip rfl rfl rfl rfl rfl ?_
                  refine ol_uskip rfl rfl rfl rfl rfl ?_
                  refine ol_uskip rfl rfl rfl rfl rfl ?_
                  refine ol_gskip rfl rfl rfl rfl rfl c32 ?_
                  refine ol_val (v := .bool true) (by exact xr_pickT rfl rfl c32 rfl) rfl rfl rfl ?_
                  refine ol_nil ?_
                  obtain rfl := Option.some.inj j29
                  refine thn_i ?_
                  exact ⟨e1, e3, e4, rfl, Fr.refl _ _⟩
                · skip
                  refine ol_gval (v := .int .i64 s19.1) (by exact xr_move rfl e3) rfl rfl rfl rfl rfl c32 ?_
                  refine ol_gval (v := .int .i64 (Int.tmod s19.1 2)) (by exact xr_rem rfl rfl rfl (by decide)) rfl rfl rfl rfl rfl c32 ?_
                  refine ol_gval (v := .bool (decide ((Int.tmod s19.1 2) = 1))) (by exact xr_eqI rfl Try.underlying3 rfl rfl rfl) rfl rfl rfl rfl rfl c32 ?_
                  refine ol_gval (v := .bool (decide ((Int.tmod s19.1 2) = 1))) (by exact xr_move rfl rfl) rfl rfl rfl rfl rfl c32 ?_
                  rcases is j29 with ⟨c33, j29⟩ | ⟨c33, j29⟩
                  · skip
                    refine ol_gval (v := .int .i64 s19.2) (by exact xr_move rfl e4) rfl rfl rfl rfl rfl c33 ?_
                    refine ol_gval (v := .pointer (some ⟨G1, 2, none⟩)) (by exact xr_fieldAddr (p := 0) (q := 2) rfl fl98_2 e1) rfl rfl rfl rfl rfl c33 ?_
                    obtain ⟨g34, j29⟩ := gs j29
                    refine ol_gval (v := .pointer (some ⟨G1, 2 + Int.toNat s19.2 * 1, none⟩)) (by exact xr_indexA (p := 2) (s := 1) rfl Try.underlying96 sz3 rfl rfl g34.1 g34.2) rfl rfl rfl rfl rfl c33 ?_
                    refine ol_gval (v := .int .i64 (Arr.get a0.Roots s19.2)) (by exact xr_load1 (v := .int .i64 (Arr.get a0.Roots s19.2)) rfl ag3 rfl (At.arr (a := a0.Roots) (b2.seg 2 rfl rfl) g34.1 g34.2)) rfl rfl rfl rfl rfl c33 ?_
                    obtain ⟨t35, k36, j29⟩ := bs j29
                    refine ol_gop (by exact opv_call rfl cal107 (ac rfl an) (rickyardref08_Block.ok fu _ (Arr.get a0.Roots s19.2) _ k36)) rfl rfl rfl rfl rfl c33 ?_
                    rintro _ w38 ⟨rfl, q37⟩
                    have b2 := b2.gr q37
                    have fB := fB.gr q37
                    refine ol_gval (v := .bool (!t35)) (by exact xr_not rfl rfl) rfl rfl rfl rfl rfl c33 ?_
                    refine ol_gval (v := .bool (!t35)) (by exact xr_pickT rfl rfl c33 rfl) rfl rfl rfl rfl rfl c32 ?_
                    refine ol_val (v := .bool (!t35)) (by exact xr_pickF rfl rfl c32 rfl) rfl rfl rfl ?_
                    refine ol_nil ?_
                    obtain rfl := Option.some.inj j29
                    refine thn_i ?_
                    exact ⟨e1, e3, e4, rfl, q37⟩
                  · skip
                    refine ol_gskip rfl rfl rfl rfl rfl c33 ?_
                    refine ol_gskip rfl rfl rfl rfl rfl c33 ?_
                    refine ol_gskip rfl rfl rfl rfl rfl c33 ?_
                    refine ol_gskip rfl rfl rfl rfl rfl c33 ?_
                    refine ol_gskip rfl rfl rfl rfl rfl c33 ?_
                    refine ol_gskip rfl rfl rfl rfl rfl c33 ?_
                    refine ol_gval (v := .bool false) (by exact xr_pickF rfl rfl c33 rfl) rfl rfl rfl rfl rfl c32 ?_
                    refine ol_val (v := .bool false) (by exact xr_pickF rfl rfl c32 rfl) rfl rfl rfl ?_
                    refine ol_nil ?_
                    obtain rfl := Option.some.inj j29
                    refine thn_i ?_
                    exact ⟨e1, e3, e4, rfl, Fr.refl _ _⟩
              · skip
                refine ol_gskip rfl rfl rfl rfl rfl c30 ?_
                refine ol_gskip rfl rfl rfl rfl rfl c30 ?_
                refine ol_gskip rfl rfl rfl rfl rfl c30 ?_
                refine ol_gskip rfl rfl rfl rfl rfl c30 ?_
                refine ol_gskip rfl rfl rfl rfl rfl c30 ?_
                refine ol_val (v := .bool false) (by exact xr_pickF rfl rfl c30 rfl) rfl rfl rfl ?_
                refine ol_val (v := .bool false) (by exact xr_move rfl rfl) rfl rfl rfl ?_
                refine ol_gval (v := .int .i64 s19.1) (by exact xr_move rfl e3) rfl rfl rfl rfl rfl rfl ?_
                refine ol_gval (v := .int .i64 (Int.tmod s19.1 2)) (by exact xr_rem rfl rfl rfl (by decide)) rfl rfl rfl rfl rfl rfl ?_
                refine ol_gval (v := .bool (decide ((Int.tmod s19.1 2) = 1))) (by exact xr_eqI rfl Try.underlying3 rfl rfl rfl) rfl rfl rfl rfl rfl rfl ?_
                refine ol_gval (v := .bool (decide ((Int.tmod s19.1 2) = 1))) (by exact xr_move rfl rfl) rfl rfl rfl rfl rfl rfl ?_
                rcases is j29 with ⟨c39, j29⟩ | ⟨c39, j29⟩
                · skip
                  refine ol_gval (v := .int .i64 s19.2) (by exact xr_move rfl e4) rfl rfl rfl rfl rfl c39 ?_
                  refine ol_gval (v := .pointer (some ⟨G1, 2, none⟩)) (by exact xr_fieldAddr (p := 0) (q := 2) rfl fl98_2 e1) rfl rfl rfl rfl rfl c39 ?_
                  obtain ⟨g40, j29⟩ := gs j29
                  refine ol_gval (v := .pointer (some ⟨G1, 2 + Int.toNat s19.2 * 1, none⟩)) (by exact xr_indexA (p := 2) (s := 1) rfl Try.underlying96 sz3 rfl rfl g40.1 g40.2) rfl rfl rfl rfl rfl c39 ?_
                  refine ol_gval (v := .int .i64 (Arr.get a0.Roots s19.2)) (by exact xr_load1 (v := .int .i64 (Arr.get a0.Roots s19.2)) rfl ag3 rfl (At.arr (a := a0.Roots) (b2.seg 2 rfl rfl) g40.1 g40.2)) rfl rfl rfl rfl rfl c39 ?_
                  obtain ⟨t41, k42, j29⟩ := bs j29
                  refine ol_gop (by exact opv_call rfl cal107 (ac rfl an) (rickyardref08_Block.ok fu _ (Arr.get a0.Roots s19.2) _ k42)) rfl rfl rfl rfl rfl c39 ?_
                  rintro _ w44 ⟨rfl, q43⟩
                  have b2 := b2.gr q43
                  have fB := fB.gr q43
                  refine ol_gval (v := .bool (!t41)) (by exact xr_not rfl rfl) rfl rfl rfl rfl rfl c39 ?_
                  refine ol_gval (v := .bool (!t41)) (by exact xr_pickT rfl rfl c39 rfl) rfl rfl rfl rfl rfl rfl ?_
                  refine ol_val (v := .bool (!t41)) (by exact xr_pickF rfl rfl rfl rfl) rfl rfl rfl ?_
                  refine ol_nil ?_
                  obtain rfl := Option.some.inj j29
                  refine thn_i ?_
                  exact ⟨e1, e3, e4, rfl, q43⟩
                · skip
                  refine ol_gskip rfl rfl rfl rfl rfl c39 ?_
                  refine ol_gskip rfl rfl rfl rfl rfl c39 ?_
                  refine ol_gskip rfl rfl rfl rfl rfl c39 ?_
                  refine ol_gskip rfl rfl rfl rfl rfl c39 ?_
                  refine ol_gskip rfl rfl rfl rfl rfl c39 ?_
                  refine ol_gskip rfl rfl rfl rfl rfl c39 ?_
                  refine ol_gval (v := .bool false) (by exact xr_pickF rfl rfl c39 rfl) rfl rfl rfl rfl rfl rfl ?_
                  refine ol_val (v := .bool false) (by exact xr_pickF rfl rfl rfl rfl) rfl rfl rfl ?_
                  refine ol_nil ?_
                  obtain rfl := Option.some.inj j29
                  refine thn_i ?_
                  exact ⟨e1, e3, e4, rfl, Fr.refl _ _⟩
            · skip
              rintro ρ45 w46 ⟨e1, e3, e4, e47, q47⟩
              have b2 := b2.gr q47
              have fB := fB.gr q47
              rcases is h with ⟨c48, h⟩ | ⟨c48, h⟩
              · refine cw_condT e47 c48 ?_
                refine cw_seq ?_
                refine cw_region ?_
                refine ol_val (v := .bool false) (by exact xr_assign rfl rfl) rfl rfl rfl ?_
                refine ol_nil ?_
                refine cw_ret ?_
                repeat (first | with_reducible refine thn_r ?_ | with_reducible refine blk_r ?_)
                obtain rfl := Option.some.inj h
                refine lp_ret ?_
                rintro rfl
                repeat (first | with_reducible refine thn_r ?_ | with_reducible refine blk_r ?_)
                have h := h22
                obtain rfl := Option.some.inj h
                refine fin_ret1 Try.results75 rfl ?_
                exact ⟨_, rfl, rfl, fB⟩
              · refine cw_condF e47 c48 ?_
                refine cw_skip ?_
                refine cw_region ?_
                refine ol_val (v := .int .i64 s19.1) (by exact xr_move rfl e3) rfl rfl rfl ?_
                refine ol_val (v := .int .i64 (IntKind.i64.wrap (Int.tdiv s19.1 2))) (by exact xr_quo rfl rfl rfl (by decide)) rfl rfl rfl ?_
                refine ol_val (v := .int .i64 (IntKind.i64.wrap (Int.tdiv s19.1 2))) (by exact xr_assign rfl rfl) rfl rfl rfl ?_
                refine ol_nil ?_
                refine blk_i ?_
                refine cw_region ?_
                refine ol_val (v := .int .i64 s19.2) (by exact xr_move rfl e4) rfl rfl rfl ?_
                refine ol_val (v := .int .i64 (IntKind.i64.wrap (s19.2 + 1))) (by exact xr_add rfl rfl rfl) rfl rfl rfl ?_
                refine ol_val (v := .int .i64 (IntKind.i64.wrap (s19.2 + 1))) (by exact xr_assign rfl rfl) rfl rfl rfl ?_
                refine ol_nil ?_
                obtain rfl := Option.some.inj h
                refine lp_in ?_
                exact ⟨e1, rfl, rfl, b2, fB⟩
          · refine cw_condF rfl c27 ?_
            refine cw_exit ?_
            repeat (first | with_reducible refine thn_e ?_ | with_reducible refine blk_e rfl ?_)
            obtain rfl := Option.some.inj h
            refine lp_exit ?_
            rintro rfl
            refine thn_x ?_
            exact ⟨_, rfl, fB⟩
      · rintro ρ49 w50 ⟨x23, rfl, fB⟩
        have h := h22
        refine cw_seq ?_
        refine cw_region ?_
        refine ol_val (v := .bool true) (by exact xr_assign rfl rfl) rfl rfl rfl ?_
        refine ol_nil ?_
        refine cw_ret ?_
        repeat (first | with_reducible refine thn_r ?_ | with_reducible refine blk_r ?_)
        obtain rfl := Option.some.inj h
        refine fin_ret1 Try.results75 rfl ?_
        exact ⟨_, rfl, rfl, fB⟩
end Go.Proofs.Ytjhajfkfhdnciaa

/- rickyard/rickyardref11.Put: its model, and that the Go function computes it: written by gen.py. -/
set_option linter.unusedVariables false
namespace Go.Proofs.Ytjhajfkfhdnciaa
open Go Go.Xw
def rickyardref11_Put.s0 (fu : Nat) (a0 : S_api_Queue) : ((List UInt8) × Int) → Option (Sum (List UInt8) ((List UInt8) × Int)) := fun s11 => (if (decide (s11.2 < 12)) = true then (if 0 ≤ s11.2 ∧ s11.2 < 12 then ((rickyardref01_Lay.f fu (IntKind.u64.wrap (Arr.get a0.Roots s11.2)) 2 : Option (List UInt8)).bind fun t20 => (if List.length s11.1 + List.length t20 ≤ LIM then some (Sum.inr ((s11.1 ++ t20), (IntKind.i64.wrap (s11.2 + 1)))) else none)) else none) else some (Sum.inl (s11.1)))
def rickyardref11_Put.f (fu : Nat) (a0 : S_api_Queue) : Option (List UInt8) := ((rickyardref01_Lay.f fu (IntKind.u64.wrap a0.Count) 4 : Option (List UInt8)).bind fun t7 => ((loopM (rickyardref11_Put.s0 fu a0) fu (t7, 0)).bind fun e12 => (if List.length e12 + List.length a0.Name ≤ LIM then ((rickyardref07_Seal.f fu 5 (List.length a0.Name : Int) (e12 ++ a0.Name) : Option (List UInt8)).bind fun t28 => some (t28)) else none)))
set_option maxRecDepth 100000 in
set_option maxHeartbeats 400000 in
theorem rickyardref11_Put.ok (fu : Nat) (w : World) (a0 : S_api_Queue) (r : (List UInt8)) (h : rickyardref11_Put.f fu a0 = some r) :
    Calls Try.prog 78 (([aggV [Seg.cell (sv a0.Name), Seg.cell (.int .i64 a0.Count), Kd.seg (kA 12 (kI .i64)) a0.Roots]] : List Value).toArray) w (fun e w' => ∃ v, e = .returned v ∧ v = sv r ∧ Gr w w') := by
  unfold rickyardref11_Put.f at h
  have fB : Gr w w := Fr.refl _ _
  refine calls_cw Try.func78 rfl Try.ntmps78 rfl ?_
  refine cw_seq ?_
  refine cw_region ?_
  refine ol_op (by exact opv_box (ss := [Seg.cell (sv a0.Name), Seg.cell (.int .i64 a0.Count), Kd.seg (kA 12 (kI .i64)) a0.Roots]) rfl rfl rfl) rfl rfl rfl ?_
  rintro _ w6 ⟨G1, rfl, b2, q3, z4⟩
  have z4 := Nat.le_trans fB.size z4
  have fB := fB.gr q3
  refine ol_val (v := sv []) (by exact xr_assign rfl rfl) rfl rfl rfl ?_
  refine ol_nil ?_
  refine cw_seq ?_
  refine cw_region ?_
  refine ol_val (v := .pointer (some ⟨G1, 1, none⟩)) (by exact xr_fieldAddr (p := 0) (q := 1) rfl fl98_1 rfl) rfl rfl rfl ?_
  refine ol_val (v := .int .i64 a0.Count) (by exact xr_load1 (v := .int .i64 a0.Count) rfl ag3 rfl (b2.seg 1 rfl rfl)) rfl rfl rfl ?_
  refine ol_val (v := .int .u64 (IntKind.u64.wrap a0.Count)) (by exact xr_conv rfl Try.underlying3 Try.underlying129 rfl) rfl rfl rfl ?_
  obtain ⟨t7, k8, h⟩ := bs h
  refine ol_op (by exact opv_call rfl cal99 (ac rfl (ac rfl an)) (rickyardref01_Lay.ok fu _ (IntKind.u64.wrap a0.Count) 4 _ k8)) rfl rfl rfl ?_
  rintro _ w10 ⟨rfl, q9⟩
  have b2 := b2.gr q9
  have fB := fB.gr q9
  refine ol_val (v := sv t7) (by exact xr_assign rfl rfl) rfl rfl rfl ?_
  refine ol_nil ?_
  refine cw_seq ?_
  refine cw_seq ?_
  refine cw_region ?_
  refine ol_val (v := .int .i64 0) (by exact xr_assign rfl rfl) rfl rfl rfl ?_
  refine ol_nil ?_
  obtain ⟨e12, l13, h14⟩ := bs h
  refine cw_mid (fun ρ' w' => ρ' 1 = .pointer (some ⟨G1, 0, none⟩) ∧ ρ' 3 = sv e12 ∧ Blk w' G1 98 [Seg.cell (sv a0.Name), Seg.cell (.int .i64 a0.Count), Kd.seg (kA 12 (kI .i64)) a0.Roots] ∧ Gr w w') ?_ ?_
  · refine cw_block ?_
    refine cw_round (fun (s11 : (List UInt8) × Int) ρ' w' => ρ' 1 = .pointer (some ⟨G1, 0, none⟩) ∧ ρ' 3 = sv s11.1 ∧ ρ' 4 = .int .i64 s11.2 ∧ Blk w' G1 98 [Seg.cell (sv a0.Name), Seg.cell (.int .i64 a0.Count), Kd.seg (kA 12 (kI .i64)) a0.Roots] ∧ Gr w w') l13 ?_ ?_
    · skip
      exact ⟨rfl, rfl, rfl, b2, fB⟩
    · rintro s11 x17 ρ15 w16 ⟨e1, e3, e4, b2, fB⟩ h
      unfold rickyardref11_Put.s0 at h
      refine cw_seq ?_
      refine cw_seq ?_
      refine cw_region ?_
      refine ol_val (v := .int .i64 s11.2) (by exact xr_move rfl e4) rfl rfl rfl ?_
      refine ol_val (v := .bool (decide (s11.2 < 12))) (by exact xr_lss rfl rfl rfl) rfl rfl rfl ?_
      refine ol_nil ?_
      rcases is h with ⟨c18, h⟩ | ⟨c18, h⟩
      · refine cw_condT rfl c18 ?_
        refine cw_skip ?_
        refine cw_seq ?_
        refine cw_block ?_
        refine cw_region ?_
        refine ol_val (v := sv s11.1) (by exact xr_move rfl e3) rfl rfl rfl ?_
        refine ol_val (v := .int .i64 s11.2) (by exact xr_move rfl e4) rfl rfl rfl ?_
        refine ol_val (v := .pointer (some ⟨G1, 2, none⟩)) (by exact xr_fieldAddr (p := 0) (q := 2) rfl fl98_2 e1) rfl rfl rfl ?_
        obtain ⟨g19, h⟩ := gs h
        refine ol_val (v := .pointer (some ⟨G1, 2 + Int.toNat s11.2 * 1, none⟩)) (by exact xr_indexA (p := 2) (s := 1) rfl Try.underlying96 sz3 rfl rfl g19.1 g19.2) rfl rfl rfl ?_
        refine ol_val (v := .int .i64 (Arr.get a0.Roots s11.2)) (by exact xr_load1 (v := .int .i64 (Arr.get a0.Roots s11.2)) rfl ag3 rfl (At.arr (a := a0.Roots) (b2.seg 2 rfl rfl) g19.1 g19.2)) rfl rfl rfl ?_
        refine ol_val (v := .int .u64 (IntKind.u64.wrap (Arr.get a0.Roots s11.2))) (by exact xr_conv rfl Try.underlying3 Try.underlying129 rfl) rfl rfl rfl ?_
        obtain ⟨t20, k21, h⟩ := bs h
        refine ol_op (by exact opv_call rfl cal99 (ac rfl (ac rfl an)) (rickyardref01_Lay.ok fu _ (IntKind.u64.wrap (Arr.get a0.Roots s11.2)) 2 _ k21)) rfl rfl rfl ?_
        rintro _ w23 ⟨rfl, q22⟩
        have b2 := b2.gr q22
        have fB := fB.gr q22
        obtain ⟨g24, h⟩ := gs h
        refine ol_val (v := sv (s11.1 ++ t20)) (by exact xr_addStr rfl rfl rfl g24) rfl rfl rfl ?_
        refine ol_val (v := sv (s11.1 ++ t20)) (by exact xr_assign rfl rfl) rfl rfl rfl ?_
        refine ol_nil ?_
        refine blk_i ?_
        refine cw_region ?_
        refine ol_val (v := .int .i64 s11.2) (by exact xr_move rfl e4) rfl rfl rfl ?_
        refine ol_val (v := .int .i64 (IntKind.i64.wrap (s11.2 + 1))) (by exact xr_add rfl rfl rfl) rfl rfl rfl ?_
        refine ol_val (v := .int .i64 (IntKind.i64.wrap (s11.2 + 1))) (by exact xr_assign rfl rfl) rfl rfl rfl ?_
        refine ol_nil ?_
        obtain rfl := Option.some.inj h
        refine lp_in ?_
        exact ⟨e1, rfl, rfl, b2, fB⟩
      · refine cw_condF rfl c18 ?_
        refine cw_exit ?_
        repeat (first | with_reducible refine thn_e ?_ | with_reducible refine blk_e rfl ?_)
        obtain rfl := Option.some.inj h
        refine lp_exit ?_
        rintro rfl
        refine thn_x ?_
        exact ⟨e1, e3, b2, fB⟩
  · rintro ρ25 w26 ⟨e1, e3, b2, fB⟩
    have h := h14
    refine cw_seq ?_
    refine cw_region ?_
    refine ol_val (v := .pointer (some ⟨G1, 0, none⟩)) (by exact xr_fieldAddr (p := 0) (q := 0) rfl fl98_0 e1) rfl rfl rfl ?_
    refine ol_val (v := sv a0.Name) (by exact xr_load1 (v := sv a0.Name) rfl ag9 rfl (b2.seg 0 rfl rfl)) rfl rfl rfl ?_
    refine ol_val (v := .int .i64 (List.length a0.Name : Int)) (by exact xr_lenStr rfl Try.underlying9 rfl) rfl rfl rfl ?_
    refine ol_val (v := sv e12) (by exact xr_move rfl e3) rfl rfl rfl ?_
    refine ol_val (v := .pointer (some ⟨G1, 0, none⟩)) (by exact xr_fieldAddr (p := 0) (q := 0) rfl fl98_0 e1) rfl rfl rfl ?_
    refine ol_val (v := sv a0.Name) (by exact xr_load1 (v := sv a0.Name) rfl ag9 rfl (b2.seg 0 rfl rfl)) rfl rfl rfl ?_
    obtain ⟨g27, h⟩ := gs h
    refine ol_val (v := sv (e12 ++ a0.Name)) (by exact xr_addStr rfl rfl rfl g27) rfl rfl rfl ?_
    obtain ⟨t28, k29, h⟩ := bs h
    refine ol_op (by exact opv_call rfl cal30 (ac rfl (ac rfl (ac rfl an))) (rickyardref07_Seal.ok fu _ 5 (List.length a0.Name : Int) (e12 ++ a0.Name) _ k29)) rfl rfl rfl ?_
    rintro _ w31 ⟨rfl, q30⟩
    have fB := fB.gr q30
    refine ol_val (v := sv t28) (by exact xr_assign rfl rfl) rfl rfl rfl ?_
    refine ol_nil ?_
    refine cw_ret ?_
    repeat (first | with_reducible refine thn_r ?_ | with_reducible refine blk_r ?_)
    obtain rfl := Option.some.inj h
    refine fin_ret1 Try.results78 rfl ?_
    exact ⟨_, rfl, rfl, fB⟩
end Go.Proofs.Ytjhajfkfhdnciaa

/- rickyard/rickyardref01.Number: its model, and that the Go function computes it: written by gen.py. -/
set_option linter.unusedVariables false
namespace Go.Proofs.Ytjhajfkfhdnciaa
open Go Go.Xw
def rickyardref01_Number.s0 (fu : Nat) (a0 : List UInt8) : (Int × Int) → Option (Sum Int (Int × Int)) := fun s1 => (if (decide (s1.2 ≥ 0)) = true then (((if (decide (s1.2 < 8)) = true then (if 0 ≤ s1.2 ∧ s1.2 < (List.length a0 : Int) then some ((IntKind.u64.wrap ((IntKind.u64.wrap (s1.1 * 256)) + (IntKind.u64.wrap (ofB (List.getD a0 (Int.toNat s1.2) 0)))))) else none) else some (s1.1)) : Option Int).bind fun x9 => some (Sum.inr (x9, (IntKind.i64.wrap (s1.2 - 1))))) else some (Sum.inl (s1.1)))
def rickyardref01_Number.f (fu : Nat) (a0 : List UInt8) : Option Int := ((loopM (rickyardref01_Number.s0 fu a0) fu (0, (IntKind.i64.wrap ((List.length a0 : Int) - 1)))).bind fun e2 => some (e2))
set_option maxRecDepth 100000 in
set_option maxHeartbeats 400000 in
theorem rickyardref01_Number.ok (fu : Nat) (w : World) (a0 : List UInt8) (r : Int) (h : rickyardref01_Number.f fu a0 = some r) :
    Calls Try.prog 136 (([sv a0] : List Value).toArray) w (fun e w' => ∃ v, e = .returned v ∧ v = .int .u64 r ∧ Gr w w') := by
  unfold rickyardref01_Number.f at h
  have fB : Gr w w := Fr.refl _ _
  refine calls_cw Try.func136 rfl Try.ntmps136 rfl ?_
  refine cw_seq ?_
  refine cw_region ?_
  refine ol_val (v := .int .u64 0) (by exact xr_assign rfl rfl) rfl rfl rfl ?_
  refine ol_nil ?_
  refine cw_seq ?_
  refine cw_region ?_
  refine ol_val (v := .int .u64 0) (by exact xr_assign rfl rfl) rfl rfl rfl ?_
  refine ol_nil ?_
  refine cw_seq ?_
  refine cw_seq ?_
  refine cw_region ?_
  refine ol_val (v := sv a0) (by exact xr_move rfl rfl) rfl rfl rfl ?_
  refine ol_val (v := .int .i64 (List.length a0 : Int)) (by exact xr_lenStr rfl Try.underlying9 rfl) rfl rfl rfl ?_
  refine ol_val (v := .int .i64 (IntKind.i64.wrap ((List.length a0 : Int) - 1))) (by exact xr_sub rfl rfl rfl) rfl rfl rfl ?_
  refine ol_val (v := .int .i64 (IntKind.i64.wrap ((List.length a0 : Int) - 1))) (by exact xr_assign rfl rfl) rfl rfl rfl ?_
  refine ol_nil ?_
  obtain ⟨e2, l3, h4⟩ := bs h
  refine cw_mid (fun ρ' w' => ρ' 3 = .int .u64 e2 ∧ Gr w w') ?_ ?_
  · refine cw_block ?_
    refine cw_round (fun (s1 : Int × Int) ρ' w' => ρ' 0 = sv a0 ∧ ρ' 3 = .int .u64 s1.1 ∧ ρ' 4 = .int .i64 s1.2 ∧ Gr w w') l3 ?_ ?_
    · skip
      exact ⟨rfl, rfl, rfl, fB⟩
    · rintro s1 x7 ρ5 w6 ⟨e0, e3, e4, fB⟩ h
      unfold rickyardref01_Number.s0 at h
      refine cw_seq ?_
      refine cw_seq ?_
      refine cw_region ?_
      refine ol_val (v := .int .i64 s1.2) (by exact xr_move rfl e4) rfl rfl rfl ?_
      refine ol_val (v := .bool (decide (s1.2 ≥ 0))) (by exact xr_geq rfl rfl rfl) rfl rfl rfl ?_
      refine ol_nil ?_
      rcases is h with ⟨c8, h⟩ | ⟨c8, h⟩
      · refine cw_condT rfl c8 ?_
        refine cw_skip ?_
        refine cw_seq ?_
        refine cw_block ?_
        refine cw_seq ?_
        refine cw_region ?_
        refine ol_val (v := .int .i64 s1.2) (by exact xr_move rfl e4) rfl rfl rfl ?_
        refine ol_val (v := .bool (decide (s1.2 < 8))) (by exact xr_lss rfl rfl rfl) rfl rfl rfl ?_
        refine ol_nil ?_
        obtain ⟨x9, j10, h11⟩ := bs h
        refine cw_mid (fun ρ' w' => ρ' 0 = sv a0 ∧ ρ' 3 = .int .u64 x9 ∧ ρ' 4 = .int .i64 s1.2 ∧ Gr w w') ?_ ?_
        · have h := j10
          rcases is h with ⟨c12, h⟩ | ⟨c12, h⟩
          · refine cw_condT rfl c12 ?_
            refine cw_region ?_
            refine ol_val (v := .int .u64 s1.1) (by exact xr_move rfl e3) rfl rfl rfl ?_
            refine ol_val (v := .int .u64 (IntKind.u64.wrap (s1.1 * 256))) (by exact xr_mul rfl rfl rfl) rfl rfl rfl ?_
            refine ol_val (v := sv a0) (by exact xr_move rfl e0) rfl rfl rfl ?_
            refine ol_val (v := .int .i64 s1.2) (by exact xr_move rfl e4) rfl rfl rfl ?_
            obtain ⟨g13, h⟩ := gs h
            refine ol_val (v := .int .u8 (ofB (List.getD a0 (Int.toNat s1.2) 0))) (by exact xr_indexStr rfl Try.underlying9 rfl rfl g13.1 g13.2) rfl rfl rfl ?_
            refine ol_val (v := .int .u64 (IntKind.u64.wrap (ofB (List.getD a0 (Int.toNat s1.2) 0)))) (by exact xr_conv rfl Try.underlying5 Try.underlying129 rfl) rfl rfl rfl ?_
            refine ol_val (v := .int .u64 (IntKind.u64.wrap ((IntKind.u64.wrap (s1.1 * 256)) + (IntKind.u64.wrap (ofB (List.getD a0 (Int.toNat s1.2) 0)))))) (by exact xr_add rfl rfl rfl) rfl rfl rfl ?_
            refine ol_val (v := .int .u64 (IntKind.u64.wrap ((IntKind.u64.wrap (s1.1 * 256)) + (IntKind.u64.wrap (ofB (List.getD a0 (Int.toNat s1.2) 0)))))) (by exact xr_assign rfl rfl) rfl rfl rfl ?_
            refine ol_nil ?_
            obtain rfl := Option.some.inj h
            refine thn_i ?_
            exact ⟨e0, rfl, e4, fB⟩
          · refine cw_condF rfl c12 ?_
            refine cw_skip ?_
            obtain rfl := Option.some.inj h
            refine thn_i ?_
            exact ⟨e0, e3, e4, fB⟩
        · rintro ρ14 w15 ⟨e0, e3, e4, fB⟩
          have h := h11
          refine blk_i ?_
          refine cw_region ?_
          refine ol_val (v := .int .i64 s1.2) (by exact xr_move rfl e4) rfl rfl rfl ?_
          refine ol_val (v := .int .i64 (IntKind.i64.wrap (s1.2 - 1))) (by exact xr_sub rfl rfl rfl) rfl rfl rfl ?_
          refine ol_val (v := .int .i64 (IntKind.i64.wrap (s1.2 - 1))) (by exact xr_assign rfl rfl) rfl rfl rfl ?_
          refine ol_nil ?_
          obtain rfl := Option.some.inj h
          refine lp_in ?_
          exact ⟨e0, e3, rfl, fB⟩
      · refine cw_condF rfl c8 ?_
        refine cw_exit ?_
        repeat (first | with_reducible refine thn_e ?_ | with_reducible refine blk_e rfl ?_)
        obtain rfl := Option.some.inj h
        refine lp_exit ?_
        rintro rfl
        refine thn_x ?_
        exact ⟨e3, fB⟩
  · rintro ρ16 w17 ⟨e3, fB⟩
    have h := h4
    refine cw_seq ?_
    refine cw_region ?_
    refine ol_val (v := .int .u64 e2) (by exact xr_move rfl e3) rfl rfl rfl ?_
    refine ol_val (v := .int .u64 e2) (by exact xr_assign rfl rfl) rfl rfl rfl ?_
    refine ol_nil ?_
    refine cw_ret ?_
    repeat (first | with_reducible refine thn_r ?_ | with_reducible refine blk_r ?_)
    obtain rfl := Option.some.inj h
    refine fin_ret1 Try.results136 rfl ?_
    exact ⟨_, rfl, rfl, fB⟩
end Go.Proofs.Ytjhajfkfhdnciaa

/- rickyard/rickyardref01.Int: its model, and that the Go function computes it: written by gen.py. -/
set_option linter.unusedVariables false
namespace Go.Proofs.Ytjhajfkfhdnciaa
open Go Go.Xw
def rickyardref01_Int.f (fu : Nat) (a0 : List UInt8) : Option Int := ((rickyardref01_Number.f fu a0 : Option Int).bind fun t1 => some ((IntKind.i64.wrap t1)))
set_option maxRecDepth 100000 in
set_option maxHeartbeats 400000 in
theorem rickyardref01_Int.ok (fu : Nat) (w : World) (a0 : List UInt8) (r : Int) (h : rickyardref01_Int.f fu a0 = some r) :
    Calls Try.prog 103 (([sv a0] : List Value).toArray) w (fun e w' => ∃ v, e = .returned v ∧ v = .int .i64 r ∧ Gr w w') := by
  unfold rickyardref01_Int.f at h
  have fB : Gr w w := Fr.refl _ _
  refine calls_cw Try.func103 rfl Try.ntmps103 rfl ?_
  refine cw_seq ?_
  refine cw_region ?_
  refine ol_val (v := .int .i64 0) (by exact xr_assign rfl rfl) rfl rfl rfl ?_
  refine ol_nil ?_
  refine cw_seq ?_
  refine cw_region ?_
  refine ol_val (v := sv a0) (by exact xr_move rfl rfl) rfl rfl rfl ?_
  obtain ⟨t1, k2, h⟩ := bs h
  refine ol_op (by exact opv_call rfl cal136 (ac rfl an) (rickyardref01_Number.ok fu _ a0 _ k2)) rfl rfl rfl ?_
  rintro _ w4 ⟨rfl, q3⟩
  have fB := fB.gr q3
  refine ol_val (v := .int .i64 (IntKind.i64.wrap t1)) (by exact xr_conv rfl Try.underlying129 Try.underlying3 rfl) rfl rfl rfl ?_
  refine ol_val (v := .int .i64 (IntKind.i64.wrap t1)) (by exact xr_assign rfl rfl) rfl rfl rfl ?_
  refine ol_nil ?_
  refine cw_ret ?_
  repeat (first | with_reducible refine thn_r ?_ | with_reducible refine blk_r ?_)
  obtain rfl := Option.some.inj h
  refine fin_ret1 Try.results103 rfl ?_
  exact ⟨_, rfl, rfl, fB⟩
end Go.Proofs.Ytjhajfkfhdnciaa
