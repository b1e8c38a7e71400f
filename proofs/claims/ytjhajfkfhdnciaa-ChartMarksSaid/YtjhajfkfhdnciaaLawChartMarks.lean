/- The law ChartMarks holds for every input: the row, out of the walk of the law's function and of its pure statement. Written by rows.py. -/
import Derived.Test.YtjhajfkfhdnciaaFacts
import Derived.Test.YtjhajfkfhdnciaaFrickyardlaw10ChartMarks
import Derived.Test.YtjhajfkfhdnciaaOpen
import Derived.Test.YtjhajfkfhdnciaaPureChartMarks
namespace Go.Proofs.Ytjhajfkfhdnciaa.chartMarks
open Go.ChangeShapes Go.WideShapes Go.ChangeAt Go.RowKit
open Go.ChangeMaps (open_string shut_string)
open Go Go.Xw
set_option linter.unusedVariables false
theorem own : ownKnob Try.prog.godebug = none := Facts.own
theorem laidOut : laidOutB Try.prog = true := Facts.laid
theorem closed : joinedFacts Try.pinned.checked.prog 15 Try.f15 Rows.chartMarksSpec Rows.chartMarksRow = true := by
  unfold joinedFacts
  rw [Facts.enter, Facts.lifts, Facts.make, Facts.laid, Facts.rowed, Facts.plain, Facts.heard]
  kernel_rfl
theorem enc_seg {α : Type} (K : Kd α) (a : α) : K.enc a = cellsOf [Kd.seg K a] := by simp [cellsOf, Kd.seg]
def start : Input := ⟨#[], #[.agg #[.int .i64 0, .int .u8 0, .int .u8 0, .int .u8 0, .int .u8 0, .int .u8 0, .int .u8 0, .int .u8 0, .int .u8 0, .int .u8 0, .int .u8 0, .int .u8 0, .int .u8 0, .int .u8 0, .int .u8 0, .int .u8 0, .int .u8 0, .int .u8 0, .int .u8 0, .int .u8 0, .int .u8 0, .int .u8 0, .int .u8 0, .int .u8 0, .int .u8 0, .int .u8 0, .int .u8 0, .int .u8 0, .int .u8 0, .int .u8 0, .int .u8 0, .int .u8 0, .int .u8 0, .int .u8 0, .int .u8 0, .int .u8 0, .int .u8 0, .int .u8 0, .int .u8 0, .int .u8 0, .int .u8 0, .int .u8 0, .int .u8 0, .int .u8 0, .int .u8 0, .int .u8 0, .int .u8 0, .int .u8 0, .int .u8 0], .int .i64 0, .bool false], []⟩
set_option maxRecDepth 100000 in
set_option maxHeartbeats 1000000 in
theorem lifted (os : Os) (started : os.Started) (H : Type) (enc : TypeId × Value → H) :
    ReturnsInHanded {} Try.checked os 15 .any (Rows.chartMarksSpec.pre6 enc Try.prog Try.f15 Rows.chartMarksRow.domain false) (Rows.chartMarksSpec.post enc Try.prog Try.f15 false true false false) := by
  refine returnsInHanded_of_change_sized (C := Try.checked) own started (by kernel_rfl) Try.func15
    (ChangeSpec.witness6 (enc := enc) (C := Try.checked) false start 8 (by kernel_rfl) (by kernel_rfl) (by kernel_rfl) (by kernel_rfl)) ?_
  intro W base args ds gs before hval0 hW hcnd hsz0 _
  have hval : ∀ (j : Nat) t v, Try.f15.params[j]? = some t → args[j]? = some v → Value.okWide Try.prog W .any base t v := hval0
  have hW' := hW
  obtain ⟨p, q, hA0, hV, rfl, hfz, hnd⟩ := hW
  have hA : DataW.TrodAll enc Try.prog W 0 (fun _ => true) true Try.f15.params.toList args.toList ds p := hA0
  rw [Try.params15] at hA hval
  obtain ⟨v0, vs0, d0, ds0, p0, q0, hargs, rfl, rfl, h0, r0⟩ := trodAll_cons hA
  obtain ⟨v1, vs1, d1, ds1, p1, q1, rfl, rfl, rfl, h1, r1⟩ := trodAll_cons r0
  obtain ⟨v2, vs2, d2, ds2, p2, q2, rfl, rfl, rfl, h2, r2⟩ := trodAll_cons r1
  obtain ⟨rfl, rfl, rfl⟩ := trodAll_nil r2
  obtain rfl : args = #[v0, v1, v2] := by cases args; simp_all
  obtain ⟨rfl, rfl⟩ := trodVars_none hV
  have k0 := h0
  have lt0 : ∀ x ∈ p0, x.block < W.heap.size := by obtain ⟨m, hm⟩ := k0; exact DataW.trod_lt m _ _ _ hm
  obtain ⟨fu0, hf0⟩ := h0
  obtain ⟨a0, e0, o0⟩ := (opn_api_Chart (w := W)) enc _ _ _ _ _ _ hf0
  obtain rfl := agg_of (by kernel_rfl) (hval 0 81 v0 rfl rfl) e0
  obtain ⟨a1, rfl, rfl, rfl, w1⟩ := open_int Try.underlying3 (hval 1 3 v1 rfl rfl) h1
  obtain ⟨a2, rfl, rfl, rfl⟩ := open_bool Try.underlying4 (hval 2 4 v2 rfl rfl) h2
  obtain ⟨fu, hfu⟩ := Pure.ChartMarks a0 a1 a2 o0 w1
  refine Calls.mono (rickyardlaw10_ChartMarks.ok fu W a0 a1 a2 true hfu) fun e W' hr => ?_
  obtain ⟨v, rfl, rfl, gr⟩ := hr
  have bel := Fr.below gr
  exact ⟨_, rfl, _, _, _, [], _, [], hW', trodAll_mk1 (shut_bool Try.underlying4 _), (trodAll_cons_mk (Below.trod laidOut (by kernel_rfl) (of_decide_eq_true (by kernel_rfl)) k0 bel lt0) (trodAll_cons_mk (shut_int Try.underlying3 w1) (trodAll_cons_mk (shut_bool Try.underlying4 _) trodAll_mk0))), rfl, bel.frame _, fun h => by cases h⟩
theorem over : Rows.chartMarksRow.holds Try.pinned (OpenSpec.ofChange Rows.chartMarksSpec) :=
  OpenClaim.holds_of_wide 15 Try.f15 rfl rfl rfl rfl rfl rfl rfl ⟨rfl, rfl, rfl, rfl, rfl⟩ rfl rfl rfl rfl rfl (by kernel_rfl) Try.func15 closed
    (of_decide_eq_true (by kernel_rfl)) (by unfold Func.isWrapper; first | (rw [if_pos (by decide +kernel)]; kernel_rfl) | (rw [if_neg (by decide +kernel)]; exact ⟨rfl, rfl⟩))
    (fun os started H enc _ => lifted os started H enc)
theorem proved : Rows.ChartMarksSaid := over
end Go.Proofs.Ytjhajfkfhdnciaa.chartMarks
namespace Go.Proofs.Ytjhajfkfhdnciaa
/-- The law holds. -/
theorem chartMarks_holds : Rows.ChartMarksSaid := chartMarks.proved
#print axioms chartMarks_holds
end Go.Proofs.Ytjhajfkfhdnciaa
