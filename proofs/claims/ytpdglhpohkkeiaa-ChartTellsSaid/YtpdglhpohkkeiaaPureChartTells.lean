/- The pure statement of ChartTells. -/
import Derived.Test.YtpdglhpohkkeiaaPChart
set_option linter.unusedVariables false
namespace Go.Proofs.Ytpdglhpohkkeiaa.Pure
open Go Go.Xw
theorem ChartTells : ∀ (a0 : S_api_Chart) (a1 : Int), ok_api_Chart a0 → (Lit.int .i64 a1).wf = true → ∃ fu, rickyardlaw10_ChartTells.f fu a0 a1 = some true := by
  intro c a hc ha
  refine ⟨400, ?_⟩
  have ha' := wf64.1 ha
  have hP := wf64.1 hc.1
  unfold rickyardlaw10_ChartTells.f
  have hl := len_listC c
  have hI : rickyardref01_Ints.f 400 (listC c) (listC c) = some true := ints_eq (by omega) (by omega)
  have hC : chart_Count.f 400 c = some ((listC c).length : Int) := count_eq hc (by omega)
  have hH : ∀ x : Int, -9223372036854775808 ≤ x ∧ x ≤ 9223372036854775807 → chart_Has.f 400 c x = some (decide (x ∈ listC c)) := fun x hx => has_eq hc hx
  have hR : ∀ x : Int, rickyardref10_Has.f 400 (listC c) x = some (decide (x ∈ listC c)) := fun x => rhas_eq (by omega) (by omega)
  rw [awake10, rlist_eq hc (by omega), rright_eq, list_eq hc (by omega)]
  by_cases hr : RightC c
  · have hr' := hr
    unfold RightC at hr'
    have w1 : IntKind.i64.wrap (384 * c.Place) = 384 * c.Place := w64 (by omega) (by omega)
    have w2 : IntKind.i64.wrap (384 * c.Place + a % 384) = 384 * c.Place + a % 384 := w64 (by omega) (by omega)
    simp [hr, rest_eq, w1, w2, hI, hC, hH a ha', hR, hH (384 * c.Place + a % 384) (by omega)]
  · simp [hr, hI, hC, hH a ha', hR, hH c.Place hP]
end Go.Proofs.Ytpdglhpohkkeiaa.Pure
