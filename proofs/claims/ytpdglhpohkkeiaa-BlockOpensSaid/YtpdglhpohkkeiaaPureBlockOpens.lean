/- The pure statement of BlockOpens. -/
import Derived.Test.YtpdglhpohkkeiaaPLaw07
import Derived.Test.YtpdglhpohkkeiaaOpen
import Derived.Test.YtpdglhpohkkeiaaFrickyardlaw07BlockOpens
set_option linter.unusedVariables false
set_option linter.unusedSimpArgs false
namespace Go.Proofs.Ytpdglhpohkkeiaa.Pure
open Go Go.Xw
theorem BlockOpens : ∀ (a0 : List Int), ((∀ x ∈ a0, (Lit.int .u8 x).wf = true) ∧ List.length a0 ≤ maxLen) → ∃ fu, rickyardlaw07_BlockOpens.f fu a0 = some true := by
  intro b hbody
  refine ⟨400, ?_⟩
  have hb := bytes_of hbody.1
  unfold rickyardlaw07_BlockOpens.f
  rw [awake07 (by decide : 100 < 400)]
  by_cases h2 : (b.length : Int) > 200
  · simp [h2]
  · have h2' : ¬ 200 < b.length := by omega
    have hl : b.length ≤ 9000000000000000000 := by omega
    rw [open_eq hb hl (by decide), ropen_eq hb (by decide), kind_eq hb hl (by decide)]
    by_cases hi : Is b
    · have h0 := hi.1
      have b4 := ix_byte hb 4 (by omega)
      have b5 := ix_byte hb 5 (by omega)
      rw [show ((4 : Nat) : Int) = 4 from rfl] at b4
      rw [show ((5 : Nat) : Int) = 5 from rfl] at b5
      have h4 := hi.2.1
      have h8 : (b.drop 8).length = 56 := by rw [List.length_drop, h0]
      have hs : block_Seal.f 400 (ix b 4) (ix b 5) (b.drop 8) = some (b, true) := by
        rw [seal_eq (hb.drop 8) ⟨by omega, b4.2⟩ b5 (by omega) (by decide), ← hi.2.2]
      simp only [hi, if_true, hs, Option.bind_some]
      simp [h2', hs]
    · simp only [hi, if_false, Option.bind_some]
      simp [h2']
end Go.Proofs.Ytpdglhpohkkeiaa.Pure
