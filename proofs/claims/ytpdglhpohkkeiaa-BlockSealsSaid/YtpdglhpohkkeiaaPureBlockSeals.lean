/- The pure statement of BlockSeals. -/
import Derived.Test.YtpdglhpohkkeiaaPLaw07
import Derived.Test.YtpdglhpohkkeiaaOpen
import Derived.Test.YtpdglhpohkkeiaaFrickyardlaw07BlockSeals
set_option linter.unusedVariables false
set_option linter.unusedSimpArgs false
namespace Go.Proofs.Ytpdglhpohkkeiaa.Pure
open Go Go.Xw
theorem BlockSeals : ∀ (a0 : Int) (a1 : Int) (a2 : List Int), (Lit.int .i64 a0).wf = true → (Lit.int .i64 a1).wf = true → ((∀ x ∈ a2, (Lit.int .u8 x).wf = true) ∧ List.length a2 ≤ maxLen) → ∃ fu, rickyardlaw07_BlockSeals.f fu a0 a1 a2 = some true := by
  intro k t body hk ht hbody
  refine ⟨400, ?_⟩
  have hb := bytes_of hbody.1
  unfold rickyardlaw07_BlockSeals.f
  rw [awake07 (by decide : 100 < 400)]
  by_cases h2 : (body.length : Int) > 200
  · simp [h2]
  · have h2' : ¬ 200 < body.length := by omega
    by_cases hr : k < 1 ∨ k > 255 ∨ t < 0 ∨ t > 255 ∨ body.length > 56
    · rw [seal_no hr]
      have c0 : (if (decide (k < 1)) = true then true else (if (decide (k > 255)) = true then true else (if (decide (t < 0)) = true then true else (if (decide (t > 255)) = true then true else (decide ((List.length body : Int) > 56)))))) = true := by
        by_cases h1 : k < 1
        · simp [h1]
        · by_cases h2 : k > 255
          · simp [h2]
          · by_cases h3 : t < 0
            · simp [h3]
            · by_cases h4 : t > 255
              · simp [h4]
              · have h5 : (List.length body : Int) > 56 := by omega
                simp [h5]
      rw [c0]
      simp [h2']
    · have hk' : 1 ≤ k ∧ k ≤ 255 := by omega
      have ht' : 0 ≤ t ∧ t ≤ 255 := by omega
      have hl : body.length ≤ 56 := by omega
      have c0 : (if (decide (k < 1)) = true then true else (if (decide (k > 255)) = true then true else (if (decide (t < 0)) = true then true else (if (decide (t > 255)) = true then true else (decide ((List.length body : Int) > 56)))))) = false := by
        have h1 : ¬ k < 1 := by omega
        have h2 : ¬ k > 255 := by omega
        have h3 : ¬ t < 0 := by omega
        have h4 : ¬ t > 255 := by omega
        have h5 : ¬ (List.length body : Int) > 56 := by omega
        simp [h1, h2, h3, h4, h5]
      have hsb := sealed_bytes (summed_bytes ⟨by omega, hk'.2⟩ ht' hb)
      have hsl := sealed_len (summed_len (k := k) (t := t) hl)
      obtain ⟨p4, p5, p8⟩ := sealed_parts k t body
      have ho : block_Open.f 400 (sealed (summed k t body)) = some (k, t, body ++ List.replicate (56 - body.length) 0, true) := by
        rw [open_eq hsb (by omega) (by decide), if_pos (is_sealed (by omega) hl), p4, p5, p8]
      rw [seal_eq hb hk' ht' hl (by decide), c0]
      simp only [ho, rseal_eq (fu := 400) hb ⟨by omega, hk'.2⟩ ht' hl (by decide), fill_eq (fu := 400) hl, Option.bind_some]
      simp [h2']
end Go.Proofs.Ytpdglhpohkkeiaa.Pure
