/- The question ahead of the laws on blocks. -/
import Derived.Test.YtpdglhpohkkeiaaPBlock
import Derived.Test.YtpdglhpohkkeiaaFrickyardlaw07awake
set_option linter.unusedVariables false
set_option linter.unusedSimpArgs false
namespace Go.Proofs.Ytpdglhpohkkeiaa.Pure
open Go Go.Xw
theorem awake07 {fu : Nat} (hf : 100 < fu) : rickyardlaw07_awake.f fu = some true := by
  unfold rickyardlaw07_awake.f
  have h3 : Bytes [3] := by
    intro x hx
    obtain rfl := List.mem_singleton.1 hx
    omega
  have hs : block_Seal.f fu 1 2 [3] = some (sealed (summed 1 2 [3]), true) := seal_eq h3 (by omega) (by omega) (by decide) hf
  have hb := sealed_bytes (summed_bytes (k := 1) (t := 2) (by omega) (by omega) h3)
  have hl := sealed_len (summed_len (k := 1) (t := 2) (body := [3]) (by decide))
  have hk : block_Kind.f fu (sealed (summed 1 2 [3])) = some 1 := by
    rw [kind_eq hb (by omega) hf, if_pos (is_sealed (by decide) (by decide)), (sealed_parts 1 2 [3]).1]
  have hz : block_Kind.f fu (List.replicate (Int.toNat 64) (0 : Int)) = some 0 := by
    rw [kind_eq (Bytes.rep _) (by simp) hf, if_neg]
    exact fun x => x.2.1 rfl
  simp only [hs, hk, hz, hl, Option.bind_some]
  rfl
end Go.Proofs.Ytpdglhpohkkeiaa.Pure
