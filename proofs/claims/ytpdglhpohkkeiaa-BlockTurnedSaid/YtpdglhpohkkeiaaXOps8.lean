/- The words of the walks: slices against nil; records against records. -/
import Derived.Test.YtpdglhpohkkeiaaXOps7
set_option linter.unusedVariables false
set_option linter.unusedSimpArgs false
namespace Go.Xw
open Go
section
variable {P : Program} {ρ : Env} {w : World} {o : Oper} {x y : Operand} {T T' E : TypeId}
def isNilV : Value → Bool
  | .slice none _ _ => true
  | _ => false
theorem run_eqNilD (d : Nat) {A : Option Addr} {n c : Nat} (hT : P.underlying T = some (.slice E)) : (Op.equalIn (d + 1) T (.slice A n c) (.slice none 0 0)).run P w = .ok (isNilV (.slice A n c)) w := by
  cases A <;> simp [Op.equalIn, run_underlying hT, isNilV]
theorem run_eqNil {A : Option Addr} {n c : Nat} (hT : P.underlying T = some (.slice E)) : (Op.equal T (.slice A n c) (.slice none 0 0)).run P w = .ok (isNilV (.slice A n c)) w := run_eqNilD 9999 hT
theorem xr_eqNil {α : Type} {K : Kd α} {l : List α} {v : Value} {w' : World} (ho : o.op = .binOp .eql T x y T') (hT : P.underlying T = some (.slice E)) (hx : evO ρ x = v) (hy : evO ρ y = .slice none 0 0) (hr : Rd K w' v l) : (execOp (evO ρ) o).run P w = .ok (.value (.bool (isNilV v))) w := by
  obtain ⟨A, c, rfl⟩ := hr.val
  simp only [execOp, ho, hx, hy, binOp]
  simp [eqGuard, run_eqNil hT]
theorem Rd.isNil {α : Type} {K : Kd α} {l : List α} {v : Value} (hr : Rd K w v l) (h : isNilV v = true) : l = [] := by
  obtain ⟨A, c, rfl, hc, hp⟩ := hr
  rcases Nat.eq_zero_or_pos l.length with h0 | h0
  · exact List.eq_nil_of_length_eq_zero h0
  · obtain ⟨b, q, rfl, _⟩ := hp h0
    simp [isNilV] at h
end
end Go.Xw
