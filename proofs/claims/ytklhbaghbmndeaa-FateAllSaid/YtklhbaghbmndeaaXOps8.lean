/- The words of the walks: slices against nil; records against records. -/
import Derived.Test.YtklhbaghbmndeaaXOps7
set_option linter.unusedVariables false
set_option linter.unusedSimpArgs false
namespace Go.Xw
open Go
section
variable {P : Program} {ρ : Env} {w : World} {o : Oper} {x y : Operand} {T T' E : TypeId}
def isNilV : Value → Bool
  | .slice none _ _ => true
  | _ => false
theorem run_eqNilD (d : Nat) {A : Option Addr} {n c : Nat} (hT : P.underlying T = some (.slice E)) : (Op.equalIn (d + 1) T (.slice A n c) (.slice none 0 0)).run P w = .ok (isNilV (.slice A n c)) w := by
  cases A <;> simp [Op.equalIn, run_underlying hT, isNilV]
theorem run_eqNil {A : Option Addr} {n c : Nat} (hT : P.underlying T = some (.slice E)) : (Op.equal T (.slice A n c) (.slice none 0 0)).run P w = .ok (isNilV (.slice A n c)) w := run_eqNilD 9999 hT
theorem xr_eqNil {α : Type} {K : Kd α} {l : List α} {v : Value} {w' : World} (ho : o.op = .binOp .eql T x y T') (hT : P.underlying T = some (.slice E)) (hx : evO ρ x = v) (hy : evO ρ y = .slice none 0 0) (hr : Rd K w' v l) : (execOp (evO ρ) o).run P w = .ok (.value (.bool (isNilV v))) w := by
  obtain ⟨A, c, rfl⟩ := hr.val
  simp only [execOp, ho, hx, hy, binOp]
  simp [eqGuard, run_eqNil hT]
theorem Rd.isNil {α : Type} {K : Kd α} {l : List α} {v : Value} (hr : Rd K w v l) (h : isNilV v = true) : l = [] := by
  obtain ⟨A, c, rfl, hc, hp⟩ := hr
  rcases Nat.eq_zero_or_pos l.length with h0 | h0
  · exact List.eq_nil_of_length_eq_zero h0
  · obtain ⟨b, q, rfl, _⟩ := hp h0
    simp [isNilV] at h
theorem run_freeze_row (w : World) (g q : Nat) (cur : Array Value) (E : TypeId) (z : Nat × Nat) (hg : w.heap[g]? = some (.cells cur E z)) : ∃ w', (markStringish ⟨g, q, none⟩).run P w = .ok () w' ∧ Fr (fun j => j = g) w w' ∧ ∃ z', w'.heap[g]? = some (.cells cur E z') := by
  have hs : w.shape? g = some (E, cur.size) := by
    unfold World.shape?
    rw [hg]
  refine ⟨w.freeze { block := g, off := cur.size } 1, ?_, ?_, ?_⟩
  · unfold markStringish
    simp [hs]
  · unfold World.freeze
    rw [if_neg (by decide)]
    refine ⟨rfl, rfl, rfl, by simp, fun k hk hne => ?_⟩
    simp only
    rw [Array.getElem?_modify, if_neg (fun e => hne e.symm)]
  · unfold World.freeze
    rw [if_neg (by decide)]
    simp only
    rw [Array.getElem?_modify, if_pos rfl, hg]
    exact ⟨_, rfl⟩
theorem opv_convSl {α : Type} {K : Kd α} {B : Nat} {v : Value} {l : List α} {E E' : TypeId} (ho : o.op = .convert T T x) (hT : P.underlying T = some (.slice E')) (hE : P.underlying E' = some (.int .u8)) (hx : evO ρ x = v) (h : Own K E w B v l) (hl : 0 < l.length) : OpV P o ρ w (fun u w' => v = u ∧ Rd K w' v l ∧ Fr (fun j => some j = v.ownBlock) w w') := by
  rcases h.2 with ⟨rfl, hn⟩ | ⟨g, cap, cur, rfl, hb, hg, r⟩
  · omega
  · obtain ⟨w', hrun, hfr, z', hg'⟩ := run_freeze_row (P := P) w g 0 cur E (0, 0) hg
    refine opv_val (w' := w') (v := .slice (some ⟨g, 0, none⟩) l.length cap) ?_ ⟨rfl, ?_, hfr.mono fun j hj => by subst hj; simp [Value.ownBlock]⟩
    · simp [execOp, ho, hx, convert, run_underlying hT, run_underlying hE, hrun]
    · obtain ⟨A, c, e, hc, hr⟩ := h.rd
      refine ⟨A, c, e, hc, fun hp => ?_⟩
      obtain ⟨b, q, rfl, ha⟩ := hr hp
      obtain ⟨⟨rfl, rfl⟩, rfl⟩ : (g = b ∧ 0 = q) ∧ cap = c := by simpa using e
      refine ⟨g, 0, rfl, fun j u hu => ?_⟩
      have := ha j u hu
      unfold World.cell? at this ⊢
      rw [hg] at this
      rw [hg']
      exact this
end
end Go.Xw
