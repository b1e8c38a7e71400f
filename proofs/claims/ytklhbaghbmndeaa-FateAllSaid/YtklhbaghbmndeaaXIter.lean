/- The words of the walks: iterators over strings. -/
import Derived.Test.YtklhbaghbmndeaaXBuild
import Derived.Laws.RangeString
set_option linter.unusedVariables false
set_option linter.unusedSimpArgs false
namespace Go.Xw
open Go
/-- The iterator over a string that lies at block g stands at octet i. -/
def Itr (w : World) (g : Nat) (s : List UInt8) (i : Int) : Prop := ∃ p : Nat, (p : Int) = i ∧ w.heap[g]? = some (.stringIter ⟨s.toArray⟩ p)
theorem Itr.lt {w : World} {g : Nat} {s : List UInt8} {i : Int} (h : Itr w g s i) : g < w.heap.size := by
  obtain ⟨p, _, hp⟩ := h
  exact (Array.getElem?_eq_some_iff.1 hp).1
theorem Itr.fr {S : Nat → Prop} {w w' : World} {g : Nat} {s : List UInt8} {i : Int} (h : Itr w g s i) (hf : Fr S w w') (hs : ¬ S g) : Itr w' g s i := by
  have hl := h.lt
  obtain ⟨p, hi, hp⟩ := h
  exact ⟨p, hi, (hf.blk g hl hs).trans hp⟩
theorem Itr.gr {w w' : World} {g : Nat} {s : List UInt8} {i : Int} (h : Itr w g s i) (hf : Gr w w') : Itr w' g s i := h.fr hf (fun x => x)
theorem Itr.wr {w w' : World} {g g' : Nat} {s : List UInt8} {i : Int} (h : Itr w g s i) (hf : Fr (fun j => j = g') w w') (hn : g ≠ g') : Itr w' g s i := h.fr hf hn
theorem Itr.wrO {w w' : World} {g : Nat} {s : List UInt8} {i : Int} {v : Value} (h : Itr w g s i) (hf : Fr (fun j => some j = v.ownBlock) w w') (ho : Off v g) : Itr w' g s i := h.fr hf fun e => ho e.symm
theorem Itr.ne {w : World} {g g' : Nat} {s : List UInt8} {i : Int} (h : Itr w g s i) (hg : w.heap.size ≤ g') : g ≠ g' := by have := h.lt; omega
theorem off_it {w : World} {g : Nat} {s : List UInt8} {i : Int} {E : TypeId} {α : Type} {K : Kd α} {B : Nat} {v : Value} {l : List α} (hb : Itr w g s i) (h : Own K E w B v l) : Off v g := by
  intro e
  obtain ⟨p, _, hp⟩ := hb
  rcases h.2 with ⟨rfl, _⟩ | ⟨g2, cap, cur, rfl, _, hg, _⟩
  · simp [Value.ownBlock] at e
  · obtain rfl : g2 = g := by simpa [Value.ownBlock] using e
    rw [hp] at hg
    cases hg
def runeAt (s : List UInt8) (i : Int) : Int := ((Utf8.decode ⟨s.toArray⟩ i.toNat).1 : Nat)
def wideAt (s : List UInt8) (i : Int) : Int := ((Utf8.decode ⟨s.toArray⟩ i.toNat).2 : Nat)
section
variable {P : Program} {ρ : Env} {w : World} {o : Oper} {x : Operand} {T : TypeId} {s : List UInt8}
theorem opv_range (ho : o.op = .range T x) (hT : P.underlying T = some .string) (hx : evO ρ x = sv s) : OpV P o ρ w (fun v w' => ∃ g : Nat, v = .pointer (some ⟨g, 0, none⟩) ∧ Itr w' g s 0 ∧ Gr w w' ∧ w.heap.size ≤ g) := by
  have h := run_range_string (P := P) w T ⟨s.toArray⟩ hT
  refine opv_val (w' := w.iter ⟨s.toArray⟩ 0) (v := .pointer (some ⟨w.heap.size, 0, none⟩)) ?_ ⟨w.heap.size, rfl, ⟨0, rfl, World.iter_heap w _ 0⟩, Fr.alloc w _, Nat.le_refl _⟩
  simp only [execOp, ho, hx, sv]
  simp [h]
theorem opv_nextT {g : Nat} {i : Int} (ho : o.op = .next x true) (hx : evO ρ x = .pointer (some ⟨g, 0, none⟩)) (h : Itr w g s i) (c : decide (i < (s.length : Int)) = true) :
    OpV P o ρ w (fun v w' => v = .tuple #[.bool true, .int .i64 i, .int .i32 (runeAt s i)] ∧ Itr w' g s (i + wideAt s i) ∧ Fr (fun j => j = g) w w') := by
  have hl := h.lt
  obtain ⟨p, rfl, hp⟩ := h
  have hsz : p < (⟨s.toArray⟩ : ByteArray).size := by
    have := of_decide_eq_true c
    simp [ByteArray.size]
    omega
  refine opv_val (w' := { w with heap := w.heap.setIfInBounds g (.stringIter ⟨s.toArray⟩ (p + (Utf8.decode ⟨s.toArray⟩ p).2)) }) (v := .tuple #[.bool true, .int .i64 (p : Int), .int .i32 (runeAt s (p : Int))]) ?_ ⟨rfl, ⟨p + (Utf8.decode ⟨s.toArray⟩ p).2, ?_, ?_⟩, ⟨rfl, rfl, rfl, by simp, ?_⟩⟩
  · simp only [execOp, ho, hx]
    simp [Instr.next, getObj, setObj, Sem.run, hp, hsz, goInt, runeAt, Result.andThen]
  · simp [wideAt]
  · simp [hl]
  · intro k hk hn
    show (w.heap.setIfInBounds g _)[k]? = _
    rw [Array.getElem?_setIfInBounds]
    have : ¬ g = k := fun e => hn e.symm
    simp [this]
theorem xr_nextF {g : Nat} {i : Int} (ho : o.op = .next x true) (hx : evO ρ x = .pointer (some ⟨g, 0, none⟩)) (h : Itr w g s i) (c : decide (i < (s.length : Int)) = false) :
    (execOp (evO ρ) o).run P w = .ok (.value (.tuple #[.bool false])) w := by
  obtain ⟨p, rfl, hp⟩ := h
  have hsz : ¬ p < (⟨s.toArray⟩ : ByteArray).size := by
    have := of_decide_eq_false c
    simp [ByteArray.size]
    omega
  simp only [execOp, ho, hx]
  simp [Instr.next, getObj, Sem.run, hp, hsz]
end
end Go.Xw
