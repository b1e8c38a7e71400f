/- Charts marked, in plain words. -/
import Derived.Test.YtjhajfkfhdnciaaPChart
set_option linter.unusedVariables false
set_option linter.unusedSimpArgs false
namespace Go.Proofs.Ytjhajfkfhdnciaa.Pure
open Go Go.Xw
theorem or_tab : ∀ (x : Fin 256) (j : Fin 8), bOr .u8 ((x : Nat) : Int) (shL .u8 1 ((j : Nat) : Int)) = if (x : Nat) / 2 ^ (j : Nat) % 2 = 1 then ((x : Nat) : Int) else (((x : Nat) + 2 ^ (j : Nat) : Nat) : Int) := by decide +kernel
theorem not_tab : ∀ (x : Fin 256) (j : Fin 8), bNot .u8 ((x : Nat) : Int) (shL .u8 1 ((j : Nat) : Int)) = if (x : Nat) / 2 ^ (j : Nat) % 2 = 1 then (((x : Nat) - 2 ^ (j : Nat) : Nat) : Int) else ((x : Nat) : Int) := by decide +kernel
theorem bit_up : ∀ (x : Fin 256) (j : Fin 8) (i : Fin 8), (if (x : Nat) / 2 ^ (j : Nat) % 2 = 1 then (x : Nat) else (x : Nat) + 2 ^ (j : Nat)) < 256 ∧ ((if (x : Nat) / 2 ^ (j : Nat) % 2 = 1 then (x : Nat) else (x : Nat) + 2 ^ (j : Nat)) / 2 ^ (i : Nat) % 2 = 1 ↔ i = j ∨ (x : Nat) / 2 ^ (i : Nat) % 2 = 1) := by decide +kernel
theorem bit_dn : ∀ (x : Fin 256) (j : Fin 8) (i : Fin 8), (if (x : Nat) / 2 ^ (j : Nat) % 2 = 1 then (x : Nat) - 2 ^ (j : Nat) else (x : Nat)) < 256 ∧ ((if (x : Nat) / 2 ^ (j : Nat) % 2 = 1 then (x : Nat) - 2 ^ (j : Nat) else (x : Nat)) / 2 ^ (i : Nat) % 2 = 1 ↔ i ≠ j ∧ (x : Nat) / 2 ^ (i : Nat) % 2 = 1) := by decide +kernel
theorem or_bit {x j : Int} (hx : 0 ≤ x ∧ x ≤ 255) (hj : 0 ≤ j ∧ j < 8) : (0 ≤ bOr .u8 x (shL .u8 1 j) ∧ bOr .u8 x (shL .u8 1 j) ≤ 255) ∧ ∀ i : Nat, i < 8 → (bOr .u8 x (shL .u8 1 j) / 2 ^ i % 2 = 1 ↔ (i : Int) = j ∨ x / 2 ^ i % 2 = 1) := by
  obtain ⟨x, rfl⟩ : ∃ n : Nat, x = (n : Int) := ⟨x.toNat, by omega⟩
  obtain ⟨j, rfl⟩ : ∃ n : Nat, j = (n : Int) := ⟨j.toNat, by omega⟩
  have h1 := or_tab ⟨x, by omega⟩ ⟨j, by omega⟩
  have h2 := fun i : Fin 8 => bit_up ⟨x, by omega⟩ ⟨j, by omega⟩ i
  simp only at h1 h2
  have e : bOr .u8 (x : Int) (shL .u8 1 (j : Int)) = ((if x / 2 ^ j % 2 = 1 then x else x + 2 ^ j : Nat) : Int) := by
    rw [h1]
    split <;> rfl
  rw [e]
  refine ⟨⟨by omega, by have := (h2 0).1; omega⟩, fun i hi => ?_⟩
  have h3 := (h2 ⟨i, hi⟩).2
  simp only [Fin.mk.injEq] at h3
  have c : ∀ y : Nat, ((y : Int) / 2 ^ i % 2 = 1 ↔ y / 2 ^ i % 2 = 1) := by
    intro y
    rw [show ((2 : Int) ^ i) = ((2 ^ i : Nat) : Int) from by simp]
    generalize 2 ^ i = p
    omega
  rw [c, c, h3]
  omega
theorem not_bit {x j : Int} (hx : 0 ≤ x ∧ x ≤ 255) (hj : 0 ≤ j ∧ j < 8) : (0 ≤ bNot .u8 x (shL .u8 1 j) ∧ bNot .u8 x (shL .u8 1 j) ≤ 255) ∧ ∀ i : Nat, i < 8 → (bNot .u8 x (shL .u8 1 j) / 2 ^ i % 2 = 1 ↔ (i : Int) ≠ j ∧ x / 2 ^ i % 2 = 1) := by
  obtain ⟨x, rfl⟩ : ∃ n : Nat, x = (n : Int) := ⟨x.toNat, by omega⟩
  obtain ⟨j, rfl⟩ : ∃ n : Nat, j = (n : Int) := ⟨j.toNat, by omega⟩
  have h1 := not_tab ⟨x, by omega⟩ ⟨j, by omega⟩
  have h2 := fun i : Fin 8 => bit_dn ⟨x, by omega⟩ ⟨j, by omega⟩ i
  simp only at h1 h2
  have e : bNot .u8 (x : Int) (shL .u8 1 (j : Int)) = ((if x / 2 ^ j % 2 = 1 then x - 2 ^ j else x : Nat) : Int) := by
    rw [h1]
    split <;> rfl
  rw [e]
  refine ⟨⟨by omega, by have := (h2 0).1; omega⟩, fun i hi => ?_⟩
  have h3 := (h2 ⟨i, hi⟩).2
  simp only [ne_eq, Fin.mk.injEq] at h3
  have c : ∀ y : Nat, ((y : Int) / 2 ^ i % 2 = 1 ↔ y / 2 ^ i % 2 = 1) := by
    intro y
    rw [show ((2 : Int) ^ i) = ((2 ^ i : Nat) : Int) from by simp]
    generalize 2 ^ i = p
    omega
  rw [c, c, h3]
  omega
theorem byte_ext {x y : Int} (hx : 0 ≤ x ∧ x ≤ 255) (hy : 0 ≤ y ∧ y ≤ 255) (h : ∀ i : Nat, i < 8 → (x / 2 ^ i % 2 = 1 ↔ y / 2 ^ i % 2 = 1)) : x = y := by
  have g : ∀ i : Nat, i < 8 → x / 2 ^ i % 2 = y / 2 ^ i % 2 := by
    intro i hi
    have := h i hi
    generalize x / 2 ^ i = p at *
    generalize y / 2 ^ i = q at *
    omega
  have g0 := g 0 (by omega)
  have g1 := g 1 (by omega)
  have g2 := g 2 (by omega)
  have g3 := g 3 (by omega)
  have g4 := g 4 (by omega)
  have g5 := g 5 (by omega)
  have g6 := g 6 (by omega)
  have g7 := g 7 (by omega)
  simp only [Int.reducePow, Int.ediv_one, Int.pow_zero, Int.pow_one] at g0 g1 g2 g3 g4 g5 g6 g7
  omega
theorem get_set {n : Nat} (a : Arr n Int) (i k : Nat) (v : Int) (hi : i < n) : Arr.get (Arr.set a (i : Int) v) (k : Int) = if k = i then v else Arr.get a (k : Int) := by
  have hl := a.h
  simp only [Arr.get, Arr.set, ix, Int.toNat_natCast, List.getD_eq_getElem?_getD, List.getElem?_set]
  by_cases h : k = i
  · subst h
    simp [hl, hi]
  · have h' : ¬ i = k := fun e => h e.symm
    simp [h, h']
theorem mem_set {n : Nat} {a : Arr n Int} {i : Int} {v x : Int} (h : x ∈ (Arr.set a i v).l) : x = v ∨ x ∈ a.l := by
  have : x ∈ List.set a.l i.toNat v := h
  rcases List.mem_or_eq_of_mem_set this with h | h
  · exact .inr h
  · exact .inl h
def okB (a : Arr 48 Int) : Prop := ∀ x ∈ a.l, (Lit.int .u8 x).wf = true
theorem okB_get {a : Arr 48 Int} (h : okB a) (i : Nat) (hi : i < 48) : 0 ≤ Arr.get a (i : Int) ∧ Arr.get a (i : Int) ≤ 255 := by
  have hl : i < a.l.length := by rw [a.h]; exact hi
  have e : Arr.get a (i : Int) = a.l[i] := by
    simp [Arr.get, ix, List.getD_eq_getElem?_getD, List.getElem?_eq_getElem hl]
  rw [e]
  exact wf8.1 (h _ (List.getElem_mem hl))
theorem okB_set {a : Arr 48 Int} (h : okB a) {i v : Int} (hv : 0 ≤ v ∧ v ≤ 255) : okB (Arr.set a i v) := by
  intro x hx
  rcases mem_set hx with rfl | hx
  · exact wf8.2 hv
  · exact h x hx
theorem okB_rep : okB (Arr.rep 48 0) := by
  intro x hx
  have : x ∈ List.replicate 48 (0 : Int) := hx
  rw [List.eq_of_mem_replicate this]
  exact wf8.2 (by omega)
def bitA (a : Arr 48 Int) (m : Nat) : Bool := decide (Arr.get a ((m / 8 : Nat) : Int) / 2 ^ (m % 8) % 2 = 1)
theorem bitA_ext {a b : Arr 48 Int} (ha : okB a) (hb : okB b) (h : ∀ m, m < 384 → bitA a m = bitA b m) : a = b := by
  apply Arr.ext
  apply List.ext_getElem (by rw [a.h, b.h])
  intro i h1 h2
  have hi : i < 48 := by rw [← a.h]; exact h1
  have ea : Arr.get a (i : Int) = a.l[i] := by simp [Arr.get, ix, List.getD_eq_getElem?_getD, List.getElem?_eq_getElem h1]
  have eb : Arr.get b (i : Int) = b.l[i] := by simp [Arr.get, ix, List.getD_eq_getElem?_getD, List.getElem?_eq_getElem h2]
  rw [← ea, ← eb]
  refine byte_ext (okB_get ha i hi) (okB_get hb i hi) fun j hj => ?_
  have := h (8 * i + j) (by omega)
  unfold bitA at this
  rw [show (8 * i + j) / 8 = i from by omega, show (8 * i + j) % 8 = j from by omega] at this
  exact decide_eq_decide.1 this
/-- One bit more. -/
def upA (a : Arr 48 Int) (k : Int) : Arr 48 Int := Arr.set a (k / 8) (bOr .u8 (Arr.get a (k / 8)) (shL .u8 1 (k % 8)))
def dnA (a : Arr 48 Int) (k : Int) : Arr 48 Int := Arr.set a (k / 8) (bNot .u8 (Arr.get a (k / 8)) (shL .u8 1 (k % 8)))
theorem upA_ok {a : Arr 48 Int} (h : okB a) {k : Nat} (hk : k < 384) : okB (upA a (k : Int)) := by
  unfold upA
  obtain ⟨i, hi⟩ : ∃ i : Nat, (k : Int) / 8 = (i : Int) := ⟨k / 8, by omega⟩
  rw [hi]
  exact okB_set h (or_bit (okB_get h i (by omega)) ⟨by omega, by omega⟩).1
theorem dnA_ok {a : Arr 48 Int} (h : okB a) {k : Nat} (hk : k < 384) : okB (dnA a (k : Int)) := by
  unfold dnA
  obtain ⟨i, hi⟩ : ∃ i : Nat, (k : Int) / 8 = (i : Int) := ⟨k / 8, by omega⟩
  rw [hi]
  exact okB_set h (not_bit (okB_get h i (by omega)) ⟨by omega, by omega⟩).1
theorem upA_bit {a : Arr 48 Int} (h : okB a) {k m : Nat} (hk : k < 384) (hm : m < 384) : bitA (upA a (k : Int)) m = (decide (m = k) || bitA a m) := by
  unfold upA bitA
  rw [show (k : Int) / 8 = ((k / 8 : Nat) : Int) from by omega, get_set _ _ _ _ (by omega)]
  by_cases e : m / 8 = k / 8
  · rw [if_pos e, e, Bool.eq_iff_iff]
    simp only [decide_eq_true_eq, Bool.or_eq_true]
    rw [(or_bit (okB_get h (k / 8) (by omega)) (j := (k : Int) % 8) ⟨by omega, by omega⟩).2 (m % 8) (by omega)]
    have : ((m % 8 : Nat) : Int) = (k : Int) % 8 ↔ m = k := by omega
    rw [this]
  · rw [if_neg e]
    have : m ≠ k := fun x => e (by rw [x])
    simp [this]
theorem dnA_bit {a : Arr 48 Int} (h : okB a) {k m : Nat} (hk : k < 384) (hm : m < 384) : bitA (dnA a (k : Int)) m = (!decide (m = k) && bitA a m) := by
  unfold dnA bitA
  rw [show (k : Int) / 8 = ((k / 8 : Nat) : Int) from by omega, get_set _ _ _ _ (by omega)]
  by_cases e : m / 8 = k / 8
  · rw [if_pos e, e, Bool.eq_iff_iff]
    simp only [decide_eq_true_eq, Bool.and_eq_true, Bool.not_eq_true', decide_eq_false_iff_not]
    rw [(not_bit (okB_get h (k / 8) (by omega)) (j := (k : Int) % 8) ⟨by omega, by omega⟩).2 (m % 8) (by omega)]
    have : ((m % 8 : Nat) : Int) = (k : Int) % 8 ↔ m = k := by omega
    rw [ne_eq, this]
  · rw [if_neg e]
    have : m ≠ k := fun x => e (by rw [x])
    simp [this]
theorem rep_bit (m : Nat) : bitA (Arr.rep 48 0) m = false := by
  unfold bitA
  have : Arr.get (Arr.rep 48 (0 : Int)) ((m / 8 : Nat) : Int) = 0 := by
    simp only [Arr.get, Arr.rep, ix, Int.toNat_natCast, List.getD_eq_getElem?_getD, List.getElem?_replicate]
    split <;> rfl
  rw [this]
  simp
/-- A chart's octets of numbers. -/
def madeA (place : Int) : List Int → Arr 48 Int → Arr 48 Int
  | [], a => a
  | x :: l, a => madeA place l (if 384 * place ≤ x ∧ x < 384 * place + 384 then upA a (x - 384 * place) else a)
theorem madeA_ok (place : Int) : ∀ (l : List Int) (a : Arr 48 Int), okB a → okB (madeA place l a) ∧ ∀ m, m < 384 → bitA (madeA place l a) m = (bitA a m || decide (384 * place + (m : Int) ∈ l))
  | [], a, h => ⟨h, fun m hm => by simp [madeA]⟩
  | x :: l, a, h => by
    unfold madeA
    by_cases hx : 384 * place ≤ x ∧ x < 384 * place + 384
    · rw [if_pos hx]
      obtain ⟨k, hk⟩ : ∃ k : Nat, x - 384 * place = (k : Int) := ⟨(x - 384 * place).toNat, by omega⟩
      rw [hk]
      have ih := madeA_ok place l (upA a (k : Int)) (upA_ok h (by omega))
      refine ⟨ih.1, fun m hm => ?_⟩
      rw [ih.2 m hm, upA_bit h (by omega) hm]
      have : 384 * place + (m : Int) = x ↔ m = k := by omega
      rw [Bool.eq_iff_iff]
      simp only [Bool.or_eq_true, decide_eq_true_eq, List.mem_cons, this]
      constructor
      · rintro ((h | h) | h)
        · exact .inr (.inl h)
        · exact .inl h
        · exact .inr (.inr h)
      · rintro (h | h | h)
        · exact .inl (.inr h)
        · exact .inl (.inl h)
        · exact .inr h
    · rw [if_neg hx]
      have ih := madeA_ok place l a h
      refine ⟨ih.1, fun m hm => ?_⟩
      rw [ih.2 m hm]
      have : ¬ 384 * place + (m : Int) = x := by omega
      simp [this]
theorem madeA_append (place : Int) : ∀ (l k : List Int) (a : Arr 48 Int), madeA place (l ++ k) a = madeA place k (madeA place l a)
  | [], k, a => rfl
  | x :: l, k, a => by
    simp only [List.cons_append, madeA]
    exact madeA_append place l k _
end Go.Proofs.Ytjhajfkfhdnciaa.Pure
