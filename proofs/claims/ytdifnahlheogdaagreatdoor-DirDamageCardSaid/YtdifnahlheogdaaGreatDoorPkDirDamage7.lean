/- DirDamage: texts merged, part 7 of 7. The last part proves that the law DirDamage holds for every input. -/
import Derived.Test.YtdifnahlheogdaaGreatDoorPkDirDamage6
import Derived.Test.YtdifnahlheogdaaGreatDoorCards
import Derived.Test.YtdifnahlheogdaaGreatDoorTie
import Derived.OpenShut
import Derived.ProofKit
import Derived.ChangeOld
import Derived.Below
import Derived.SizedLaws
import Derived.SevenTiedAt
set_option maxRecDepth 100000
set_option maxHeartbeats 4000000
set_option linter.unusedVariables false
set_option linter.unusedSimpArgs false
set_option linter.unusedSectionVars false
namespace Go.Proofs.YtdifnahlheogdaaGreatDoor.Pure
open Go Go.Xw Go.Yw
def wdR (g : Nat → Bool) : Nat → Nat
  | 0 => 0
  | k + 1 => 2 ^ k * (if g k = true then 1 else 0) + wdR g k
theorem wdR_lt (g : Nat → Bool) : ∀ n, wdR g n < 2 ^ n
  | 0 => by simp [wdR]
  | n + 1 => by
    have := wdR_lt g n
    unfold wdR
    rw [Nat.pow_succ]
    split <;> omega
theorem wdR_bit (g : Nat → Bool) (k : Nat) : ∀ n, (wdR g n).testBit k = (decide (k < n) && g k)
  | 0 => by simp [wdR]
  | n + 1 => by
    unfold wdR
    rw [Nat.testBit_two_pow_mul_add _ (wdR_lt g n)]
    by_cases h : k < n
    · rw [if_pos h, wdR_bit g k n]
      simp [h, show k < n + 1 by omega]
    · rw [if_neg h]
      by_cases e : k = n
      · subst e
        cases hg : g k <;> simp [hg]
      · have e2 : ¬ k < n + 1 := by omega
        obtain ⟨m, hm⟩ : ∃ m, k - n = m + 1 := ⟨k - n - 1, by omega⟩
        rw [hm]
        simp only [e2, decide_false, Bool.false_and]
        split <;> simp [Nat.testBit_succ]
theorem wd_ex (g : Nat → Bool) (n : Nat) : ∃ x, x < 2 ^ n ∧ ∀ k, x.testBit k = (decide (k < n) && g k) := ⟨wdR g n, wdR_lt g n, fun k => wdR_bit g k n⟩
noncomputable def wdN (g : Nat → Bool) (n : Nat) : Nat := Classical.choose (wd_ex g n)
theorem wdN_lt (g : Nat → Bool) (n : Nat) : wdN g n < 2 ^ n := (Classical.choose_spec (wd_ex g n)).1
theorem wdN_bit (g : Nat → Bool) (k n : Nat) : (wdN g n).testBit k = (decide (k < n) && g k) := (Classical.choose_spec (wd_ex g n)).2 k
theorem wdN_congr {f g : Nat → Bool} {n : Nat} (h : ∀ k, k < n → f k = g k) : wdN f n = wdN g n := by
  apply Nat.eq_of_testBit_eq
  intro i
  rw [wdN_bit, wdN_bit]
  by_cases e : i < n
  · rw [h i e]
  · simp [e]
theorem p64 : (2 : Nat) ^ 64 = 18446744073709551616 := by decide
theorem wrap_nat {x : Nat} (h : x < 2 ^ 64) : IntKind.u64.wrap (x : Int) = (x : Int) := by
  rw [p64] at h
  exact wu64 (by omega) (by omega)
theorem ofInt_nat (x : Nat) : BitVec.ofInt 64 (x : Int) = BitVec.ofNat 64 x := by rw [BitVec.ofInt_natCast]
theorem and64 {x y : Nat} (hx : x < 2 ^ 64) (hy : y < 2 ^ 64) : bAnd .u64 (x : Int) (y : Int) = ((x &&& y : Nat) : Int) := by
  unfold bAnd
  show IntKind.u64.wrap (((BitVec.ofInt 64 (x : Int) &&& BitVec.ofInt 64 (y : Int)).toNat : Nat) : Int) = _
  rw [ofInt_nat, ofInt_nat, BitVec.toNat_and, BitVec.toNat_ofNat, BitVec.toNat_ofNat, Nat.mod_eq_of_lt hx, Nat.mod_eq_of_lt hy]
  exact wrap_nat (Nat.lt_of_le_of_lt Nat.and_le_left hx)
theorem or64 {x y : Nat} (hx : x < 2 ^ 64) (hy : y < 2 ^ 64) : bOr .u64 (x : Int) (y : Int) = ((x ||| y : Nat) : Int) := by
  unfold bOr
  show IntKind.u64.wrap (((BitVec.ofInt 64 (x : Int) ||| BitVec.ofInt 64 (y : Int)).toNat : Nat) : Int) = _
  rw [ofInt_nat, ofInt_nat, BitVec.toNat_or, BitVec.toNat_ofNat, BitVec.toNat_ofNat, Nat.mod_eq_of_lt hx, Nat.mod_eq_of_lt hy]
  exact wrap_nat (Nat.or_lt_two_pow hx hy)
theorem shl64 {k : Nat} (hk : k < 64) : shL .u64 1 (k : Int) = ((2 ^ k : Nat) : Int) := by
  unfold shL
  show IntKind.u64.wrap (1 * 2 ^ min ((k : Int).toNat) 64) = _
  rw [Int.toNat_natCast, Nat.min_eq_left (Nat.le_of_lt hk), Int.one_mul]
  have : ((2 : Int) ^ k) = ((2 ^ k : Nat) : Int) := by simp
  rw [this]
  exact wrap_nat (Nat.pow_lt_pow_right (by decide) hk)
theorem pow_lt64 {k : Nat} (hk : k < 64) : 2 ^ k < 2 ^ 64 := Nat.pow_lt_pow_right (by decide) hk
theorem or_wd {g : Nat → Bool} {r : Nat} (hr : r < 64) : bOr .u64 ((wdN g 64 : Nat) : Int) (shL .u64 1 (r : Int)) = ((wdN (fun k => g k || decide (k = r)) 64 : Nat) : Int) := by
  rw [shl64 hr, or64 (wdN_lt g 64) (pow_lt64 hr)]
  refine congrArg (fun n : Nat => (n : Int)) ?_
  apply Nat.eq_of_testBit_eq
  intro i
  rw [Nat.testBit_or, wdN_bit, wdN_bit, Nat.testBit_two_pow]
  by_cases h : i < 64
  · by_cases e : r = i <;> simp [h, e, eq_comm]
  · simp [h, show ¬ r = i by omega]
theorem low_split {x : Nat} (h : x ≠ 0) : ∃ k q, x = 2 ^ k * (2 * q + 1) := by
  induction x using Nat.strongRecOn with
  | _ x ih =>
    by_cases e : x % 2 = 1
    · exact ⟨0, x / 2, by omega⟩
    · obtain ⟨k, q, hk⟩ := ih (x / 2) (by omega) (by omega)
      exact ⟨k + 1, q, by rw [Nat.pow_succ, Nat.mul_comm (2 ^ k) 2, Nat.mul_assoc, ← hk]; omega⟩
theorem tb0 (k a j : Nat) : (2 ^ k * a).testBit j = if j < k then false else a.testBit (j - k) := by
  have := Nat.testBit_two_pow_mul_add a (show 0 < 2 ^ k from Nat.pow_pos (by decide)) j
  simpa using this
theorem low_and (k q : Nat) : (2 ^ k * (2 * q + 1)) &&& (2 ^ k * (2 * q + 1) - 1) = 2 ^ k * (2 * q) := by
  have hp : 0 < 2 ^ k := Nat.pow_pos (by decide)
  have e2 : 2 ^ k * (2 * q + 1) - 1 = 2 ^ k * (2 * q) + (2 ^ k - 1) := by rw [Nat.mul_add]; omega
  apply Nat.eq_of_testBit_eq
  intro j
  rw [Nat.testBit_and, e2, Nat.testBit_two_pow_mul_add _ (by omega : 2 ^ k - 1 < 2 ^ k), tb0, tb0]
  by_cases h : j < k
  · simp [h]
  · rw [if_neg h, if_neg h, if_neg h]
    cases hm : j - k with
    | zero => simp [Nat.testBit_zero]
    | succ m =>
      rw [Nat.testBit_succ, Nat.testBit_succ, show (2 * q + 1) / 2 = q by omega, show 2 * q / 2 = q by omega, Bool.and_self]
theorem low_neg {k q : Nat} (h : 2 ^ k * (2 * q + 1) < 2 ^ 64) : k < 64 ∧ (2 ^ k * (2 * q + 1)) &&& (2 ^ 64 - 2 ^ k * (2 * q + 1)) = 2 ^ k := by
  have hk : k < 64 := by
    by_cases hk : k < 64
    · exact hk
    · have : 2 ^ 64 ≤ 2 ^ k := Nat.pow_le_pow_right (by decide) (by omega)
      have h2 : 2 ^ k * 1 ≤ 2 ^ k * (2 * q + 1) := Nat.mul_le_mul_left _ (by omega)
      omega
  refine ⟨hk, ?_⟩
  have hp : 0 < 2 ^ k := Nat.pow_pos (by decide)
  have es : 2 ^ 64 = 2 ^ k * 2 ^ (64 - k) := by rw [← Nat.pow_add]; congr 1; omega
  have hq : 2 * q + 1 < 2 ^ (64 - k) := by
    rw [es] at h
    exact Nat.lt_of_mul_lt_mul_left h
  have e2 : 2 ^ 64 - 2 ^ k * (2 * q + 1) = 2 ^ k * (2 ^ (64 - k) - (2 * q + 1)) := by rw [es, Nat.mul_sub]
  apply Nat.eq_of_testBit_eq
  intro j
  rw [Nat.testBit_and, e2, tb0, tb0, Nat.testBit_two_pow]
  by_cases hj : j < k
  · simp [hj, show ¬ k = j by omega]
  · rw [if_neg hj, if_neg hj, Nat.testBit_two_pow_sub_succ (by omega : 2 * q < 2 ^ (64 - k))]
    cases hm : j - k with
    | zero => simp [Nat.testBit_zero, show k = j by omega, show 0 < 64 - j by omega]
    | succ m =>
      rw [Nat.testBit_succ, Nat.testBit_succ, show (2 * q + 1) / 2 = q by omega, show 2 * q / 2 = q by omega]
      have : ¬ k = j := by omega
      cases q.testBit m <;> simp [this]
theorem tz_tab : ∀ k : Fin 64, shR .u64 (IntKind.u64.wrap (((2 ^ (k : Nat) : Nat) : Int) * 285870213051353865)) 58 = (((2 ^ (k : Nat) * 285870213051353865) % 2 ^ 64 / 2 ^ 58 : Nat) : Int) ∧ (2 ^ (k : Nat) * 285870213051353865) % 2 ^ 64 / 2 ^ 58 < 64 ∧ Arr.get tabG0 (((2 ^ (k : Nat) * 285870213051353865) % 2 ^ 64 / 2 ^ 58 : Nat) : Int) = ((k : Nat) : Int) := by decide +kernel
theorem tz_eq {fu k q : Nat} (h : 2 ^ k * (2 * q + 1) < 2 ^ 64) : bits_TrailingZeros64.f fu ((2 ^ k * (2 * q + 1) : Nat) : Int) = some (k : Int) := by
  unfold bits_TrailingZeros64.f
  obtain ⟨hk, ha⟩ := low_neg h
  have hp : 0 < 2 ^ k := Nat.pow_pos (by decide)
  have h0 : ¬ ((2 ^ k * (2 * q + 1) : Nat) : Int) = 0 := by
    intro e
    have : 2 ^ k * (2 * q + 1) = 0 := by exact_mod_cast e
    have h2 : 2 ^ k * 1 ≤ 2 ^ k * (2 * q + 1) := Nat.mul_le_mul_left _ (by omega)
    omega
  have hw : IntKind.u64.wrap (-((2 ^ k * (2 * q + 1) : Nat) : Int)) = ((2 ^ 64 - 2 ^ k * (2 * q + 1) : Nat) : Int) := by
    generalize 2 ^ k * (2 * q + 1) = x at *
    have hx : 0 < x := by omega
    rw [p64] at *
    unfold IntKind.wrap
    simp only [IntKind.signed, IntKind.bits]
    simp
    omega
  rw [decide_eq_false h0, if_neg (by decide), hw, and64 h (by rw [p64] at *; have : 2 ^ k * 1 ≤ 2 ^ k * (2 * q + 1) := Nat.mul_le_mul_left _ (by omega); omega), ha]
  obtain ⟨t1, t2, t3⟩ := tz_tab ⟨k, hk⟩
  simp only at t1 t2 t3
  rw [t1, t3, if_pos ⟨by omega, by omega⟩, w64 (by omega) (by omega)]
def mm (c : Nat) : Nat → Nat
  | 0 => 0
  | n + 1 => 256 * mm c n + c
def f1 (n x : Nat) : Nat := ((x / 2) &&& mm 85 n) + (x &&& mm 85 n)
def f2 (n x : Nat) : Nat := ((x / 4) &&& mm 51 n) + (x &&& mm 51 n)
def f3 (n x : Nat) : Nat := (x / 16 + x) &&& mm 15 n
def pc (b : Nat) : Nat := ((List.range 8).filter fun k => b.testBit k).length
def tn : Nat → Nat → Nat
  | 0, _ => 0
  | n + 1, x => 256 * tn n (x / 256) + pc (x % 256)
theorem t15 : ∀ (b : Fin 69) (r : Fin 5), (16 * (r : Nat) + (b : Nat) / 16 + (b : Nat)) &&& 15 = ((b : Nat) / 16 + (b : Nat)) &&& 15 := by decide +kernel
theorem tb : ∀ b : Fin 256, f1 1 b < 256 ∧ f2 1 (f1 1 b) < 69 ∧ f2 1 (f1 1 b) % 16 ≤ 4 ∧ f3 1 (f2 1 (f1 1 b)) = pc b ∧ pc b ≤ 8 := by decide +kernel
def cnt (g : Nat → Bool) (n : Nat) : Nat := ((List.range n).filter g).length
def fe (x : Nat) : Nat := x + x / 65536
noncomputable def wordAt (f : Nat → Bool) (j : Nat) : Nat := wdN (fun k => f (64 * j + k)) 64
noncomputable def wordsOf (f : Nat → Bool) (m : Nat) : List Int := (List.range m).map fun j => ((wordAt f j : Nat) : Int)
noncomputable def setOf (n : Nat) (f : Nat → Bool) : S_bits_Set := ⟨(n : Int), wordsOf f ((n + 63) / 64)⟩
def els (n : Nat) (f : Nat → Bool) : List Int := ((List.range n).filter f).map fun (k : Nat) => (k : Int)
def Low (n : Nat) (f : Nat → Bool) : Prop := ∀ k, f k = true → k < n
def addF (n : Nat) (f : Nat → Bool) (l : List Int) : Nat → Bool := fun k => f k || (decide (k < n) && decide ((k : Int) ∈ l))
theorem words_len (f : Nat → Bool) (m : Nat) : (wordsOf f m).length = m := by simp [wordsOf]
theorem words_ix {f : Nat → Bool} {m j : Nat} (h : j < m) : ix (wordsOf f m) (j : Int) = ((wordAt f j : Nat) : Int) := by
  rw [ix_nat (by rw [words_len]; exact h)]
  simp [wordsOf]
theorem word_congr {f g : Nat → Bool} {j : Nat} (h : ∀ k, k < 64 → f (64 * j + k) = g (64 * j + k)) : wordAt f j = wordAt g j := wdN_congr h
theorem words_congr {f g : Nat → Bool} {m : Nat} (h : ∀ k, k < 64 * m → f k = g k) : wordsOf f m = wordsOf g m := by
  unfold wordsOf
  apply List.map_congr_left
  intro j hj
  have := List.mem_range.1 hj
  rw [word_congr fun k hk => h _ (by omega)]
theorem set_congr {f g : Nat → Bool} {n : Nat} (h : ∀ k, f k = g k) : setOf n f = setOf n g := by
  rw [show f = g from funext h]
theorem words_set {f : Nat → Bool} {m k : Nat} {v : Nat} (hk : k / 64 < m) (g : Nat → Bool) (hv : v = wordAt g (k / 64)) (hg : ∀ i, i / 64 ≠ k / 64 → g i = f i) : (wordsOf f m).set (k / 64) ((v : Nat) : Int) = wordsOf g m := by
  apply List.ext_getElem (by simp [wordsOf])
  intro j h1 h2
  rw [List.getElem_set]
  simp only [wordsOf, List.getElem_map, List.getElem_range]
  by_cases e : k / 64 = j
  · rw [if_pos e, hv, e]
  · rw [if_neg e, word_congr fun i hi => (hg (64 * j + i) (by omega)).symm]
theorem tdiv64 (k : Nat) : Int.tdiv (k : Int) 64 = ((k / 64 : Nat) : Int) := by
  rw [Int.tdiv_eq_ediv_of_nonneg (by omega)]
  omega
theorem tmod64 (k : Nat) : Int.tmod (k : Int) 64 = ((k % 64 : Nat) : Int) := by
  rw [Int.tmod_eq_emod_of_nonneg (by omega)]
  omega
theorem may_b {fu : Nat} {s : S_bits_Set} {k : Int} : bits_Set_may.f fu s k = some (decide (0 ≤ k) && decide (k < s.size)) := by
  unfold bits_Set_may.f
  by_cases h : k ≥ 0
  · have h' : 0 ≤ k := h
    simp [h']
  · have h' : ¬ 0 ≤ k := h
    simp [h']
theorem one_eq {n : Nat} {f : Nat → Bool} {x : Int} {fu : Nat} (hn : n ≤ 100000) (op : Int → Int → Int) (g : Bool → Bool → Bool) (hop : ∀ (g' : Nat → Bool) (r : Nat), r < 64 → op ((wdN g' 64 : Nat) : Int) (shL .u64 1 (r : Int)) = ((wdN (fun k => g (g' k) (decide (k = r))) 64 : Nat) : Int)) (hg : ∀ b, g b false = b) :
    ((if (decide (0 ≤ x) && decide (x < (n : Int))) = true then if 0 ≤ (IntKind.i64.wrap (Int.tdiv x 64)) ∧ (IntKind.i64.wrap (Int.tdiv x 64)) < (List.length (wordsOf f ((n + 63) / 64)) : Int) then if 0 ≤ (Int.tmod x 64) then if 0 ≤ (IntKind.i64.wrap (Int.tdiv x 64)) ∧ (IntKind.i64.wrap (Int.tdiv x 64)) < (List.length (wordsOf f ((n + 63) / 64)) : Int) then some ((List.set (wordsOf f ((n + 63) / 64)) (Int.toNat (IntKind.i64.wrap (Int.tdiv x 64))) (op (ix (wordsOf f ((n + 63) / 64)) (IntKind.i64.wrap (Int.tdiv x 64))) (shL .u64 1 (Int.tmod x 64))))) else none else none else none else some (wordsOf f ((n + 63) / 64))) : Option (List Int)) =
      some (wordsOf (fun k => g (f k) (decide (k < n) && decide ((k : Int) = x))) ((n + 63) / 64)) := by
  by_cases h : 0 ≤ x ∧ x < (n : Int)
  · obtain ⟨j, rfl⟩ : ∃ j : Nat, x = (j : Int) := ⟨x.toNat, by omega⟩
    have hj : j / 64 < (n + 63) / 64 := by omega
    rw [decide_eq_true h.1, decide_eq_true h.2, Bool.true_and, if_pos rfl, tdiv64, tmod64, w64 (by omega) (by omega), if_pos ⟨by omega, by rw [words_len]; omega⟩, if_pos (by omega), if_pos ⟨by omega, by rw [words_len]; omega⟩, words_ix hj, Int.toNat_natCast]
    unfold wordAt
    rw [hop _ _ (by omega)]
    refine congrArg some (words_set hj _ ?_ ?_)
    rotate_left
    · intro i hi
      have : ¬ ((i : Int) = (j : Int)) := by omega
      simp [this, hg]
    · unfold wordAt
      refine wdN_congr fun k hk => ?_
      congr 1
      by_cases e : k = j % 64
      · have e1 : 64 * (j / 64) + k = j := by omega
        have e2 : j < n := by omega
        rw [e1, decide_eq_true e2, decide_eq_true e, decide_eq_true (rfl : (j : Int) = (j : Int))]
        rfl
      · have e1 : ¬ ((64 * (j / 64) + k : Nat) : Int) = (j : Int) := by omega
        simp only [e, e1, decide_false, Bool.and_false]
  · have hb : (decide (0 ≤ x) && decide (x < (n : Int))) = false := by
      by_cases h0 : 0 ≤ x
      · rw [decide_eq_false (fun q => h ⟨h0, q⟩), Bool.and_false]
      · rw [decide_eq_false h0, Bool.false_and]
    rw [hb, if_neg (by decide)]
    refine congrArg some (words_congr fun k _ => ?_)
    have : (decide (k < n) && decide ((k : Int) = x)) = false := by
      by_cases e : (k : Int) = x
      · have : ¬ k < n := by omega
        simp [this]
      · simp [e]
    rw [this, hg]
theorem add_eq {fu n : Nat} {f : Nat → Bool} {l : List Int} (hn : n ≤ 100000) (hl : l.length ≤ 100000) (hf : l.length < fu) : bits_Set_Add.f fu (setOf n f) l = some (setOf n (addF n f l)) := by
  unfold bits_Set_Add.f
  have : loopM (bits_Set_Add.s0 fu (setOf n f) l) fu (0, (setOf n f).words) = some (wordsOf (addF n f l) ((n + 63) / 64)) := by
    refine loopM_run (S := fun j => ((j : Int), wordsOf (addF n f (l.take j)) ((n + 63) / 64))) l.length ?_ ?_ ?_ hf
    · simp only [show wordsOf (addF n f (l.take 0)) ((n + 63) / 64) = wordsOf f ((n + 63) / 64) from words_congr fun k _ => by simp [addF]]
      rfl
    · intro j hj
      unfold bits_Set_Add.s0
      have c1 : 0 ≤ (j : Int) ∧ (j : Int) < (l.length : Int) := by omega
      simp only
      rw [decide_eq_true c1.2, if_pos rfl, if_pos c1, ix_nat hj, may_b, next64 hj (by omega)]
      simp only [Option.bind_some]
      rw [show (setOf n f).size = (n : Int) from rfl, one_eq (fu := fu) hn (bOr .u64) (fun a b => a || b) (fun g r hr => or_wd hr) (by simp)]
      simp only [Option.bind_some]
      rw [words_congr fun k _ => show _ = addF n f (l.take (j + 1)) k from ?_]
      simp only [addF, take_next hj, List.mem_append, List.mem_singleton]
      cases f k <;> cases decide (k < n) <;> simp
    · unfold bits_Set_Add.s0
      rw [decide_eq_false (show ¬ ((l.length : Int) < (l.length : Int)) by omega), if_neg (by decide), List.take_length]
  rw [this]
  rfl
theorem filter_first {p q : Nat → Bool} {k n : Nat} (hk : k < n) (h1 : ∀ j, j < k → p j = false) (h2 : p k = true) (h3 : ∀ j, k < j → p j = q j) (h4 : ∀ j, j ≤ k → q j = false) : (List.range n).filter p = k :: (List.range n).filter q := by
  obtain ⟨m, rfl⟩ : ∃ m, n = k + 1 + m := ⟨n - (k + 1), by omega⟩
  have e1 : (List.range k).filter p = [] := by
    rw [List.filter_eq_nil_iff]
    intro j hj
    rw [h1 j (List.mem_range.1 hj)]
    decide
  have e2 : (List.range (k + 1)).filter q = [] := by
    rw [List.filter_eq_nil_iff]
    intro j hj
    rw [h4 j (by have := List.mem_range.1 hj; omega)]
    decide
  rw [List.range_add, List.filter_append, List.filter_append, e2, List.range_succ, List.filter_append, e1]
  simp only [List.filter_cons, h2, if_true, List.filter_nil, List.nil_append, List.cons_append, List.cons.injEq, true_and]
  apply List.filter_congr
  intro j hj
  obtain ⟨i, _, rfl⟩ := List.mem_map.1 hj
  exact h3 _ (by omega)
theorem low_bits {k q : Nat} (h : 2 ^ k * (2 * q + 1) < 2 ^ 64) : (List.range 64).filter (fun r => (2 ^ k * (2 * q + 1)).testBit r) = k :: (List.range 64).filter (fun r => (2 ^ k * (2 * q)).testBit r) := by
  refine filter_first (low_neg h).1 (fun j hj => ?_) ?_ (fun j hj => ?_) (fun j hj => ?_)
  · rw [tb0, if_pos hj]
  · rw [tb0, if_neg (by omega), Nat.sub_self, Nat.testBit_zero]
    simp
  · rw [tb0, tb0, if_neg (by omega), if_neg (by omega)]
    obtain ⟨m, hm⟩ : ∃ m, j - k = m + 1 := ⟨j - k - 1, by omega⟩
    rw [hm, Nat.testBit_succ, Nat.testBit_succ, show (2 * q + 1) / 2 = q by omega, show 2 * q / 2 = q by omega]
  · rw [tb0]
    split
    · rfl
    · rw [show j - k = 0 by omega, Nat.testBit_zero]
      simp
theorem list_in {fu i : Nat} {s : List Int × Int} (hs : s.2 = (i : Int)) (hi : i ≤ 100000) : ∀ (c x k : Nat) (acc : List Int), x < 2 ^ 64 → ((List.range 64).filter fun r => x.testBit r).length = c → c < k → acc.length + c ≤ 1000000 →
    loopM (bits_Set_List.s1 fu s) k (acc, (x : Int)) = some (acc ++ ((List.range 64).filter fun r => x.testBit r).map fun r => ((64 * i + r : Nat) : Int))
  | c, x, 0, acc, hx, hc, hk, ha => by omega
  | c, x, k + 1, acc, hx, hc, hk, ha => by
    unfold loopM
    by_cases e : x = 0
    · subst e
      have : bits_Set_List.s1 fu s (acc, ((0 : Nat) : Int)) = some (.inl acc) := by
        unfold bits_Set_List.s1
        rfl
      rw [this]
      simp
    · obtain ⟨t, q, hx'⟩ := low_split e
      rw [hx'] at hx hc ⊢
      have hl := low_bits hx
      have ht := (low_neg hx).1
      have h0 : ¬ ((2 ^ t * (2 * q + 1) : Nat) : Int) = 0 := by
        intro z
        rw [← hx'] at z
        omega
      have hpos : 0 < 2 ^ t * (2 * q + 1) := by omega
      have hlt : 2 ^ t * (2 * q) < 2 ^ 64 := Nat.lt_of_le_of_lt (Nat.mul_le_mul_left _ (by omega)) hx
      have hw : IntKind.u64.wrap (((2 ^ t * (2 * q + 1) : Nat) : Int) - 1) = ((2 ^ t * (2 * q + 1) - 1 : Nat) : Int) := by
        have : ((2 ^ t * (2 * q + 1) : Nat) : Int) - 1 = ((2 ^ t * (2 * q + 1) - 1 : Nat) : Int) := by omega
        rw [this]
        exact wrap_nat (by omega)
      have hst : bits_Set_List.s1 fu s (acc, ((2 ^ t * (2 * q + 1) : Nat) : Int)) = some (.inr (acc ++ [((64 * i + t : Nat) : Int)], ((2 ^ t * (2 * q) : Nat) : Int))) := by
        unfold bits_Set_List.s1
        simp only
        rw [decide_eq_false h0, Bool.not_false, if_pos rfl, tz_eq hx]
        simp only [Option.bind_some]
        rw [hs, w64 (n := (i : Int) * 64) (by omega) (by omega), w64 (by omega) (by omega), hw, and64 hx (by omega), low_and, show (i : Int) * 64 + (t : Int) = ((64 * i + t : Nat) : Int) by omega]
        rw [if_pos (Nat.le_trans (by simp only [List.length_cons, List.length_nil]; omega : _ ≤ 1000001) (by decide))]
      rw [hst, hl]
      rw [hl, List.length_cons] at hc
      have ih := list_in (fu := fu) hs hi (c - 1) (2 ^ t * (2 * q)) k (acc ++ [((64 * i + t : Nat) : Int)]) hlt (by omega) (by omega) (by simp only [List.length_append, List.length_cons, List.length_nil]; omega)
      simp only
      rw [ih]
      simp
theorem els_add (f : Nat → Bool) (m n : Nat) : els (m + n) f = els m f ++ ((List.range n).filter fun k => f (m + k)).map fun k => ((m + k : Nat) : Int) := by
  unfold els
  rw [List.range_add, List.filter_append, List.map_append, List.filter_map, List.map_map]
  rfl
theorem els_len (n : Nat) (f : Nat → Bool) : (els n f).length = cnt f n := by simp [els, cnt]
theorem els_low {f : Nat → Bool} {n m : Nat} (h : Low n f) (hm : n ≤ m) : els m f = els n f := by
  obtain ⟨k, rfl⟩ : ∃ k, m = n + k := ⟨m - n, by omega⟩
  rw [els_add]
  have : (List.range k).filter (fun k => f (n + k)) = [] := by
    rw [List.filter_eq_nil_iff]
    intro i _ hi
    have := h _ hi
    omega
  rw [this]
  simp
theorem cnt_le (f : Nat → Bool) (n : Nat) : cnt f n ≤ n := by
  unfold cnt
  exact Nat.le_trans (List.length_filter_le _ _) (by simp)
theorem list_eq {fu n : Nat} {f : Nat → Bool} (hn : n ≤ 100000) (hf : n + 64 < fu) (hlow : Low n f) : bits_Set_List.f fu (setOf n f) = some (els n f) := by
  unfold bits_Set_List.f
  have : loopM (bits_Set_List.s0 fu (setOf n f)) fu ([], 0) = some (els (64 * ((n + 63) / 64)) f) := by
    refine loopM_run (S := fun j => (els (64 * j) f, (j : Int))) ((n + 63) / 64) (by simp [els]) ?_ ?_ (by omega)
    · intro j hj
      unfold bits_Set_List.s0
      have hw : (setOf n f).words = wordsOf f ((n + 63) / 64) := rfl
      have c1 : 0 ≤ (j : Int) ∧ (j : Int) < ((wordsOf f ((n + 63) / 64)).length : Int) := by rw [words_len]; omega
      simp only [hw]
      have hb : ((List.range 64).filter fun r => (wordAt f j).testBit r) = (List.range 64).filter fun r => f (64 * j + r) := by
        apply List.filter_congr
        intro r hr
        unfold wordAt
        rw [wdN_bit]
        simp [List.mem_range.1 hr]
      have hle : ((List.range 64).filter fun r => (wordAt f j).testBit r).length ≤ 64 := Nat.le_trans (List.length_filter_le _ _) (by simp)
      have hel : (els (64 * j) f).length ≤ 64 * j := by rw [els_len]; exact cnt_le _ _
      rw [decide_eq_true c1.2, if_pos rfl, if_pos c1, words_ix hj, list_in (fu := fu) (i := j) (s := (els (64 * j) f, (j : Int))) rfl (by omega) _ (wordAt f j) fu (els (64 * j) f) (wdN_lt _ 64) rfl (by omega) (by omega), next64 hj (by omega)]
      simp only [Option.bind_some]
      rw [hb, ← els_add, show 64 * j + 64 = 64 * (j + 1) by omega]
    · unfold bits_Set_List.s0
      have hw : (setOf n f).words = wordsOf f ((n + 63) / 64) := rfl
      simp only [hw]
      rw [words_len, decide_eq_false (by omega), if_neg (by decide)]
  rw [this, els_low hlow (by omega)]
  rfl
theorem mem_els {n k : Nat} {f : Nat → Bool} : (k : Int) ∈ els n f ↔ k < n ∧ f k = true := by
  unfold els
  rw [List.mem_map]
  constructor
  · rintro ⟨i, hi, e⟩
    have : i = k := by omega
    subst this
    obtain ⟨h1, h2⟩ := List.mem_filter.1 hi
    exact ⟨List.mem_range.1 h1, h2⟩
  · rintro ⟨h1, h2⟩
    exact ⟨k, List.mem_filter.2 ⟨List.mem_range.2 h1, h2⟩, rfl⟩
theorem clone_eq {fu n : Nat} {f : Nat → Bool} (hn : n ≤ 100000) : bits_Set_clone.f fu (setOf n f) = some (setOf n f) := by
  unfold bits_Set_clone.f slices_Clone.f
  rw [show (setOf n f).words = wordsOf f ((n + 63) / 64) from rfl, words_len, if_pos (Nat.le_trans (by omega : _ ≤ 1000000) (by decide))]
  rfl
theorem with_eq {fu n : Nat} {f g : Nat → Bool} (hn : n ≤ 90000) (hf : n + 64 < fu) (hg : Low n g) : bits_Set_With.f fu (setOf n f) (setOf n g) = some (setOf n fun k => f k || g k) := by
  unfold bits_Set_With.f
  have hl := cnt_le g n
  rw [clone_eq (by omega), list_eq (by omega) hf hg]
  simp only [Option.bind_some]
  rw [add_eq (by omega) (by rw [els_len]; omega) (by rw [els_len]; omega)]
  refine congrArg some (set_congr fun k => ?_)
  unfold addF
  congr 1
  rw [Bool.eq_iff_iff]
  simp only [Bool.and_eq_true, decide_eq_true_eq, mem_els]
  exact ⟨fun h => h.2.2, fun h => ⟨hg k h, hg k h, h⟩⟩
theorem with1_eq {fu n : Nat} {f : Nat → Bool} (hn : n ≤ 90000) (hf : n + 64 < fu) (hg : Low n f) : bits_Set_With_a1.f fu (setOf n f) = some (setOf n f) := by
  have h := with_eq (fu := fu) (f := f) hn hf hg
  unfold bits_Set_With.f at h
  unfold bits_Set_With_a1.f
  rw [h]
  refine congrArg some (set_congr fun k => ?_)
  simp
theorem of_eq {fu n : Nat} {l : List Int} (hn : n ≤ 3072) (hl : l.length ≤ 100000) (hf : l.length < fu) : bits_Of.f fu (n : Int) l = some (setOf n (addF n (fun _ => false) l)) := by
  unfold bits_Of.f
  have e1 : mnI (mxI (n : Int) 0) 3072 = (n : Int) := by
    unfold mxI mnI
    rw [if_neg (by omega)]
    split <;> omega
  have e2 : IntKind.i64.wrap (Int.tdiv (IntKind.i64.wrap ((IntKind.i64.wrap ((n : Int) + 64)) - 1)) 64) = (((n + 63) / 64 : Nat) : Int) := by
    rw [w64 (n := (n : Int) + 64) (by omega) (by omega), w64 (n := (n : Int) + 64 - 1) (by omega) (by omega), show (n : Int) + 64 - 1 = ((n + 63 : Nat) : Int) by omega, tdiv64, w64 (by omega) (by omega)]
  rw [e1, e2, if_pos ⟨by omega, Nat.le_trans (by omega : _ ≤ 100000) (by decide)⟩, Int.toNat_natCast]
  have e3 : (⟨(n : Int), List.replicate ((n + 63) / 64) (0 : Int)⟩ : S_bits_Set) = setOf n fun _ => false := by
    unfold setOf
    congr 1
    apply List.ext_getElem (by simp [wordsOf])
    intro i h1 h2
    have : wordAt (fun _ => false) i = 0 := by
      apply Nat.eq_of_testBit_eq
      intro k
      unfold wordAt
      rw [wdN_bit]
      simp
    simp [wordsOf, this]
  rw [e3, add_eq (by omega) hl hf]
  rfl
structure AA where
  r : Int
  c : Nat → Bool
  e : Nat → Bool
  m : Nat → Bool
  w : Nat → Bool
noncomputable def AA.of (n : Nat) (a : AA) : S_alloc_Alloc := ⟨a.r, (setOf n a.c, setOf n a.e, setOf n a.m, setOf n a.w)⟩
structure AOk (n : Nat) (a : AA) : Prop where
  c : Low n a.c
  e : Low n a.e
  m : Low n a.m
  w : Low n a.w
  r : 0 ≤ a.r ∧ a.r ≤ 1000
theorem copied_eq {fu n : Nat} {f : Nat → Bool} (hn : n ≤ 90000) (hf : n + 64 < fu) (h : Low n f) : alloc_copied.f fu (setOf n f) = some (setOf n f) := by
  unfold alloc_copied.f
  rw [with1_eq hn hf h]
  rfl
theorem addF_low {n : Nat} {f : Nat → Bool} {l : List Int} (h : Low n f) : Low n (addF n f l) := by
  intro k hk
  unfold addF at hk
  rcases Bool.or_eq_true_iff.1 hk with h' | h'
  · exact h k h'
  · exact of_decide_eq_true (Bool.and_eq_true_iff.1 h').1
theorem works_eq {fu n : Nat} {a : AA} (hn : n ≤ 90000) (hf : n + 64 < fu) (h : AOk n a) : alloc_Alloc_Works.f fu (a.of n) = some (setOf n a.w) := by
  unfold alloc_Alloc_Works.f
  rw [show (a.of n).sets.2.2.2 = setOf n a.w from rfl, copied_eq hn hf h.w]
  rfl
theorem anew_eq {fu n : Nat} {f g : Nat → Bool} {r : Int} (hn : n ≤ 90000) (hf : n + 64 < fu) (h1 : Low n f) (h2 : Low n g) (hr : 0 ≤ r) : alloc_New.f fu (setOf n f) (setOf n g) r = some (some ((⟨r, f, g, f, f⟩ : AA).of n), 0) := by
  unfold alloc_New.f bits_Set_Size.f
  simp only [Option.bind_some]
  rw [show (setOf n f).size = (n : Int) from rfl, show (setOf n g).size = (n : Int) from rfl, decide_eq_true (rfl : (n : Int) = (n : Int)), if_neg (by decide), decide_eq_false (show ¬ r < 0 by omega), if_neg (by decide), copied_eq hn hf h2, copied_eq hn hf h1]
  rfl
def upd {α : Type} (g : Nat → α → α) (lo j : Nat) (cs : List α) : List α := cs.mapIdx fun i c => if lo ≤ i ∧ i < lo + j then g i c else c
abbrev Cell := S_pmem_cell
abbrev Dev := S_pmem_Device
def pick (p : S_pmem_plan) : Int := if p.list.length = 0 then -1 else ix p.list p.at_
def mayI (off : Bool) (k n : Int) : Int := if off = true then 3 else if k < 0 ∨ k ≥ n then 2 else 0
def loadD (d : Dev) (k : Int) : Int × Int := if mayI d.off k (d.cells.length : Int) = 0 then ((ix d.cells k).stored, 0) else (0, mayI d.off k (d.cells.length : Int))
def I64 (x : Int) : Prop := -9223372036854775808 ≤ x ∧ x ≤ 9223372036854775807
def U64 (x : Int) : Prop := 0 ≤ x ∧ x ≤ 18446744073709551615
def okC (c : Cell) : Prop := U64 c.lasts ∧ U64 c.stored ∧ U64 c.sent
structure DevOk (n : Nat) (B : Int) (d : Dev) : Prop where
  len : d.cells.length = n
  val : ∀ c ∈ d.cells, okC c
  at0 : d.plan.list.length ≠ 0 → 0 ≤ d.plan.at_ ∧ d.plan.at_ < (d.plan.list.length : Int)
  pl : d.plan.list.length ≤ 1000
  arm : d.armed = true → 0 ≤ d.left ∧ d.left ≤ 9223372036854775807 ∧ d.off = decide (d.left = 0)
  una : d.armed = false → d.off = false
  st : 0 ≤ d.steps ∧ d.steps ≤ B
theorem may_eq {fu : Nat} {d : Dev} {k m : Int} : pmem_Device_may.f fu d k m = some (mayI d.off k m) := by
  unfold pmem_Device_may.f mayI
  cases d.off
  · simp only [Bool.false_eq_true, if_false]
    by_cases h1 : k < 0
    · simp [h1]
    · by_cases h2 : k ≥ m <;> simp [h1, h2]
  · simp
theorem may_zero {b : Bool} {k m : Int} : mayI b k m = 0 ↔ b = false ∧ 0 ≤ k ∧ k < m := by
  unfold mayI
  cases b
  · simp only [Bool.false_eq_true, if_false]
    split <;> simp <;> omega
  · simp
theorem load_eq {fu : Nat} {k : Int} {d : Dev} : pmem_Device_Load.f fu d k = some (loadD d k) := by
  unfold pmem_Device_Load.f loadD
  rw [may_eq]
  simp only [Option.bind_some]
  by_cases e : mayI d.off k (d.cells.length : Int) = 0
  · obtain ⟨ho, h0, h1⟩ := may_zero.1 e
    rw [decide_eq_true e, if_pos e, if_neg (by decide), if_pos ⟨h0, h1⟩]
  · rw [decide_eq_false e, if_neg e, if_pos (by decide)]
theorem lines_eq {fu : Nat} {d : Dev} (h : d.cells.length ≤ 1000000) : pmem_Device_Lines.f fu d = some ((d.cells.length / 8 : Nat) : Int) := by
  unfold pmem_Device_Lines.f
  rw [Int.tdiv_eq_ediv_of_nonneg (by omega), w64 (by omega) (by omega)]
  congr 1
def octs (ws : List Int) : List Int := ws.flatMap fun w => lay w.toNat 8
theorem octs_len : ∀ ws : List Int, (octs ws).length = 8 * ws.length
  | [] => rfl
  | w :: ws => by
    have := octs_len ws
    simp only [octs, List.flatMap_cons, List.length_append, lay_len, List.length_cons] at *
    omega
theorem octs_append (a b : List Int) : octs (a ++ b) = octs a ++ octs b := by simp [octs]
theorem octs_one (w : Int) : octs [w] = lay w.toNat 8 := by simp [octs]
theorem octets_eq {fu : Nat} {ws : List Int} (hv : ∀ w ∈ ws, U64 w) (hl : ws.length ≤ 100000) (hf : ws.length + 8 < fu) : octet_Octets.f fu ws = some (octs ws) := by
  unfold octet_Octets.f
  have : loopM (octet_Octets.s0 fu ws) fu ([], 0) = some (octs ws) := by
    refine loopM_run (S := fun j => (octs (ws.take j), (j : Int))) ws.length (by simp [octs]) ?_ ?_ (by omega)
    · intro j hj
      unfold octet_Octets.s0
      have w3 : IntKind.i64.wrap ((j : Int) + 1) = ((j + 1 : Nat) : Int) := by rw [w64 (by omega) (by omega)]; omega
      have c1 : 0 ≤ (j : Int) ∧ (j : Int) < (ws.length : Int) := by omega
      have hu := hv _ (List.getElem_mem hj)
      obtain ⟨v, hv'⟩ : ∃ v : Nat, ws[j] = (v : Int) := ⟨ws[j].toNat, by unfold U64 at hu; omega⟩
      simp only [w3]
      rw [decide_eq_true c1.2, if_pos rfl, if_pos c1, ix_nat hj, hv', show octet_Lay.f fu (v : Int) 8 = some (lay v 8) from olay_eq (n := 8) (by omega) (by omega)]
      simp only [Option.bind_some]
      rw [if_pos (by rw [octs_len, lay_len, List.length_take]; exact Nat.le_trans (by omega : _ ≤ 1000008) (by decide)), take_next hj, octs_append, octs_one, hv', Int.toNat_natCast]
    · unfold octet_Octets.s0
      rw [decide_eq_false (show ¬ ((ws.length : Int) < (ws.length : Int)) by omega), if_neg (by decide), List.take_length]
  rw [this]
  rfl
def storedD (d : Dev) : List Int := d.cells.map fun c => c.stored
theorem octs_drop (ws : List Int) (i : Nat) : (octs ws).drop (8 * i) = octs (ws.drop i) := by
  by_cases h : i ≤ ws.length
  · have e : octs ws = octs (ws.take i) ++ octs (ws.drop i) := by rw [← octs_append, List.take_append_drop]
    have hl : (octs (ws.take i)).length = 8 * i := by rw [octs_len, List.length_take]; omega
    rw [e, ← hl, List.drop_left]
  · rw [List.drop_of_length_le (by rw [octs_len]; omega), List.drop_of_length_le (by omega)]
    rfl
theorem read_long {fu : Nat} {l : List Int} (h : 8 ≤ l.length) : octet_Read.f fu l = octet_Read.f fu (l.take 8) := by
  have h8 : (l.take 8).length = 8 := by rw [List.length_take]; omega
  have e1 : mnI (l.length : Int) 8 = 8 := by unfold mnI; split <;> omega
  have e2 : mnI ((l.take 8).length : Int) 8 = 8 := by rw [h8]; rfl
  have e3 : cut l 0 8 = l.take 8 := rfl
  have e4 : cut (l.take 8) 0 8 = l.take 8 := by
    unfold cut
    rw [List.take_of_length_le (by rw [h8]; decide)]
    rfl
  have es : octet_Read.s0 fu l = octet_Read.s0 fu (l.take 8) := by
    unfold octet_Read.s0
    rw [e1, e2, e3, e4]
  unfold octet_Read.f
  rw [e1, e2, es, if_pos (by omega), if_pos (by rw [h8]; decide)]
def wordsU (l : List Int) (j : Nat) : List Int := (List.range j).map fun i => ((num ((l.drop (8 * i)).take 8) : Nat) : Int)
theorem wordsU_succ (l : List Int) (j : Nat) : wordsU l (j + 1) = wordsU l j ++ [((num ((l.drop (8 * j)).take 8) : Nat) : Int)] := by
  simp [wordsU, List.range_succ]
theorem wordsU_len (l : List Int) (j : Nat) : (wordsU l j).length = j := by simp [wordsU]
theorem chunk_len {l : List Int} {j : Nat} (h : 8 * j + 8 ≤ l.length) : ((l.drop (8 * j)).take 8).length = 8 := by
  rw [List.length_take, List.length_drop]
  omega
theorem octs_words {l : List Int} (hb : Bytes l) : ∀ j, 8 * j ≤ l.length → octs (wordsU l j) = l.take (8 * j)
  | 0, _ => by simp [wordsU, octs]
  | j + 1, h => by
    have hc : ((l.drop (8 * j)).take 8).length = 8 := chunk_len (by omega)
    have hl := lay_num ((hb.drop (8 * j)).take 8)
    rw [hc] at hl
    rw [wordsU_succ, octs_append, octs_one, octs_words hb j (by omega), Int.toNat_natCast, hl, show 8 * (j + 1) = 8 * j + 8 from by omega, List.take_add]
theorem words_U64 {l : List Int} (hb : Bytes l) {n : Nat} : ∀ w ∈ wordsU l n, U64 w := by
  intro w hw
  obtain ⟨i, _, rfl⟩ := List.mem_map.1 hw
  have := num_lt8 ((hb.drop (8 * i)).take 8) (by rw [List.length_take]; omega)
  unfold U64
  omega
theorem words_eq {fu n : Nat} {l : List Int} (hb : Bytes l) (hl : l.length = 8 * n) (hn : n ≤ 100000) (hf : n + 8 < fu) : octet_Words.f fu l = some (wordsU l n) := by
  unfold octet_Words.f
  have : loopM (octet_Words.s0 fu) fu (l, []) = some (wordsU l n) := by
    refine loopM_run (S := fun j => (l.drop (8 * j), wordsU l j)) n (by simp [wordsU]) ?_ ?_ (by omega)
    · intro j hj
      unfold octet_Words.s0
      have hdl : (l.drop (8 * j)).length = 8 * n - 8 * j := by rw [List.length_drop, hl]
      have c1 : ((l.drop (8 * j)).length : Int) ≥ 8 := by omega
      have hc : ((l.drop (8 * j)).take 8).length = 8 := chunk_len (by omega)
      have hr : octet_Read.f fu (l.drop (8 * j)) = some ((num ((l.drop (8 * j)).take 8) : Nat) : Int) := by
        rw [read_long (by omega)]
        exact read_eq ((hb.drop _).take _) (by omega) (by omega)
      have e1 : cut (l.drop (8 * j)) 8 ((l.drop (8 * j)).length : Int) = l.drop (8 * (j + 1)) := by
        unfold cut
        rw [Int.toNat_natCast, List.take_length, show Int.toNat 8 = 8 from rfl, List.drop_drop]
        congr 1
      simp only [e1]
      rw [decide_eq_true c1, if_pos rfl, hr]
      simp only [Option.bind_some]
      rw [if_pos (by rw [wordsU_len]; exact Nat.le_trans (by simp only [List.length_cons, List.length_nil]; omega : _ ≤ 100001) (by decide)), if_pos c1, wordsU_succ]
    · unfold octet_Words.s0
      have : ¬ (((l.drop (8 * n)).length : Int) ≥ 8) := by rw [List.length_drop]; omega
      simp only [this, decide_false, Bool.false_eq_true, if_false]
  rw [this]
  rfl
def wordC (w : Int) : Cell := ⟨w, w, 0, false⟩
def fromD (l : List Int) : Dev := ⟨(wordsU l (8 * (l.length / 64))).map wordC, ⟨[], 0⟩, false, false, 0, 0⟩
theorem wordsU_take {l : List Int} {n : Nat} : ∀ j, 8 * j ≤ n → wordsU (l.take n) j = wordsU l j
  | 0, _ => rfl
  | j + 1, h => by
    rw [wordsU_succ, wordsU_succ, wordsU_take j (by omega)]
    congr 4
    rw [List.drop_take, List.take_take, Nat.min_eq_left (by omega)]
def inL (d : Dev) (line : Int) : Prop := 0 ≤ line ∧ line < ((d.cells.length / 8 : Nat) : Int)
instance (d : Dev) (line : Int) : Decidable (inL d line) := inferInstanceAs (Decidable (_ ∧ _))
def lineC (d : Dev) (line : Int) : List Int := (List.range 8).map fun (i : Nat) => (ix d.cells (8 * line + (i : Int))).stored
def readD (d : Dev) (line : Int) : List Int × Int := if inL d line then if d.off = true then ([], 3) else (octs (lineC d line), 0) else ([], 2)
theorem pmay_eq {fu : Nat} {d : Dev} {k : Int} (hl : d.cells.length ≤ 1000000) : press_may.f fu d k = some (if inL d k then 0 else 2) := by
  unfold press_may.f
  rw [lines_eq hl]
  by_cases h1 : k < 0
  · rw [decide_eq_true h1, if_neg (show ¬ inL d k from fun q => by have := q.1; omega)]
    rfl
  · rw [decide_eq_false h1, if_neg (by decide)]
    simp only [Option.bind_some]
    by_cases h2 : k ≥ ((d.cells.length / 8 : Nat) : Int)
    · rw [decide_eq_true h2, if_neg (show ¬ inL d k from fun q => by have := q.2; omega)]
      rfl
    · rw [decide_eq_false h2, if_pos (show inL d k from ⟨by omega, by omega⟩)]
      rfl
theorem arr_set8 (a : Arr 8 Int) (j : Nat) (v : Int) (hj : j < 8) (f : Nat → Int) (hf : ∀ i, i < j → ix a.l (i : Int) = f i) (hv : v = f j) : ∀ i, i < j + 1 → ix (Arr.set a (j : Int) v).l (i : Int) = f i := by
  intro i hi
  have hl := a.h
  have e : (Arr.set a (j : Int) v).l = a.l.set j v := by simp [Arr.set]
  rw [e, ix_nat (by rw [List.length_set]; omega), List.getElem_set]
  by_cases h : j = i
  · subst h
    rw [if_pos rfl, hv]
  · rw [if_neg h, ← ix_nat (by omega)]
    exact hf i (by omega)
theorem read_dev {fu n : Nat} {B line : Int} {d : Dev} (h : DevOk n B d) (hn : n ≤ 100000) (hf : 2000 < fu) : press_Read.f fu d line = some (readD d line) := by
  unfold press_Read.f readD
  have hlen := h.len
  rw [pmay_eq (by omega)]
  simp only [Option.bind_some]
  by_cases hi : inL d line
  · rw [if_pos hi, if_neg (by decide), if_pos hi]
    have hin := hi
    unfold inL at hin
    have w1 : IntKind.i64.wrap (line * 8) = 8 * line := by rw [w64 (by omega) (by omega)]; omega
    have hld : ∀ j : Nat, j < 8 → pmem_Device_Load.f fu d (8 * line + (j : Int)) = some (if d.off = true then (0, 3) else ((ix d.cells (8 * line + (j : Int))).stored, 0)) := by
      intro j hj
      rw [load_eq]
      unfold loadD
      cases ho : d.off
      · rw [if_pos (may_zero.2 ⟨rfl, by omega, by omega⟩), if_neg (by decide)]
      · have : mayI true (8 * line + (j : Int)) (d.cells.length : Int) = 3 := rfl
        rw [this, if_neg (by decide), if_pos rfl]
    cases ho : d.off
    · rw [if_neg (by decide)]
      have loop : ∃ e, loopM (press_Read.s0 fu d line) fu (0, Arr.rep 8 (0 : Int)) = some e ∧ ∃ a : Arr 8 Int, e = .inr a ∧ ∀ i : Nat, i < 8 → ix a.l (i : Int) = (ix d.cells (8 * line + (i : Int))).stored := by
        refine loopM_inv (fun j s => ∃ a : Arr 8 Int, s = ((j : Int), a) ∧ ∀ i : Nat, i < j → ix a.l (i : Int) = (ix d.cells (8 * line + (i : Int))).stored) 8 _ ?_ ?_ (j := 0) ⟨_, rfl, fun i hi => by omega⟩ (by omega) (by omega)
        · rintro j _ hj ⟨a, rfl, ha⟩
          unfold press_Read.s0
          have w3 : IntKind.i64.wrap (8 * line + (j : Int)) = 8 * line + (j : Int) := w64 (by omega) (by omega)
          simp only [w1, w3]
          rw [decide_eq_true (show (j : Int) < 8 by omega), if_pos rfl, hld j hj, ho, if_neg (by decide), next64 hj (by decide)]
          simp only [Option.bind_some, decide_true, Bool.not_true, Bool.false_eq_true, if_false]
          rw [if_pos (by omega)]
          exact ⟨_, rfl, _, rfl, arr_set8 a j _ hj (fun i => (ix d.cells (8 * line + (i : Int))).stored) ha rfl⟩
        · rintro _ ⟨a, rfl, ha⟩
          unfold press_Read.s0
          rw [decide_eq_false (show ¬ (((8 : Nat) : Int) < 8) by decide), if_neg (by decide)]
          exact ⟨_, rfl, a, rfl, ha⟩
      obtain ⟨e, h1, a, rfl, ha⟩ := loop
      have hal : a.l = lineC d line := by
        apply List.ext_getElem (by rw [a.h]; simp [lineC])
        intro i h1 h2
        have : i < 8 := by rw [a.h] at h1; exact h1
        rw [← ix_nat h1, ha i this]
        simp [lineC]
      have hu : ∀ w ∈ lineC d line, U64 w := by
        intro w hw
        obtain ⟨i, hi8, rfl⟩ := List.mem_map.1 hw
        have := List.mem_range.1 hi8
        obtain ⟨p, hp⟩ : ∃ p : Nat, 8 * line + (i : Int) = (p : Int) := ⟨(8 * line + (i : Int)).toNat, by omega⟩
        rw [hp, ix_nat (by omega)]
        exact (h.val _ (List.getElem_mem _)).2.1
      rw [h1]
      simp only [Option.bind_some]
      rw [hal, octets_eq hu (by simp [lineC]) (by simp [lineC]; omega)]
      rfl
    · rw [if_pos rfl]
      have loop : loopM (press_Read.s0 fu d line) fu (0, Arr.rep 8 (0 : Int)) = some (.inl ([], 3)) := by
        obtain ⟨k, rfl⟩ : ∃ k, fu = k + 1 := ⟨fu - 1, by omega⟩
        unfold loopM
        have := hld 0 (by decide)
        rw [ho, if_pos rfl] at this
        unfold press_Read.s0
        have w3 : IntKind.i64.wrap (8 * line + 0) = 8 * line + ((0 : Nat) : Int) := by rw [w64 (by omega) (by omega)]; rfl
        simp only [w1, w3]
        rw [this]
        rfl
      rw [loop]
      rfl
  · rw [if_neg hi, if_pos (by decide), if_neg hi]
noncomputable def SO (n : Nat) (d : Dev) (a : AA) : S_shadow_Store := ⟨d, a.of n⟩
theorem sget_eq {fu n m : Nat} {B k : Int} {d : Dev} {a : AA} (h : DevOk m B d) (hm : m ≤ 100000) (hf : 2000 < fu) : shadow_Store_Get.f fu (SO n d a) k = some (readD d k) := by
  unfold shadow_Store_Get.f
  rw [show (SO n d a).device = d from rfl, read_dev h hm hf]
  rfl
structure Clean (d : Dev) : Prop where
  off : d.off = false
  arm : d.armed = false
  pl : d.plan.list = []
abbrev FU : Nat := 200000
structure SOk (n : Nat) (B : Int) (d : Dev) (a : AA) : Prop where
  dev : DevOk (8 * n) B d
  cl : Clean d
  al : AOk n a
def ln (d : Dev) (j : Nat) : List Int := octs (lineC d (j : Int))
theorem octs_byt (ws : List Int) : Bytes (octs ws) := by
  intro x hx
  unfold octs at hx
  obtain ⟨w, _, hw⟩ := List.mem_flatMap.1 hx
  exact lay_bytes _ _ x hw
structure Wr (n : Nat) (B : Int) (d : Dev) (a : AA) (k : Nat) (b : List Int) (d' : Dev) (a' : AA) : Prop where
  so : SOk n (B + 9) d' a'
  lt : k < n
  new : ln d' k = b
  old : ∀ j, j < n → j ≠ k → ln d' j = ln d j
  m : a'.m = a.m
  c : a'.c = a.c
  e : a'.e = a.e
  r : a'.r = a.r
abbrev Ls := S_dir_listed
def nm (x : Ls) : List Int := rn x.q.Name
def qOf (b : List Int) : S_api_Queue := queueOf (b.drop 8) (ix b 5).toNat
def dOf (b : List Int) : List Int := dirOf (b.drop 8) (ix b 5).toNat
def lastOk (out : List Ls) (q : S_api_Queue) : Prop := out = [] ∨ cmpL (rn ((ix out ((out.length - 1 : Nat) : Int)).q.Name)) (rn q.Name) < 0
instance (out : List Ls) (q : S_api_Queue) : Decidable (lastOk out q) := inferInstanceAs (Decidable (_ ∨ _))
def rdL (g : Int → List Int × Int) : List Int → List Ls → List Ls × Int
  | [], out => (out, 0)
  | at_ :: r, out => if (g at_).2 ≠ 0 then ([], (g at_).2) else if GetQ (g at_).1 ∧ lastOk out (qOf (g at_).1) then rdL g r (out ++ [⟨qOf (g at_).1, at_⟩]) else ([], 31)
def readP (g : Int → List Int × Int) (k : Int) : List Ls × Int :=
  if k = 0 then ([], 0) else if (g k).2 ≠ 0 then ([], (g k).2) else if GetD (g k).1 then rdL g (dOf (g k).1) [] else ([], 31)
theorem getd_bytes (d : Dev) (k : Int) : Bytes (readD d k).1 ∧ (readD d k).1.length ≤ 64 := by
  unfold readD
  split
  · split
    · exact ⟨by intro x hx; simp at hx, by simp⟩
    · refine ⟨octs_byt _, ?_⟩
      rw [octs_len]
      simp [lineC]
  · exact ⟨by intro x hx; simp at hx, by simp⟩
theorem getQ_name {b : List Int} (h : GetQ b) : NameOk (qOf b).Name ∧ (qOf b).Name.length ≤ 24 := by
  refine ⟨h.2.2.2.1.1, ?_⟩
  unfold qOf queueOf
  simp only [List.length_map]
  unfold part
  have := h.2.2.1
  rw [List.length_take]
  omega
theorem read_from {fu n m : Nat} {B : Int} {d : Dev} {a : AA} {t5 : S_api_Dir × Bool} (hfu : 3000 < fu) (h : DevOk m B d) (hm : m ≤ 100000) (hl : t5.1.Queues.length ≤ 16) :
    ∀ (k i : Nat) (out : List Ls), i ≤ t5.1.Queues.length → t5.1.Queues.length - i < k → out.length ≤ i → (∀ x ∈ out, x.q.Name.length ≤ 24) →
    (loopM (dir_read.s0 fu (SO n d a) t5) k (out, (i : Int))).bind (fun e9 => match e9 with | Sum.inl p => some p | Sum.inr x11 => some (x11, 0)) = some (rdL (readD d) (t5.1.Queues.drop i) out)
  | 0, i, out, _, h2, _, _ => by omega
  | k + 1, i, out, h1, h2, h3, h4 => by
    have hu : loopM (dir_read.s0 fu (SO n d a) t5) (k + 1) (out, (i : Int)) = (match dir_read.s0 fu (SO n d a) t5 (out, (i : Int)) with | none => none | some (.inl e) => some e | some (.inr s') => loopM (dir_read.s0 fu (SO n d a) t5) k s') := by
      conv => lhs; unfold loopM
      generalize dir_read.s0 fu (SO n d a) t5 (out, (i : Int)) = q
      rcases q with _ | _ | _ <;> rfl
    rw [hu]
    generalize hqs : t5.1.Queues = qs at *
    by_cases e : i < qs.length
    · have c0 : (i : Int) < (qs.length : Int) := by omega
      have c1 : 0 ≤ (i : Int) ∧ (i : Int) < (qs.length : Int) := by omega
      have w3 : IntKind.i64.wrap ((i : Int) + 1) = ((i + 1 : Nat) : Int) := by rw [w64 (by omega) (by omega)]; omega
      rw [List.drop_eq_getElem_cons e]
      generalize hat : qs[i] = at_
      obtain ⟨gb, gl⟩ := getd_bytes d at_
      have hgq : label_GetQueue.f fu (readD d at_).1 = some (if GetQ (readD d at_).1 then (qOf (readD d at_).1, true) else (noQ, false)) := queueGet_eq (by omega) gb (by omega)
      have hst : dir_read.s0 fu (SO n d a) t5 (out, (i : Int)) = if (readD d at_).2 ≠ 0 then some (.inl (.inl ([], (readD d at_).2))) else if GetQ (readD d at_).1 ∧ lastOk out (qOf (readD d at_).1) then some (.inr (out ++ [⟨qOf (readD d at_).1, at_⟩], ((i + 1 : Nat) : Int))) else some (.inl (.inl ([], 31))) := by
        unfold dir_read.s0
        simp only [hqs]
        rw [decide_eq_true c0, if_pos rfl, if_pos c1, ix_nat e, hat, sget_eq h hm (by omega), Option.bind_some]
        by_cases e1 : (readD d at_).2 = 0
        · rw [decide_eq_true e1, if_neg (by decide), if_neg (by simpa using e1), hgq, Option.bind_some]
          by_cases e2 : GetQ (readD d at_).1
          · have hn := getQ_name e2
            have hlim : out.length + ([(⟨qOf (readD d at_).1, at_⟩ : Ls)] : List Ls).length ≤ LIM := lim_of' (by simp; omega)
            rw [if_pos e2]
            simp only
            rw [if_neg (by decide)]
            by_cases e3 : out = []
            · rw [decide_eq_false (show ¬ ((out.length : Int) > 0) by rw [e3]; simp), if_neg (by decide), if_pos (show GetQ (readD d at_).1 ∧ lastOk out (qOf (readD d at_).1) from ⟨e2, .inl e3⟩), w3]
              exact if_pos hlim
            · have hp : 0 < out.length := List.length_pos_iff.2 e3
              have w4 : IntKind.i64.wrap ((out.length : Int) - 1) = ((out.length - 1 : Nat) : Int) := by rw [w64 (by omega) (by omega)]; omega
              have c3 : 0 ≤ ((out.length - 1 : Nat) : Int) ∧ ((out.length - 1 : Nat) : Int) < (out.length : Int) := by omega
              have hl1 : (ix out ((out.length - 1 : Nat) : Int)).q.Name.length ≤ 24 := by
                rw [ix_nat (show out.length - 1 < out.length by omega)]
                exact h4 _ (List.getElem_mem _)
              rw [decide_eq_true (show (out.length : Int) > 0 by omega), if_pos rfl, w4, if_pos c3, compare_eq (by omega) (by omega) (show (qOf (readD d at_).1).Name.length ≤ 300 by omega), Option.bind_some, w3]
              by_cases e4 : cmpL (rn (ix out ((out.length - 1 : Nat) : Int)).q.Name) (rn (qOf (readD d at_).1).Name) < 0
              · rw [decide_eq_false (show ¬ (cmpL (rn (ix out ((out.length - 1 : Nat) : Int)).q.Name) (rn (qOf (readD d at_).1).Name) ≥ 0) by omega), if_neg (by decide), if_pos (show GetQ (readD d at_).1 ∧ lastOk out (qOf (readD d at_).1) from ⟨e2, .inr e4⟩)]
                exact if_pos hlim
              · have hno : ¬ (GetQ (readD d at_).1 ∧ lastOk out (qOf (readD d at_).1)) := by
                  rintro ⟨_, hx | hx⟩
                  · exact e3 hx
                  · exact e4 hx
                rw [decide_eq_true (show cmpL (rn (ix out ((out.length - 1 : Nat) : Int)).q.Name) (rn (qOf (readD d at_).1).Name) ≥ 0 by omega), if_pos rfl, if_neg hno]
          · have hno : ¬ (GetQ (readD d at_).1 ∧ lastOk out (qOf (readD d at_).1)) := fun x => e2 x.1
            rw [if_neg hno, if_neg e2]
            rfl
        · rw [decide_eq_false e1, if_pos (by decide), if_pos (by simpa using e1)]
      rw [hst]
      conv => rhs; unfold rdL
      by_cases e1 : (readD d at_).2 ≠ 0
      · rw [if_pos e1, if_pos e1]
        rfl
      · rw [if_neg e1, if_neg e1]
        by_cases e2 : GetQ (readD d at_).1 ∧ lastOk out (qOf (readD d at_).1)
        · rw [if_pos e2, if_pos e2]
          have := read_from (fu := fu) (n := n) (a := a) (t5 := t5) hfu h hm (by rw [hqs]; omega) k (i + 1) (out ++ [⟨qOf (readD d at_).1, at_⟩]) (by rw [hqs]; omega) (by rw [hqs]; omega) (by simp; omega) (fun x hx => by
            rcases List.mem_append.1 hx with hx | hx
            · exact h4 x hx
            · rw [List.mem_singleton.1 hx]
              exact (getQ_name e2.1).2)
          rw [hqs] at this
          exact this
        · rw [if_neg e2, if_neg e2]
          rfl
    · have c0 : ¬ ((i : Int) < (qs.length : Int)) := by omega
      have hst : dir_read.s0 fu (SO n d a) t5 (out, (i : Int)) = some (.inl (.inr out)) := by
        unfold dir_read.s0
        simp only [hqs]
        rw [decide_eq_false c0, if_neg (by decide)]
      rw [hst, List.drop_of_length_le (show qs.length ≤ i by omega)]
      rfl
theorem getD_len {b : List Int} (h : GetD b) : (dOf b).length ≤ 16 := h.2.2.2.1.1.2
theorem readP_eq {fu n m : Nat} {B : Int} {d : Dev} {a : AA} (hfu : 3000 < fu) (h : DevOk m B d) (hm : m ≤ 100000) (k : Int) : dir_read.f fu (SO n d a) k = some (readP (readD d) k) := by
  unfold dir_read.f readP
  by_cases e : k = 0
  · rw [decide_eq_true e, if_pos rfl, if_pos e]
  · rw [decide_eq_false e, if_neg (by decide), if_neg e, sget_eq h hm (by omega), Option.bind_some]
    obtain ⟨gb, gl⟩ := getd_bytes d k
    by_cases e1 : (readD d k).2 = 0
    · rw [decide_eq_true e1, if_neg (by decide), if_neg (by simpa using e1), dirGet_eq gb (by omega) (by omega), Option.bind_some]
      by_cases e2 : GetD (readD d k).1
      · rw [if_pos e2, if_pos e2]
        have := read_from (fu := fu) (n := n) (a := a) (t5 := ((⟨dOf (readD d k).1⟩ : S_api_Dir), true)) hfu h hm (getD_len e2) fu 0 [] (by omega) (by have := getD_len e2; show (dOf (readD d k).1).length - 0 < fu; omega) (by simp) (fun x hx => by simp at hx)
        exact this
      · rw [if_neg e2, if_neg e2]
        rfl
    · rw [decide_eq_false e1, if_pos (by decide), if_pos (by simpa using e1)]
def queB (q : S_api_Queue) : List Int := sealed (summed 5 (q.Name.length : Int) (queueE q))
def dirB (l : List Int) : List Int := sealed (summed 6 (l.length : Int) (rowE l l.length))
def Sorted (L : List Ls) : Prop := L.Pairwise fun x y => cmpL (nm x) (nm y) < 0
theorem list_eq' {fu n m : Nat} {B : Int} {d : Dev} {a : AA} {k : Int} {L : List Ls} {e : Int} (hfu : 3000 < fu) (h : DevOk m B d) (hm : m ≤ 100000) (hr : readP (readD d) k = (L, e)) (hL : L.length ≤ 100) : dir_List.f fu (SO n d a) k = some (L.map (·.q), e) := by
  unfold dir_List.f
  rw [readP_eq hfu h hm, Option.bind_some, hr]
  have : loopM (dir_List.s0 fu (L, e)) fu (([] : List S_api_Queue), 0) = some (L.map (·.q)) := by
    refine loopM_run (S := fun j => ((L.take j).map (·.q), (j : Int))) L.length (by simp) (fun j hj => ?_) ?_ (by omega)
    · have w3 : IntKind.i64.wrap ((j : Int) + 1) = ((j + 1 : Nat) : Int) := by rw [w64 (by omega) (by omega)]; omega
      unfold dir_List.s0
      rw [decide_eq_true (show (j : Int) < (L.length : Int) by omega), if_pos rfl, if_pos (show 0 ≤ (j : Int) ∧ (j : Int) < (L.length : Int) by omega), if_pos (lim_of' (by simp; omega)), w3]
      simp only [ix_nat hj, List.take_add_one, List.getElem?_eq_getElem hj, Option.toList_some, List.map_append, List.map_cons, List.map_nil]
    · unfold dir_List.s0
      simp
  rw [this]
  rfl
def cAt (L : List Ls) (s : List UInt8) (i : Nat) : Int := cmpL (nm (ix L (i : Int))) (rn s)
theorem cAt_mono {L : List Ls} (hs : Sorted L) {s : List UInt8} {p q : Nat} (hp : p < L.length) (hq : q < p) (h : cAt L s p < 0) : cAt L s q < 0 := by
  unfold cAt at h ⊢
  rw [ix_nat hp] at h
  rw [ix_nat (by omega)]
  exact cmpL_trans (List.pairwise_iff_getElem.1 hs q p (by omega) hp hq) h
theorem shr1 (x : Nat) : shR .u64 (x : Int) 1 = ((x / 2 : Nat) : Int) := by
  unfold shR
  show Int.fdiv (x : Int) (2 ^ min ((1 : Int).toNat) 64) = _
  rw [show (2 : Int) ^ min ((1 : Int).toNat) 64 = 2 from by decide, Int.fdiv_eq_ediv_of_nonneg _ (by decide)]
  omega
theorem search_from {fu : Nat} (hfu : 3000 < fu) {L : List Ls} {s : List UInt8} (hl : L.length ≤ 100) (hn : ∀ x ∈ L, x.q.Name.length ≤ 300) (hs : s.length ≤ 300) (hS : Sorted L) : ∀ (k i j : Nat), i ≤ j → j ≤ L.length → j - i < k → (∀ q, q < i → cAt L s q < 0) → (∀ q, j ≤ q → q < L.length → 0 ≤ cAt L s q) →
    ∃ p : Nat, loopM (slices_BinarySearchFunc_dir_place_1.s0 fu L s) k ((i : Int), (j : Int)) = some (p : Int) ∧ p ≤ L.length ∧ (∀ q, q < p → cAt L s q < 0) ∧ (∀ q, p ≤ q → q < L.length → 0 ≤ cAt L s q)
  | 0, i, j, _, _, h, _, _ => by omega
  | k + 1, i, j, h1, h2, h3, h4, h5 => by
    have hu : loopM (slices_BinarySearchFunc_dir_place_1.s0 fu L s) (k + 1) ((i : Int), (j : Int)) = (match slices_BinarySearchFunc_dir_place_1.s0 fu L s ((i : Int), (j : Int)) with | none => none | some (.inl e) => some e | some (.inr s') => loopM (slices_BinarySearchFunc_dir_place_1.s0 fu L s) k s') := by
      conv => lhs; unfold loopM
      generalize slices_BinarySearchFunc_dir_place_1.s0 fu L s ((i : Int), (j : Int)) = q
      rcases q with _ | _ | _ <;> rfl
    rw [hu]
    by_cases e : i < j
    · have hmid : IntKind.i64.wrap (shR .u64 (IntKind.u64.wrap (IntKind.i64.wrap ((i : Int) + (j : Int)))) 1) = (((i + j) / 2 : Nat) : Int) := by
        rw [w64 (n := (i : Int) + (j : Int)) (by omega) (by omega), wu64 (by omega) (by omega), show (i : Int) + (j : Int) = ((i + j : Nat) : Int) by omega, shr1, w64 (by omega) (by omega)]
      have hm1 : (i + j) / 2 < j := by omega
      have hm2 : i ≤ (i + j) / 2 := by omega
      generalize hmm : (i + j) / 2 = m at hmid hm1 hm2
      have hml : m < L.length := by omega
      have w3 : IntKind.i64.wrap ((m : Int) + 1) = ((m + 1 : Nat) : Int) := by rw [w64 (by omega) (by omega)]; omega
      have hc : dir_place_1.f fu (ix L (m : Int)) s = some (cAt L s m) := by
        unfold dir_place_1.f
        rw [compare_eq (by omega) (by rw [ix_nat hml]; exact hn _ (List.getElem_mem _)) hs]
        rfl
      have hst : slices_BinarySearchFunc_dir_place_1.s0 fu L s ((i : Int), (j : Int)) = if cAt L s m < 0 then some (.inr (((m + 1 : Nat) : Int), (j : Int))) else some (.inr ((i : Int), (m : Int))) := by
        unfold slices_BinarySearchFunc_dir_place_1.s0
        simp only [hmid]
        rw [decide_eq_true (show (i : Int) < (j : Int) by omega), if_pos rfl, if_pos (show 0 ≤ (m : Int) ∧ (m : Int) < (L.length : Int) by omega), hc, Option.bind_some, w3]
        by_cases q : cAt L s m < 0
        · rw [decide_eq_true q, if_pos rfl, if_pos q]
          rfl
        · rw [decide_eq_false q, if_neg (by decide), if_neg q]
          rfl
      rw [hst]
      by_cases q : cAt L s m < 0
      · rw [if_pos q]
        exact search_from hfu hl hn hs hS k (m + 1) j (by omega) h2 (by omega) (fun x hx => by
          rcases Nat.lt_or_ge x m with y | y
          · exact cAt_mono hS hml y q
          · rw [show x = m by omega]
            exact q) h5
      · rw [if_neg q]
        refine search_from hfu hl hn hs hS k i m hm2 (by omega) (by omega) h4 (fun x hx hx2 => ?_)
        rcases Nat.eq_or_lt_of_le hx with y | y
        · rw [← y]
          omega
        · have := mt (cAt_mono (s := s) hS hx2 y) q
          omega
    · refine ⟨i, ?_, by omega, h4, fun q hq hq2 => h5 q (by omega) hq2⟩
      have hst : slices_BinarySearchFunc_dir_place_1.s0 fu L s ((i : Int), (j : Int)) = some (.inl (i : Int)) := by
        unfold slices_BinarySearchFunc_dir_place_1.s0
        rw [decide_eq_false (show ¬ (i : Int) < (j : Int) by omega), if_neg (by decide)]
      rw [hst]
theorem place_eq {fu : Nat} (hfu : 3000 < fu) {L : List Ls} {s : List UInt8} (hl : L.length ≤ 100) (hn : ∀ x ∈ L, x.q.Name.length ≤ 300) (hs : s.length ≤ 300) (hS : Sorted L) :
    ∃ p : Nat, dir_place.f fu L s = some ((p : Int), decide (p < L.length ∧ cAt L s p = 0)) ∧ p ≤ L.length ∧ (∀ q, q < p → cAt L s q < 0) ∧ (∀ q, p ≤ q → q < L.length → 0 ≤ cAt L s q) := by
  obtain ⟨p, h1, h2, h3, h4⟩ := search_from hfu hl hn hs hS fu 0 L.length (by omega) (by omega) (by omega) (fun q hq => by omega) (fun q h1 h2 => by omega)
  refine ⟨p, ?_, h2, h3, h4⟩
  unfold dir_place.f slices_BinarySearchFunc_dir_place_1.f
  have e : ((0 : Nat) : Int) = 0 := rfl
  rw [e] at h1
  rw [h1, Option.bind_some]
  by_cases q : p < L.length
  · have hc : dir_place_1.f fu (ix L (p : Int)) s = some (cAt L s p) := by
      unfold dir_place_1.f
      rw [compare_eq (by omega) (by rw [ix_nat q]; exact hn _ (List.getElem_mem _)) hs]
      rfl
    rw [decide_eq_true (show (p : Int) < (L.length : Int) by omega), if_pos rfl, if_pos (show 0 ≤ (p : Int) ∧ (p : Int) < (L.length : Int) by omega), hc]
    simp [q]
  · rw [decide_eq_false (show ¬ (p : Int) < (L.length : Int) by omega), if_neg (by decide)]
    simp [q]
theorem dirOk_iff {l : List Int} : DirOk l ↔ (1 ≤ l.length ∧ l.length ≤ 16) ∧ (∀ x ∈ l, numOk x) ∧ l.Nodup := by
  unfold DirOk
  constructor
  · rintro ⟨h1, h2⟩
    refine ⟨h1, fun x hx => ?_, ?_⟩
    · obtain ⟨j, hj, rfl⟩ := List.getElem_of_mem hx
      have := (h2 j hj).1
      rwa [ix_nat hj] at this
    · rw [List.nodup_iff_pairwise_ne, List.pairwise_iff_getElem]
      intro i j hi hj hij e
      have := (h2 j hj).2
      rw [ix_nat hj] at this
      exact this (List.mem_take_iff_getElem.2 ⟨i, by omega, e⟩)
  · rintro ⟨h1, h2, h3⟩
    refine ⟨h1, fun j hj => ⟨?_, ?_⟩⟩
    · rw [ix_nat hj]
      exact h2 _ (List.getElem_mem _)
    · rw [ix_nat hj]
      intro hm
      obtain ⟨i, hi, e⟩ := List.mem_take_iff_getElem.1 hm
      rw [List.nodup_iff_pairwise_ne, List.pairwise_iff_getElem] at h3
      exact h3 i j (by omega) hj (by omega) e
def ats (L : List Ls) : List Int := L.map (·.at_)
structure MS (n : Nat) (B : Int) (M : Nat) (d : Dev) (a : AA) (k : Nat) (L : List Ls) : Prop where
  so : SOk n B d a
  r : a.r = 0
  q : ∀ x ∈ L, ∃ j : Nat, x.at_ = (j : Int) ∧ j < n ∧ ln d j = queB x.q ∧ QueueOk x.q ∧ x.q.Name.length ≤ 300
  ok : L ≠ [] → DirOk (ats L)
  so' : Sorted L
  kn : k ≠ 0 → 2 ≤ k ∧ k < n
  w : ∀ j : Nat, a.w j = true ↔ j = 0 ∨ j = 1 ∨ (k ≠ 0 ∧ j = k) ∨ (j : Int) ∈ ats L
  kd : k ≠ 0 → (k : Int) ∉ ats L
  ce : ∀ j, a.c j = true ∨ a.e j = true → j ∈ [0, 1]
  m : cnt a.m n ≤ M
structure DS (n : Nat) (B : Int) (M : Nat) (d : Dev) (a : AA) (k : Nat) (L : List Ls) : Prop extends MS n B M d a k L where
  dir : (k = 0 ∧ L = []) ∨ (k ≠ 0 ∧ L ≠ [] ∧ ln d k = dirB (ats L))
def inL' (L : List Ls) (s : List UInt8) : Prop := ∃ x ∈ L, x.q.Name = s
theorem cAt_zero {L : List Ls} {s : List UInt8} {p : Nat} (hn : ∀ x ∈ L, x.q.Name.length ≤ 300 ∧ NameOk x.q.Name) (hs : s.length ≤ 300) (hp : p < L.length) : cAt L s p = 0 ↔ L[p].q.Name = s := by
  unfold cAt nm
  rw [ix_nat hp]
  have hx := hn _ (List.getElem_mem hp)
  constructor
  · intro h
    exact name_same hx.1 hs hx.2 (cmpL_zero h)
  · intro h
    rw [h]
    exact cmpL_self _
structure At' (L : List Ls) (s : List UInt8) (p : Nat) : Prop where
  le : p ≤ L.length
  lo : ∀ q, q < p → cAt L s q < 0
  hi : ∀ q, p ≤ q → q < L.length → 0 ≤ cAt L s q
theorem At'.found {L : List Ls} {s : List UInt8} {p : Nat} (h : At' L s p) (hS : Sorted L) (hn : ∀ x ∈ L, x.q.Name.length ≤ 300 ∧ NameOk x.q.Name) (hs : s.length ≤ 300) : (p < L.length ∧ cAt L s p = 0) ↔ inL' L s := by
  constructor
  · rintro ⟨h1, h2⟩
    exact ⟨L[p], List.getElem_mem h1, (cAt_zero hn hs h1).1 h2⟩
  · rintro ⟨x, hx, e⟩
    obtain ⟨i, hi, rfl⟩ := List.getElem_of_mem hx
    have h0 := (cAt_zero hn hs hi).2 e
    have h1 : p ≤ i := by
      rcases Nat.lt_or_ge i p with q | q
      · have := h.lo i q
        omega
      · exact q
    rcases Nat.eq_or_lt_of_le h1 with q | q
    · subst q
      exact ⟨hi, h0⟩
    · have h2 := h.hi p (Nat.le_refl _) (by omega)
      have h3 := List.pairwise_iff_getElem.1 hS p i (by omega) hi q
      unfold cAt at h0 h2
      rw [ix_nat (by omega)] at h0 h2
      rw [← cmpL_zero h0] at h2
      omega
def newQ (s : List UInt8) : S_api_Queue := ⟨s, 0, Arr.rep 12 (0 : Int)⟩
theorem rcmp_from {fu : Nat} {l m : List Int} (hl : l.length ≤ 900) (hm : m.length ≤ 900) : ∀ (k i : Nat), i ≤ l.length → i ≤ m.length → l.length - i < k →
    (loopM (rickyardref04_Compare.s0 fu l m) k (i : Int)).bind (fun e6 => match e6 with | Sum.inl p => some p | Sum.inr x8 => (if (decide ((List.length l : Int) < (List.length m : Int))) = true then some ((-1)) else (if (decide ((List.length l : Int) > (List.length m : Int))) = true then some (1) else some (0)))) = some (cmpL (l.drop i) (m.drop i))
  | 0, i, _, _, h => by omega
  | k + 1, i, h1, h2, h3 => by
    have hu : loopM (rickyardref04_Compare.s0 fu l m) (k + 1) (i : Int) = (match rickyardref04_Compare.s0 fu l m (i : Int) with | none => none | some (.inl e) => some e | some (.inr s') => loopM (rickyardref04_Compare.s0 fu l m) k s') := by
      conv => lhs; unfold loopM
      generalize rickyardref04_Compare.s0 fu l m (i : Int) = q
      rcases q with _ | _ | _ <;> rfl
    rw [hu]
    by_cases e1 : i < l.length
    · have c0 : (i : Int) < (l.length : Int) := by omega
      have c1 : 0 ≤ (i : Int) ∧ (i : Int) < (l.length : Int) := by omega
      rw [List.drop_eq_getElem_cons e1]
      by_cases e2 : i < m.length
      · have c2 : (i : Int) < (m.length : Int) := by omega
        have c3 : 0 ≤ (i : Int) ∧ (i : Int) < (m.length : Int) := by omega
        have w3 : IntKind.i64.wrap ((i : Int) + 1) = ((i + 1 : Nat) : Int) := by rw [w64 (by omega) (by omega)]; omega
        have hst : rickyardref04_Compare.s0 fu l m (i : Int) = if l[i] < m[i] then some (.inl (.inl (-1))) else if m[i] < l[i] then some (.inl (.inl 1)) else some (.inr ((i + 1 : Nat) : Int)) := by
          unfold rickyardref04_Compare.s0
          simp only [decide_eq_true c0, decide_eq_true c2, if_true, if_pos c1, if_pos c3, ix_nat e1, ix_nat e2, w3]
          by_cases q1 : l[i] < m[i]
          · rw [decide_eq_true q1, if_pos rfl, if_pos q1]
          · rw [decide_eq_false q1, if_neg (by decide), if_neg q1]
            by_cases q2 : m[i] < l[i]
            · rw [decide_eq_true (show l[i] > m[i] from q2), if_pos rfl, if_pos q2]
            · rw [decide_eq_false (show ¬ l[i] > m[i] from q2), if_neg (by decide), if_neg q2]
        rw [hst, List.drop_eq_getElem_cons e2]
        conv => rhs; unfold cmpL
        by_cases q1 : l[i] < m[i]
        · rw [if_pos q1, if_pos q1]
          rfl
        · rw [if_neg q1, if_neg q1]
          by_cases q2 : m[i] < l[i]
          · rw [if_pos q2, if_pos q2]
            rfl
          · rw [if_neg q2, if_neg q2]
            exact rcmp_from hl hm k (i + 1) (by omega) (by omega) (by omega)
      · have c2 : ¬ ((i : Int) < (m.length : Int)) := by omega
        have hst : rickyardref04_Compare.s0 fu l m (i : Int) = some (.inl (.inr ())) := by
          unfold rickyardref04_Compare.s0
          rw [decide_eq_true c0, if_pos rfl, decide_eq_false c2, if_neg (by decide)]
        rw [hst, List.drop_of_length_le (show m.length ≤ i by omega)]
        simp only [Option.bind_some]
        rw [decide_eq_false (show ¬ (l.length : Int) < (m.length : Int) by omega), if_neg (by decide), decide_eq_true (show (l.length : Int) > (m.length : Int) by omega), if_pos rfl]
        rfl
    · have c0 : ¬ ((i : Int) < (l.length : Int)) := by omega
      have hst : rickyardref04_Compare.s0 fu l m (i : Int) = some (.inl (.inr ())) := by
        unfold rickyardref04_Compare.s0
        rw [decide_eq_false c0, if_neg (by decide)]
      rw [hst, List.drop_of_length_le (show l.length ≤ i by omega)]
      simp only [Option.bind_some]
      by_cases e2 : i < m.length
      · rw [decide_eq_true (show (l.length : Int) < (m.length : Int) by omega), if_pos rfl, List.drop_eq_getElem_cons e2]
        rfl
      · rw [decide_eq_false (show ¬ (l.length : Int) < (m.length : Int) by omega), if_neg (by decide), decide_eq_false (show ¬ (l.length : Int) > (m.length : Int) by omega), if_neg (by decide), List.drop_of_length_le (show m.length ≤ i by omega)]
        rfl
theorem rcompare_eq {fu : Nat} (hfu : 1000 ≤ fu) {s t : List UInt8} (hs : s.length ≤ 300) (ht : t.length ≤ 300) : rickyardref04_Compare.f fu s t = some (cmpL (rn s) (rn t)) := by
  unfold rickyardref04_Compare.f
  have h1 := rn_len hs
  have h2 := rn_len ht
  rw [rrunes_eq (by omega) hs, Option.bind_some, rrunes_eq (by omega) ht, Option.bind_some]
  have := rcmp_from (fu := fu) (l := rn s) (m := rn t) (by omega) (by omega) fu 0 (by omega) (by omega) (by omega)
  rw [List.drop_zero, List.drop_zero] at this
  exact this
def img (d : Dev) : List UInt8 := (octs (storedD d)).map toB
theorem toB_ofB {l : List Int} (h : Bytes l) : (l.map toB).map ofB = l := by
  rw [List.map_map]
  conv => rhs; rw [← List.map_id l]
  apply List.map_congr_left
  intro x hx
  have := h x hx
  unfold toB ofB
  simp only [Function.comp, id]
  rw [UInt8.toNat_ofNat']
  omega
theorem line_stored {d : Dev} {n k : Nat} (hl : d.cells.length = 8 * n) (hk : k < n) : (storedD d).drop (8 * k) = lineC d (k : Int) ++ (storedD d).drop (8 * k + 8) := by
  have e : lineC d (k : Int) = ((storedD d).drop (8 * k)).take 8 := by
    apply List.ext_getElem
    · simp [lineC, storedD]
      omega
    · intro i h1 h2
      have hi : i < 8 := by simpa [lineC] using h1
      simp only [lineC, storedD, List.getElem_map, List.getElem_range, List.getElem_take, List.getElem_drop]
      rw [show 8 * (k : Int) + (i : Int) = ((8 * k + i : Nat) : Int) by omega, ix_nat (by omega)]
  rw [e, ← List.drop_drop, List.take_append_drop]
theorem rline_eq {fu n : Nat} {d : Dev} (hn : n ≤ 3072) (hl : d.cells.length = 8 * n) (k : Int) (hoff : d.off = false) (hI : I64 k) : rickyardref20_Line.f fu (img d) k = some ((readD d k).1, decide ((readD d k).2 = 0)) := by
  have hil : (img d).length = 64 * n := by
    unfold img
    rw [List.length_map, octs_len]
    simp only [storedD, List.length_map]
    omega
  have hq : IntKind.i64.wrap (Int.tdiv ((img d).length : Int) 64) = (n : Int) := by
    rw [hil, Int.tdiv_eq_ediv_of_nonneg (by omega), w64 (by omega) (by omega)]
    omega
  unfold rickyardref20_Line.f
  rw [hq]
  by_cases c1 : k < 0
  · have : ¬ inL d k := fun h => by
      have := h.1
      omega
    rw [decide_eq_true c1, if_pos rfl]
    unfold readD
    rw [if_neg this]
    rfl
  · rw [decide_eq_false c1, if_neg (by decide)]
    obtain ⟨j, rfl⟩ : ∃ j : Nat, k = (j : Int) := ⟨k.toNat, by omega⟩
    by_cases c2 : n ≤ j
    · have : ¬ inL d (j : Int) := fun h => by
        have := h.2
        omega
      rw [decide_eq_true (show (j : Int) ≥ (n : Int) by omega), if_pos rfl]
      unfold readD
      rw [if_neg this]
      rfl
    · have hj : j < n := by omega
      rw [decide_eq_false (show ¬ (j : Int) ≥ (n : Int) by omega), if_neg (by decide)]
      have w1 : IntKind.i64.wrap (64 * (j : Int)) = ((64 * j : Nat) : Int) := by rw [w64 (by omega) (by omega)]; omega
      have w2 : IntKind.i64.wrap (((64 * j : Nat) : Int) + 64) = ((64 * j + 64 : Nat) : Int) := by rw [w64 (by omega) (by omega)]; omega
      rw [w1, w2, if_pos (by omega)]
      have hr : readD d (j : Int) = (octs (lineC d (j : Int)), 0) := by
        unfold readD
        rw [if_pos (show inL d (j : Int) from ⟨by omega, by omega⟩), hoff, if_neg (by decide)]
      rw [hr]
      have hcut : cut (img d) ((64 * j : Nat) : Int) ((64 * j + 64 : Nat) : Int) = (octs (lineC d (j : Int))).map toB := by
        unfold cut img
        rw [Int.toNat_natCast, Int.toNat_natCast, ← List.map_take, ← List.map_drop, List.drop_take]
        congr 1
        have e1 : (octs (storedD d)).drop (64 * j) = octs ((storedD d).drop (8 * j)) := by
          have := octs_drop (storedD d) (8 * j)
          rwa [show 8 * (8 * j) = 64 * j by omega] at this
        rw [e1, line_stored hl hj, octs_append]
        have hl8 : (octs (lineC d (j : Int))).length = 64 := by
          rw [octs_len]
          simp [lineC]
        rw [show 64 * j + 64 - 64 * j = (octs (lineC d (j : Int))).length by omega, List.take_left]
      rw [hcut, toB_ofB (octs_byt _)]
      rfl
def ansOf (k : Int) (r : List Ls × Int) : List S_api_Queue × List Int × Bool := if r.2 = 0 then (r.1.map (fun x : Ls => x.q), if k = 0 then [] else k :: ats r.1, true) else ([], [], false)
theorem rdL_ats {g : Int → List Int × Int} : ∀ (l : List Int) (out L : List Ls), rdL g l out = (L, 0) → ats L = ats out ++ l
  | [], out, L, h => by
    unfold rdL at h
    rw [show L = out from (Prod.ext_iff.1 h).1.symm]
    simp
  | a :: l, out, L, h => by
    unfold rdL at h
    split at h
    · rename_i h1
      exact absurd (Prod.ext_iff.1 h).2 h1
    · split at h
      · rw [rdL_ats l _ L h]
        simp [ats]
      · exact absurd (show (31 : Int) = 0 from (Prod.ext_iff.1 h).2) (by decide)
theorem ixq_map {L : List Ls} {i : Nat} (h : i < L.length) : ix (L.map (fun x : Ls => x.q)) (i : Int) = (ix L (i : Int)).q := by
  rw [ix_nat (by simpa using h), ix_nat h, List.getElem_map]
theorem rref_from {fu n : Nat} {d : Dev} {t5 : List Int × Bool} (hfu : 3000 < fu) (hn : n ≤ 3072) (hc : d.cells.length = 8 * n) (hoff : d.off = false) (hl : t5.1.length ≤ 16) (hI : ∀ x ∈ t5.1, I64 x) (T : List S_api_Queue → Option (List S_api_Queue × List Int × Bool)) :
    ∀ (k i : Nat) (out : List Ls), i ≤ t5.1.length → t5.1.length - i < k → out.length = i → (∀ x ∈ out, x.q.Name.length ≤ 24) →
    (loopM (rickyardref25_Read.s0 fu (img d) t5) k (out.map (fun x : Ls => x.q), (i : Int))).bind (fun e9 => match e9 with | Sum.inl p => some p | Sum.inr x11 => T x11) = (if (rdL (readD d) (t5.1.drop i) out).2 = 0 then T ((rdL (readD d) (t5.1.drop i) out).1.map (fun x : Ls => x.q)) else some ([], [], false))
  | 0, i, out, _, h2, _, _ => by omega
  | k + 1, i, out, h1, h2, h3, h4 => by
    have hu : loopM (rickyardref25_Read.s0 fu (img d) t5) (k + 1) (out.map (fun x : Ls => x.q), (i : Int)) = (match rickyardref25_Read.s0 fu (img d) t5 (out.map (fun x : Ls => x.q), (i : Int)) with | none => none | some (.inl e) => some e | some (.inr s') => loopM (rickyardref25_Read.s0 fu (img d) t5) k s') := by
      conv => lhs; unfold loopM
      generalize rickyardref25_Read.s0 fu (img d) t5 (out.map (fun x : Ls => x.q), (i : Int)) = q
      rcases q with _ | _ | _ <;> rfl
    rw [hu]
    by_cases e : i < t5.1.length
    · have c0 : (i : Int) < (t5.1.length : Int) := by omega
      have c1 : 0 ≤ (i : Int) ∧ (i : Int) < (t5.1.length : Int) := by omega
      have w3 : IntKind.i64.wrap ((i : Int) + 1) = ((i + 1 : Nat) : Int) := by rw [w64 (by omega) (by omega)]; omega
      have hmem := hI _ (List.getElem_mem e)
      rw [List.drop_eq_getElem_cons e]
      generalize hat : t5.1[i] = at_ at hmem ⊢
      obtain ⟨gb, gl⟩ := getd_bytes d at_
      have hgq : rickyardref11_Get.f fu (readD d at_).1 = some (if GetQ (readD d at_).1 then (qOf (readD d at_).1, true) else (noQ, false)) := rqueueGet_eq (by omega) gb
      have hst : rickyardref25_Read.s0 fu (img d) t5 (out.map (fun x : Ls => x.q), (i : Int)) = if (readD d at_).2 ≠ 0 then some (.inl (.inl ([], [], false))) else if GetQ (readD d at_).1 ∧ lastOk out (qOf (readD d at_).1) then some (.inr ((out ++ ([⟨qOf (readD d at_).1, at_⟩] : List Ls)).map (fun x : Ls => x.q), ((i + 1 : Nat) : Int))) else some (.inl (.inl ([], [], false))) := by
        unfold rickyardref25_Read.s0
        rw [decide_eq_true c0, if_pos rfl, if_pos c1, ix_nat e, hat, rline_eq hn hc at_ hoff hmem, Option.bind_some]
        by_cases e1 : (readD d at_).2 = 0
        · rw [decide_eq_true e1, if_neg (by simp), if_neg (by simpa using e1)]
          simp only
          rw [hgq, Option.bind_some]
          by_cases e2 : GetQ (readD d at_).1
          · have hnn := getQ_name e2
            have hlim : (out.map (fun x : Ls => x.q)).length + ([qOf (readD d at_).1] : List S_api_Queue).length ≤ LIM := lim_of' (by simp; omega)
            rw [if_pos e2]
            simp only
            rw [if_neg (by decide), w3]
            by_cases e3 : i = 0
            · have e3' : out = [] := List.eq_nil_of_length_eq_zero (by omega)
              rw [decide_eq_false (show ¬ ((i : Int) > 0) by omega), if_neg (by decide), if_pos hlim, if_pos (show GetQ (readD d at_).1 ∧ lastOk out (qOf (readD d at_).1) from ⟨e2, .inl e3'⟩), List.map_append]
              rfl
            · have e3' : out ≠ [] := fun h => by rw [h] at h3; simp at h3; omega
              have w4 : IntKind.i64.wrap ((i : Int) - 1) = ((out.length - 1 : Nat) : Int) := by rw [w64 (by omega) (by omega)]; omega
              have c3 : 0 ≤ ((out.length - 1 : Nat) : Int) ∧ ((out.length - 1 : Nat) : Int) < ((out.map (fun x : Ls => x.q)).length : Int) := by rw [List.length_map]; omega
              have hl1 : (ix out ((out.length - 1 : Nat) : Int)).q.Name.length ≤ 24 := by
                rw [ix_nat (show out.length - 1 < out.length by omega)]
                exact h4 _ (List.getElem_mem _)
              rw [decide_eq_true (show (i : Int) > 0 by omega), if_pos rfl, w4, if_pos c3, ixq_map (show out.length - 1 < out.length by omega), rcompare_eq (by omega) (by omega) (show (qOf (readD d at_).1).Name.length ≤ 300 by omega), Option.bind_some]
              by_cases e4 : cmpL (rn (ix out ((out.length - 1 : Nat) : Int)).q.Name) (rn (qOf (readD d at_).1).Name) < 0
              · rw [decide_eq_false (show ¬ (cmpL (rn (ix out ((out.length - 1 : Nat) : Int)).q.Name) (rn (qOf (readD d at_).1).Name) ≥ 0) by omega), if_neg (by decide), if_pos hlim, if_pos (show GetQ (readD d at_).1 ∧ lastOk out (qOf (readD d at_).1) from ⟨e2, .inr e4⟩), List.map_append]
                rfl
              · have hno : ¬ (GetQ (readD d at_).1 ∧ lastOk out (qOf (readD d at_).1)) := by
                  rintro ⟨_, hx | hx⟩
                  · exact e3' hx
                  · exact e4 hx
                rw [decide_eq_true (show cmpL (rn (ix out ((out.length - 1 : Nat) : Int)).q.Name) (rn (qOf (readD d at_).1).Name) ≥ 0 by omega), if_pos rfl, if_neg hno]
          · have hno : ¬ (GetQ (readD d at_).1 ∧ lastOk out (qOf (readD d at_).1)) := fun x => e2 x.1
            rw [if_neg hno, if_neg e2]
            rfl
        · rw [decide_eq_false e1, if_pos (by simp), if_pos (by simpa using e1)]
      rw [hst]
      unfold rdL
      by_cases e1 : (readD d at_).2 ≠ 0
      · rw [if_pos e1, if_pos e1]
        simp only [Option.bind_some]
        rw [if_neg e1]
      · rw [if_neg e1, if_neg e1]
        by_cases e2 : GetQ (readD d at_).1 ∧ lastOk out (qOf (readD d at_).1)
        · rw [if_pos e2, if_pos e2]
          exact rref_from (fu := fu) (t5 := t5) hfu hn hc hoff hl hI T k (i + 1) (out ++ [⟨qOf (readD d at_).1, at_⟩]) (by omega) (by omega) (by simp; omega) (fun x hx => by
            rcases List.mem_append.1 hx with hx | hx
            · exact h4 x hx
            · rw [List.mem_singleton.1 hx]
              exact (getQ_name e2.1).2)
        · rw [if_neg e2, if_neg e2]
          rfl
    · have c0 : ¬ ((i : Int) < (t5.1.length : Int)) := by omega
      have hst : rickyardref25_Read.s0 fu (img d) t5 (out.map (fun x : Ls => x.q), (i : Int)) = some (.inl (.inr (out.map (fun x : Ls => x.q)))) := by
        unfold rickyardref25_Read.s0
        rw [decide_eq_false c0, if_neg (by decide)]
      rw [hst, List.drop_of_length_le (show t5.1.length ≤ i by omega)]
      rfl
theorem rdread_eq {fu n : Nat} {d : Dev} (hfu : 3000 < fu) (hn : n ≤ 3072) (hc : d.cells.length = 8 * n) (hoff : d.off = false) {k : Int} (hk : I64 k) : rickyardref25_Read.f fu (img d) k = some (ansOf k (readP (readD d) k)) := by
  unfold rickyardref25_Read.f readP
  by_cases e : k = 0
  · subst e
    rfl
  · rw [decide_eq_false e, if_neg (by decide), if_neg e, rline_eq hn hc k hoff hk, Option.bind_some]
    obtain ⟨gb, gl⟩ := getd_bytes d k
    by_cases e1 : (readD d k).2 = 0
    · rw [decide_eq_true e1, if_neg (by simp), if_neg (by simpa using e1)]
      simp only
      rw [rdirGet_eq gb (by omega), Option.bind_some]
      by_cases e2 : GetD (readD d k).1
      · have hlen := getD_len e2
        rw [if_pos e2, if_pos e2]
        simp only
        rw [if_neg (by decide)]
        have hlim : ([k] : List Int).length + (dOf (readD d k).1).length ≤ LIM := lim_of' (by simp; omega)
        have hIx : ∀ x ∈ dOf (readD d k).1, I64 x := fun x hx => by
          have := (dirOk_iff.1 e2.2.2.2.1).2.1 x hx
          unfold numOk at this
          unfold I64
          omega
        have := rref_from (fu := fu) (t5 := (dOf (readD d k).1, true)) hfu hn hc hoff hlen hIx (fun x11 => if ([k] : List Int).length + (dOf (readD d k).1).length ≤ LIM then some (x11, ([k] ++ dOf (readD d k).1), true) else none) fu 0 [] (by omega) (by show (dOf (readD d k).1).length - 0 < fu; omega) rfl (fun x hx => by simp at hx)
        simp only [List.drop_zero, if_pos hlim] at this
        have hfin : (if (rdL (readD d) (dOf (readD d k).1) []).2 = 0 then some ((rdL (readD d) (dOf (readD d k).1) []).1.map (fun x : Ls => x.q), ([k] ++ dOf (readD d k).1), true) else some ([], [], false)) = some (ansOf k (rdL (readD d) (dOf (readD d k).1) [])) := by
          unfold ansOf
          by_cases q : (rdL (readD d) (dOf (readD d k).1) []).2 = 0
          · rw [if_pos q, if_pos q, if_neg e, rdL_ats (dOf (readD d k).1) [] (rdL (readD d) (dOf (readD d k).1) []).1 (Prod.ext rfl q)]
            rfl
          · rw [if_neg q, if_neg q]
        rw [hfin] at this
        have g : ∀ {α β : Type} {o : Option α} {f f' : α → Option β} {r : Option β}, (∀ x, f x = f' x) → o.bind f = r → o.bind f' = r := fun hx h => by rw [← h]; congr 1; funext x; exact (hx x).symm
        refine g (fun x => ?_) this
        rcases x with x | x
        · rfl
        · exact (if_pos hlim).symm
      · rw [if_neg e2, if_neg e2]
        rfl
    · rw [decide_eq_false e1, if_pos (by simp), if_pos (by simpa using e1)]
      unfold ansOf
      rw [if_neg e1]
theorem same_eq {fu : Nat} {l : List S_api_Queue} (hl : l.length ≤ 1000) (hf : 1000 < fu) : rickyardref25_Same.f fu l l = some true := by
  unfold rickyardref25_Same.f
  rw [decide_eq_true rfl]
  simp only [Bool.not_true, Bool.false_eq_true, if_false]
  have : loopM (rickyardref25_Same.s0 fu l l) fu 0 = some (Sum.inr ()) := by
    refine loopM_run (S := fun j => (j : Int)) l.length rfl (fun j hj => ?_) ?_ (by omega)
    · have w3 : IntKind.i64.wrap ((j : Int) + 1) = ((j + 1 : Nat) : Int) := by rw [w64 (by omega) (by omega)]; omega
      have c1 : 0 ≤ (j : Int) ∧ (j : Int) < (l.length : Int) := by omega
      unfold rickyardref25_Same.s0
      rw [decide_eq_true c1.2, if_pos rfl, if_pos c1, if_pos c1, decide_eq_true rfl, w3]
      rfl
    · unfold rickyardref25_Same.s0
      rw [decide_eq_false (by omega), if_neg (by decide)]
  rw [this]
  rfl
theorem at_found {fu : Nat} {L : List Ls} {s : List UInt8} {p : Nat} (hl : L.length ≤ 100) (hf : 1000 < fu) (hp : p < L.length) (hn : L[p].q.Name = s) (hlo : ∀ i (h : i < L.length), i < p → L[i].q.Name ≠ s) : rickyardref25_At.f fu (L.map (fun x : Ls => x.q)) s = some (p : Int) := by
  unfold rickyardref25_At.f
  have hml : (L.map (fun x : Ls => x.q)).length = L.length := by simp
  have : loopM (rickyardref25_At.s0 fu (L.map (fun x : Ls => x.q)) s) fu 0 = some (Sum.inl (p : Int)) := by
    refine loopM_run (S := fun j => (j : Int)) p rfl (fun j hj => ?_) ?_ (by omega)
    · have hjl : j < L.length := by omega
      have w3 : IntKind.i64.wrap ((j : Int) + 1) = ((j + 1 : Nat) : Int) := by rw [w64 (by omega) (by omega)]; omega
      unfold rickyardref25_At.s0
      rw [hml, decide_eq_true (show (j : Int) < (L.length : Int) by omega), if_pos rfl, if_pos (show 0 ≤ (j : Int) ∧ (j : Int) < (L.length : Int) by omega), ixq_map hjl, ix_nat hjl, decide_eq_false (hlo j hjl hj), if_neg (by decide), w3]
    · unfold rickyardref25_At.s0
      rw [hml, decide_eq_true (show (p : Int) < (L.length : Int) by omega), if_pos rfl, if_pos (show 0 ≤ (p : Int) ∧ (p : Int) < (L.length : Int) by omega), ixq_map hp, ix_nat hp, decide_eq_true hn, if_pos rfl]
  rw [this]
  rfl
theorem at_no {fu : Nat} {L : List Ls} {s : List UInt8} (hl : L.length ≤ 100) (hf : 1000 < fu) (hno : ¬ inL' L s) : rickyardref25_At.f fu (L.map (fun x : Ls => x.q)) s = some (-1) := by
  unfold rickyardref25_At.f
  have hml : (L.map (fun x : Ls => x.q)).length = L.length := by simp
  have : loopM (rickyardref25_At.s0 fu (L.map (fun x : Ls => x.q)) s) fu 0 = some (Sum.inr ()) := by
    refine loopM_run (S := fun j => (j : Int)) L.length rfl (fun j hj => ?_) ?_ (by omega)
    · have w3 : IntKind.i64.wrap ((j : Int) + 1) = ((j + 1 : Nat) : Int) := by rw [w64 (by omega) (by omega)]; omega
      unfold rickyardref25_At.s0
      rw [hml, decide_eq_true (show (j : Int) < (L.length : Int) by omega), if_pos rfl, if_pos (show 0 ≤ (j : Int) ∧ (j : Int) < (L.length : Int) by omega), ixq_map hj, ix_nat hj, decide_eq_false (fun h => hno ⟨_, List.getElem_mem hj, h⟩), if_neg (by decide), w3]
    · unfold rickyardref25_At.s0
      rw [hml, decide_eq_false (by omega), if_neg (by decide)]
  rw [this]
  rfl
abbrev qsOf (L : List Ls) : List S_api_Queue := L.map (fun x : Ls => x.q)
theorem qsOf_len (L : List Ls) : (qsOf L).length = L.length := by simp [qsOf]
theorem at_here {fu : Nat} {L : List Ls} {s : List UInt8} {p : Nat} (hl : L.length ≤ 100) (hf : 1000 < fu) (hN : ∀ x ∈ L, x.q.Name.length ≤ 300 ∧ NameOk x.q.Name) (hs : s.length ≤ 300) (hp : p < L.length) (hn : L[p].q.Name = s) (hat : At' L s p) : rickyardref25_At.f fu (qsOf L) s = some (p : Int) := by
  refine at_found hl hf hp hn fun i hi hip e => ?_
  have h1 := hat.lo i hip
  have h2 := (cAt_zero hN hs hi).2 e
  omega
theorem from_eq {fu : Nat} {l : List Int} (hb : Bytes l) (hl : l.length ≤ 100000) (hf : l.length + 8 < fu) : pmem_From.f fu l = some (fromD l) := by
  unfold pmem_From.f
  have hd : l.length / 64 ≤ 1562 := by omega
  have e0 : Int.tdiv (l.length : Int) 64 = ((l.length / 64 : Nat) : Int) := by
    rw [Int.tdiv_eq_ediv_of_nonneg (by omega)]
    omega
  have e1 : mnI (IntKind.i64.wrap (Int.tdiv (l.length : Int) 64)) 4096 = ((l.length / 64 : Nat) : Int) := by
    rw [e0, w64 (by omega) (by omega)]
    unfold mnI
    split <;> omega
  have e2 : IntKind.i64.wrap (((l.length / 64 : Nat) : Int) * 64) = ((64 * (l.length / 64) : Nat) : Int) := by rw [w64 (by omega) (by omega)]; omega
  rw [e1, e2, if_pos (by omega)]
  have e3 : cut l 0 ((64 * (l.length / 64) : Nat) : Int) = l.take (64 * (l.length / 64)) := by
    unfold cut
    rw [Int.toNat_natCast]
    rfl
  have hwo : octet_Words.f fu (l.take (64 * (l.length / 64))) = some (wordsU l (8 * (l.length / 64))) := by
    rw [words_eq (n := 8 * (l.length / 64)) (hb.take _) (by rw [List.length_take]; omega) (by omega) (by omega), wordsU_take _ (by omega)]
  rw [e3, hwo]
  simp only [Option.bind_some]
  generalize hW : wordsU l (8 * (l.length / 64)) = ws
  have hwl : ws.length = 8 * (l.length / 64) := by rw [← hW, wordsU_len]
  have : loopM (pmem_From.s0 fu ws) fu (0, []) = some (ws.map wordC) := by
    refine loopM_run (S := fun j => ((j : Int), (ws.take j).map wordC)) ws.length (by simp) ?_ ?_ (by omega)
    · intro j hj
      unfold pmem_From.s0
      have c1 : 0 ≤ (j : Int) ∧ (j : Int) < (ws.length : Int) := by omega
      have hlim : List.length ((ws.take j).map wordC) + List.length [(⟨(ix ws (j : Int)), (ix ws (j : Int)), (0 : Int), false⟩ : S_pmem_cell)] ≤ LIM := by
        rw [List.length_map, List.length_take]
        exact Nat.le_trans (by simp only [List.length_cons, List.length_nil]; omega : _ ≤ 100001) (by decide)
      simp only []
      rw [decide_eq_true c1.2, if_pos rfl, if_pos c1, if_pos hlim, next64 hj (by omega), ix_nat hj, take_next hj, List.map_append]
      rfl
    · unfold pmem_From.s0
      rw [decide_eq_false (show ¬ ((ws.length : Int) < (ws.length : Int)) by omega), if_neg (by decide), List.take_length]
  rw [this]
  unfold fromD
  rw [hW]
  rfl
theorem from_ok {l : List Int} (hb : Bytes l) : DevOk (8 * (l.length / 64)) 0 (fromD l) := by
  refine ⟨by simp [fromD, wordsU], fun c hc => ?_, fun h => absurd rfl h, by simp [fromD], fun h => (by cases h), fun _ => rfl, by simp [fromD]⟩
  obtain ⟨w, hw, rfl⟩ := List.mem_map.1 hc
  have := words_U64 hb w hw
  exact ⟨this, this, by unfold U64; simp [wordC]⟩
theorem from_stored (l : List Int) : storedD (fromD l) = wordsU l (8 * (l.length / 64)) := by
  simp [storedD, fromD, wordC, Function.comp_def]
theorem loopM_iv {σ ε : Type} {step : σ → Option (Sum ε σ)} (I : Nat → σ → Prop) (Q : ε → Prop) (N : Nat) (h : ∀ j s, j < N → I j s → (∃ s', step s = some (.inr s') ∧ I (j + 1) s') ∨ ∃ e, step s = some (.inl e) ∧ Q e) (he : ∀ s, I N s → ∃ e, step s = some (.inl e) ∧ Q e) :
    ∀ (m j k : Nat) (s : σ), m + j = N → m < k → I j s → ∃ e, loopM step k s = some e ∧ Q e
  | 0, j, k + 1, s, hm, _, hI => by
    obtain ⟨e, h1, h2⟩ := he s (by rw [← hm, Nat.zero_add]; exact hI)
    refine ⟨e, ?_, h2⟩
    unfold loopM
    rw [h1]
  | m + 1, j, k + 1, s, hm, hk, hI => by
    rcases h j s (by omega) hI with ⟨s', h1, h2⟩ | ⟨e, h1, h2⟩
    · obtain ⟨e, g1, g2⟩ := loopM_iv I Q N h he m (j + 1) k s' (by omega) (by omega) h2
      refine ⟨e, ?_, g2⟩
      unfold loopM
      rw [h1]
      exact g1
    · refine ⟨e, ?_, h2⟩
      unfold loopM
      rw [h1]
theorem awake25 : rickyardlaw25_awake.f FU = some true := by decide +kernel
def Good (L : List Ls) : Prop := ∀ x ∈ L, x.q.Name.length ≤ 24 ∧ NameOk x.q.Name
theorem sorted_snoc {L : List Ls} {x : Ls} (h : Sorted L) (hl : lastOk L x.q) : Sorted (L ++ [x]) := by
  unfold Sorted at h ⊢
  rw [List.pairwise_append]
  refine ⟨h, List.pairwise_singleton _ _, fun y hy z hz => ?_⟩
  rw [List.mem_singleton.1 hz]
  obtain ⟨i, hi, rfl⟩ := List.getElem_of_mem hy
  rcases hl with e | e
  · subst e
    simp at hi
  · have hlt : L.length - 1 < L.length := by omega
    rw [ix_nat hlt] at e
    rcases Nat.eq_or_lt_of_le (show i ≤ L.length - 1 by omega) with q | q
    · subst q
      exact e
    · exact cmpL_trans (List.pairwise_iff_getElem.1 h i (L.length - 1) hi hlt q) e
theorem rdL_good {g : Int → List Int × Int} : ∀ (l : List Int) (out : List Ls), Sorted out → Good out → ((rdL g l out).2 = 0 → Sorted (rdL g l out).1 ∧ Good (rdL g l out).1) ∧ ((rdL g l out).2 ≠ 0 → (rdL g l out).1 = []) ∧ (rdL g l out).1.length ≤ out.length + l.length ∧ ((rdL g l out).2 = 0 ∨ (rdL g l out).2 = 31 ∨ ∃ a, (rdL g l out).2 = (g a).2)
  | [], out, h1, h2 => by
    unfold rdL
    exact ⟨fun _ => ⟨h1, h2⟩, fun h => absurd rfl h, by simp, .inl rfl⟩
  | a :: l, out, h1, h2 => by
    unfold rdL
    by_cases e1 : (g a).2 ≠ 0
    · rw [if_pos e1]
      exact ⟨fun h => absurd h e1, fun _ => rfl, by simp, .inr (.inr ⟨a, rfl⟩)⟩
    · rw [if_neg e1]
      by_cases e2 : GetQ (g a).1 ∧ lastOk out (qOf (g a).1)
      · rw [if_pos e2]
        have hn := getQ_name e2.1
        obtain ⟨q1, q2, q3, q4⟩ := rdL_good (g := g) l (out ++ [⟨qOf (g a).1, a⟩]) (sorted_snoc (x := ⟨qOf (g a).1, a⟩) h1 e2.2) (fun x hx => by
          rcases List.mem_append.1 hx with hx | hx
          · exact h2 x hx
          · rw [List.mem_singleton.1 hx]
            exact ⟨hn.2, hn.1⟩)
        refine ⟨q1, q2, ?_, q4⟩
        rw [List.length_append, List.length_singleton] at q3
        rw [List.length_cons]
        omega
      · rw [if_neg e2]
        exact ⟨fun h => absurd (show (31 : Int) = 0 from h) (by decide), fun _ => rfl, by simp, .inr (.inl rfl)⟩
theorem readP_good {d : Dev} (hoff : d.off = false) (k : Int) : ((readP (readD d) k).2 = 0 → Sorted (readP (readD d) k).1 ∧ Good (readP (readD d) k).1) ∧ ((readP (readD d) k).2 ≠ 0 → (readP (readD d) k).1 = []) ∧ (readP (readD d) k).1.length ≤ 16 ∧ ((readP (readD d) k).2 = 0 ∨ (readP (readD d) k).2 = 31 ∨ (readP (readD d) k).2 = 2) := by
  have hg : ∀ a, (readD d a).2 = 0 ∨ (readD d a).2 = 2 := fun a => by
    unfold readD
    split
    · rw [hoff, if_neg (by decide)]
      exact .inl rfl
    · exact .inr rfl
  unfold readP
  by_cases e : k = 0
  · rw [if_pos e]
    exact ⟨fun _ => ⟨List.Pairwise.nil, fun x hx => by simp at hx⟩, fun h => absurd rfl h, by simp, .inl rfl⟩
  · rw [if_neg e]
    by_cases e1 : (readD d k).2 ≠ 0
    · rw [if_pos e1]
      refine ⟨fun h => absurd h e1, fun _ => rfl, by simp, ?_⟩
      rcases hg k with q | q
      · exact .inl q
      · exact .inr (.inr q)
    · rw [if_neg e1]
      by_cases e2 : GetD (readD d k).1
      · rw [if_pos e2]
        obtain ⟨q1, q2, q3, q4⟩ := rdL_good (g := readD d) (dOf (readD d k).1) [] List.Pairwise.nil (fun x hx => by simp at hx)
        have := getD_len e2
        refine ⟨q1, q2, by simp at q3; omega, ?_⟩
        rcases q4 with q | q | ⟨a, q⟩
        · exact .inl q
        · exact .inr (.inl q)
        · rw [q]
          rcases hg a with w | w
          · exact .inl w
          · exact .inr (.inr w)
      · rw [if_neg e2]
        exact ⟨fun h => absurd (show (31 : Int) = 0 from h) (by decide), fun _ => rfl, by simp, .inr (.inl rfl)⟩
theorem image_loop {l : List (List Int)} (hl : l.length ≤ 30) (hb : ∀ x ∈ l, Bytes x) : ∃ e, loopM (rickyardlaw25_DirDamage.s0 FU l) FU (([] : List Int), 0) = some e ∧ (e = Sum.inl true ∨ ∃ I : List Int, e = Sum.inr I ∧ Bytes I ∧ I.length = 64 * l.length) := by
  refine loopM_iv (fun j s => ∃ I : List Int, s = (I, (j : Int)) ∧ Bytes I ∧ I.length = 64 * j) _ l.length ?_ ?_ l.length 0 FU _ (by omega) (Nat.lt_of_le_of_lt hl (by decide)) ⟨[], rfl, fun x hx => by simp at hx, rfl⟩
  · rintro j s hj ⟨I, rfl, hI, hIl⟩
    have c1 : 0 ≤ (j : Int) ∧ (j : Int) < (l.length : Int) := by omega
    have w3 : IntKind.i64.wrap ((j : Int) + 1) = ((j + 1 : Nat) : Int) := by rw [w64 (by omega) (by omega)]; omega
    unfold rickyardlaw25_DirDamage.s0
    simp only [decide_eq_true c1.2, if_true, if_pos c1, ix_nat hj, w3]
    by_cases e : (l[j].length : Int) = 64
    · left
      have hlim : I.length + l[j].length ≤ LIM := Nat.le_trans (show I.length + l[j].length ≤ 10000 by omega) (by decide)
      rw [decide_eq_true e]
      simp only [Bool.not_true, Bool.false_eq_true, if_false, if_pos hlim]
      exact ⟨_, rfl, I ++ l[j], rfl, hI.app (hb _ (List.getElem_mem hj)), by rw [List.length_append]; omega⟩
    · right
      rw [decide_eq_false e]
      exact ⟨_, rfl, .inl rfl⟩
  · rintro s ⟨I, rfl, hI, hIl⟩
    exact ⟨_, by unfold rickyardlaw25_DirDamage.s0; rw [decide_eq_false (show ¬ ((l.length : Int) < (l.length : Int)) by omega), if_neg (by decide)], .inr ⟨I, rfl, hI, hIl⟩⟩
def A00 : AA := ⟨0, addF 0 (fun _ => false) [], addF 0 (fun _ => false) [], addF 0 (fun _ => false) [], addF 0 (fun _ => false) []⟩
theorem low00 : Low 0 (addF 0 (fun _ => false) []) := addF_low (fun k h => by cases h)
theorem A00_ok : AOk 0 A00 := ⟨low00, low00, low00, low00, by decide⟩
theorem DirDamage : ∀ (a0 : List (List Int)), okv 9 (⟨.sl (.sl (.int .u8)), a0⟩ : PV G.toSg) → ∀ (a1 : Int), okv 9 (⟨.int .i64, a1⟩ : PV G.toSg) → ∀ (a2 : List UInt8), okv 9 (⟨.str, a2⟩ : PV G.toSg) → ∃ fu, rickyardlaw25_DirDamage.f fu a0 a1 a2 = some true := by
  intro l h0 k h1 s _
  have hk : I64 k := wf64.1 h1
  have hbl : ∀ x ∈ l, Bytes x := fun x hx y hy => wf8.1 ((h0.2 x hx).2 y hy)
  refine ⟨FU, ?_⟩
  unfold rickyardlaw25_DirDamage.f
  rw [awake25]
  simp only [Option.bind_some, Bool.not_true, Bool.false_eq_true, if_false]
  by_cases c1 : (l.length : Int) > 30
  · rw [decide_eq_true c1, if_pos rfl]
  rw [decide_eq_false c1, if_neg (by decide)]
  by_cases c2 : (s.length : Int) > 100
  · rw [decide_eq_true c2, if_pos rfl]
  rw [decide_eq_false c2, if_neg (by decide)]
  have hl : l.length ≤ 30 := by omega
  have hs : s.length ≤ 300 := by omega
  obtain ⟨e, g1, g2⟩ := image_loop hl hbl
  rw [g1]
  rcases g2 with rfl | ⟨I, rfl, hI, hIl⟩
  · rfl
  simp only [Option.bind_some]
  have hfr : pmem_From.f FU I = some (fromD I) := from_eq hI (by omega) (Nat.lt_of_le_of_lt (show I.length + 8 ≤ 2000 by omega) (by decide))
  have hdv := from_ok hI
  have hn : I.length / 64 = l.length := by omega
  rw [hn] at hdv
  have hoff : (fromD I).off = false := rfl
  have him : img (fromD I) = List.map toB I := by
    unfold img
    rw [from_stored, octs_words hI _ (by omega), List.take_of_length_le (by omega)]
  have hof : bits_Of.f FU 0 [] = some (setOf 0 (addF 0 (fun _ => false) [])) := of_eq (fu := FU) (n := 0) (l := []) (by omega) (by simp) (by decide)
  have han : alloc_New.f FU (setOf 0 (addF 0 (fun _ => false) [])) (setOf 0 (addF 0 (fun _ => false) [])) 0 = some (some (A00.of 0), 0) := anew_eq (by omega) (by decide) low00 low00 (by decide)
  have hsn : shadow_New.f FU (fromD I) (A00.of 0) = some (some (⟨fromD I, A00.of 0⟩ : S_shadow_Store), 0) := by
    unfold shadow_New.f
    rw [works_eq (by omega) (by decide) A00_ok]
    simp only [Option.bind_some, bits_Set_Size.f]
    rw [lines_eq (by rw [hdv.len]; omega), hdv.len]
    simp only [Option.bind_some]
    rw [show (setOf 0 A00.w).size = (0 : Int) from rfl, decide_eq_false (show ¬ ((0 : Int) > ((8 * l.length / 8 : Nat) : Int)) by omega), if_neg (by decide)]
  rw [hfr]
  simp only [Option.bind_some]
  rw [hof]
  simp only [Option.bind_some]
  rw [han]
  simp only [Option.bind_some, Option.elim]
  rw [hsn]
  simp only [Option.bind_some, Option.elim]
  rw [show (⟨fromD I, A00.of 0⟩ : S_shadow_Store) = SO 0 (fromD I) A00 from rfl]
  obtain ⟨r1, r2, r3, r4⟩ := readP_good hoff k
  have hrd : dir_read.f FU (SO 0 (fromD I) A00) k = some (readP (readD (fromD I)) k) := readP_eq (by decide) hdv (by omega) k
  have hrr := rdread_eq (fu := FU) (n := l.length) (d := fromD I) (k := k) (by decide) (by omega) hdv.len hoff hk
  rw [him] at hrr
  generalize hR : readP (readD (fromD I)) k = R at *
  obtain ⟨L, er⟩ := R
  simp only at r1 r2 r3 r4
  have hls : dir_List.f FU (SO 0 (fromD I) A00) k = some (qsOf L, er) := list_eq' (by decide) hdv (by omega) hR (by omega)
  rw [hls]
  simp only [Option.bind_some]
  rw [hrr]
  simp only [Option.bind_some]
  by_cases e0 : er = 0
  · subst e0
    obtain ⟨hS, hG⟩ := r1 rfl
    have hN : ∀ x ∈ L, x.q.Name.length ≤ 300 ∧ NameOk x.q.Name := fun x hx => ⟨by have := (hG x hx).1; omega, (hG x hx).2⟩
    unfold ansOf
    simp only [if_true, decide_true, Bool.not_true, Bool.false_eq_true, if_false]
    rw [same_eq (by rw [qsOf_len]; omega) (by decide)]
    simp only [Option.bind_some, Bool.not_true, Bool.false_eq_true, if_false]
    obtain ⟨p, hp, p1, p2, p3⟩ := place_eq (fu := FU) (by decide) (L := L) (s := s) (by omega) (fun x hx => (hN x hx).1) hs hS
    have hat : At' L s p := ⟨p1, p2, p3⟩
    have hfd := hat.found hS hN hs
    by_cases e2 : p < L.length ∧ cAt L s p = 0
    · have hpn := (cAt_zero hN hs e2.1).1 e2.2
      have hF : dir_Find.f FU (SO 0 (fromD I) A00) k s = some (L[p].q, 0) := by
        unfold dir_Find.f
        rw [hrd]
        simp only [Option.bind_some, decide_true, Bool.not_true, Bool.false_eq_true, if_false]
        rw [hp]
        simp only [Option.bind_some]
        rw [decide_eq_true e2]
        simp only [Bool.not_true, Bool.false_eq_true, if_false]
        rw [if_pos (show 0 ≤ (p : Int) ∧ (p : Int) < (L.length : Int) by omega), ix_nat e2.1]
      rw [hF]
      simp only [Option.bind_some]
      rw [at_here (by omega) (by decide) hN hs e2.1 hpn hat]
      simp only [Option.bind_some]
      rw [decide_eq_false (show ¬ ((p : Int) < 0) by omega)]
      simp only [Bool.false_eq_true, if_false, decide_true, if_true]
      rw [if_pos (by rw [qsOf_len]; omega), ixq_map e2.1, ix_nat e2.1, decide_eq_true rfl]
    · have hno := mt hfd.2 e2
      have hF : dir_Find.f FU (SO 0 (fromD I) A00) k s = some (newQ [], 15) := by
        unfold dir_Find.f
        rw [hrd]
        simp only [Option.bind_some, decide_true, Bool.not_true, Bool.false_eq_true, if_false]
        rw [hp]
        simp only [Option.bind_some]
        rw [decide_eq_false e2]
        rfl
      rw [hF]
      simp only [Option.bind_some]
      rw [at_no (by omega) (by decide) hno]
      rfl
  · have hL := r2 e0
    subst hL
    have hF : dir_Find.f FU (SO 0 (fromD I) A00) k s = some (newQ [], er) := by
      unfold dir_Find.f
      rw [hrd]
      simp only [Option.bind_some]
      rw [decide_eq_false e0]
      rfl
    unfold ansOf
    simp only [if_neg e0, decide_eq_false e0, decide_true, Bool.not_true, Bool.false_eq_true, if_false]
    rw [show qsOf [] = [] from rfl, same_eq (by simp) (by decide)]
    simp only [Option.bind_some, Bool.not_true, Bool.not_false, Bool.false_eq_true, if_false, if_true]
    rw [hF]
    simp only [Option.bind_some, decide_true, if_true]
    rcases r4 with q | q | q
    · exact absurd q e0
    · subst q
      rfl
    · subst q
      rfl
end Go.Proofs.YtdifnahlheogdaaGreatDoor.Pure
namespace Go.Proofs.YtdifnahlheogdaaGreatDoor.dirDamage
open Go.ChangeShapes Go.WideShapes Go.ChangeAt Go.RowKit
open Go.ChangeMaps (open_string shut_string)
open Go Go.Xw Go.Yw
theorem own : ownKnob Tryz.prog.godebug = none := Facts.own
theorem laidOut : laidOutB Tryz.prog = true := Facts.laid
theorem closed : joinedFacts Tryz.pinned.checked.prog 3 Tryz.f3 Rows.dirDamageSpec Rows.dirDamageRow = true := by
  unfold joinedFacts
  rw [Facts.enter, Facts.lifts, Facts.make, Facts.laid, Facts.rowed, Facts.plain, Facts.heard]
  kernel_rfl
set_option maxRecDepth 100000 in
set_option maxHeartbeats 1000000 in
theorem lifted (os : Os) (started : os.Started) (H : Type) (enc : TypeId × Value → H) :
    ReturnsInHanded {} Tryz.checked os 3 .any (fun w args => (Rows.dirDamageSpec.pre enc Tryz.prog Tryz.f3 [] false w args ∧ laidMetH Tryz.prog Laid.L0 w) ∧ sizedMet enc Tryz.prog Tryz.f3 (OpenSpec.ofChange Rows.dirDamageSpec) false w args) (Rows.dirDamageSpec.post enc Tryz.prog Tryz.f3 false true false false) := by
  refine returnsInHanded_of_change_and (C := Tryz.checked) (X := fun w _ => laidMetH Tryz.prog Laid.L0 w) (fun _ _ _ hh h => h.of_heap hh) own started (by kernel_rfl) Tryz.func3
    (ChangeSpec.witness_shaped (enc := enc) (C := Tryz.checked) (os := os) (X := fun w _ => laidMetH Tryz.prog Laid.L0 w) false (World.doorLaid Tryz.prog 400 os) #[.slice none 0 0, .int .i64 0, .string ByteArray.empty] 8 rfl (World.shaped_of_RefB (by kernel_rfl) (by kernel_rfl)) (by kernel_rfl) (by kernel_rfl) (by kernel_rfl) (Laid.met os _)) ?_
  intro W base args ds gs before hval0 hW _ _ hL _
  have hval : ∀ (j : Nat) t v, Tryz.f3.params[j]? = some t → args[j]? = some v → Value.okWide Tryz.prog W .any base t v := hval0
  have hW' := hW
  obtain ⟨p, q, hA0, hV, rfl, hfz, hnd⟩ := hW
  have hA : DataW.TrodAll enc Tryz.prog W 0 (fun _ => true) true Tryz.f3.params.toList args.toList ds p := hA0
  rw [Tryz.params3] at hA hval
  obtain ⟨v0, vs0, d0, ds0, p0, q0, hargs, rfl, rfl, h0, r0⟩ := trodAll_cons hA
  obtain ⟨v1, vs1, d1, ds1, p1, q1, rfl, rfl, rfl, h1, r1⟩ := trodAll_cons r0
  obtain ⟨v2, vs2, d2, ds2, p2, q2, rfl, rfl, rfl, h2, r2⟩ := trodAll_cons r1
  obtain ⟨rfl, rfl, rfl⟩ := trodAll_nil r2
  obtain rfl : args = #[v0, v1, v2] := by cases args; simp_all
  obtain ⟨rfl, rfl⟩ := trodVars_none hV
  have k0 := h0
  have lt0 : ∀ x ∈ p0, x.block < W.heap.size := by obtain ⟨m, hm⟩ := k0; exact DataW.trod_lt m _ _ _ hm
  obtain ⟨fu0, hf0⟩ := h0
  obtain ⟨a0, c0, o0⟩ := open_ok (Γ := G) gok full0 9 22 (.sl (.sl (.int .u8))) (by kernel_rfl) enc _ _ _ _ _ _ hf0
  have w0 : VR (Γ := G) (fun _ => none) W (Low W) (.v (.sl (.sl (.int .u8))) a0) v0 := arg_ok (P := Tryz.prog) (base := base) (n := 8) gok c0 (hval 0 22 v0 rfl rfl) (by kernel_rfl)
  have k1 := h1
  have lt1 : ∀ x ∈ p1, x.block < W.heap.size := by obtain ⟨m, hm⟩ := k1; exact DataW.trod_lt m _ _ _ hm
  obtain ⟨fu1, hf1⟩ := h1
  obtain ⟨a1, c1, o1⟩ := open_ok (Γ := G) gok full0 9 3 (.int .i64) (by kernel_rfl) enc _ _ _ _ _ _ hf1
  have w1 : VR (Γ := G) (fun _ => none) W (Low W) (.v (.int .i64) a1) v1 := arg_ok (P := Tryz.prog) (base := base) (n := 8) gok c1 (hval 1 3 v1 rfl rfl) (by kernel_rfl)
  obtain ⟨b1, rfl, rfl, rfl, y1⟩ := open_int Tryz.underlying3 (hval 1 3 v1 rfl rfl) k1
  have k2 := h2
  have lt2 : ∀ x ∈ p2, x.block < W.heap.size := by obtain ⟨m, hm⟩ := k2; exact DataW.trod_lt m _ _ _ hm
  obtain ⟨fu2, hf2⟩ := h2
  obtain ⟨a2, c2, o2⟩ := open_ok (Γ := G) gok full0 9 9 (.str) (by kernel_rfl) enc _ _ _ _ _ _ hf2
  have w2 : VR (Γ := G) (fun _ => none) W (Low W) (.v (.str) a2) v2 := arg_ok (P := Tryz.prog) (base := base) (n := 8) gok c2 (hval 2 9 v2 rfl rfl) (by kernel_rfl)
  obtain ⟨b2, rfl, rfl, rfl, y2⟩ := open_string Tryz.underlying9 (hval 2 9 v2 rfl rfl) k2
  obtain ⟨fu, hfu⟩ := Pure.DirDamage a0 o0 a1 o1 a2 o2
  refine Calls.mono (law_ok (rickyardlaw25_DirDamage.sc fu a0 a1 a2 true hfu) (.cons w0 (.cons w1 (.cons w2 .nil))) (Laid.gl hL)) fun e W' hr => ?_
  obtain ⟨v, rfl, rfl, gr⟩ := hr
  have bel := Fr.below gr
  exact ⟨_, rfl, _, _, _, [], _, [], hW', trodAll_mk1 (shut_bool Tryz.underlying4 _), (trodAll_cons_mk (Below.trod laidOut (by kernel_rfl) (of_decide_eq_true (by kernel_rfl)) k0 bel lt0) (trodAll_cons_mk (shut_int Tryz.underlying3 y1) (trodAll_cons_mk (shut_string Tryz.underlying9 y2) trodAll_mk0))), rfl, bel.frame _, fun h => by cases h⟩
theorem over : Rows.dirDamageRow.holds Tryz.pinned (OpenSpec.ofChange Rows.dirDamageSpec) :=
  OpenClaim.holds_of_wide 3 Tryz.f3 rfl rfl rfl rfl rfl rfl rfl ⟨rfl, rfl, rfl, rfl, rfl⟩ rfl rfl rfl rfl rfl (by kernel_rfl) Tryz.func3 closed
    (of_decide_eq_true (by kernel_rfl)) (by unfold Func.isWrapper; first | (rw [if_pos (by decide +kernel)]; kernel_rfl) | (rw [if_neg (by decide +kernel)]; exact ⟨rfl, rfl⟩))
    (fun os started H enc _ => lifted os started H enc)
theorem card : Rows.DirDamageCardSaid :=
  Claim7.holds_tied_plain_at .later [] [.data] true (true, "3490497729f6ac32662a439c723bf86548de1a2b70af1bdc62943a223396cb6b") false
    over (fun _ h => by cases h) (by kernel_rfl) (fun _ h => by cases h) dirDamage_row_tie rfl ⟨rfl, rfl⟩ (by kernel_rfl) rfl
    (fun f fn hf hfn => by
      obtain rfl : f = 3 := Option.some.inj ((show Tryz.prog.funcNamed "rickyard/rickyardlaw25.DirDamage" = some 3 by kernel_rfl).symm.trans hf) |>.symm
      obtain rfl : fn = Tryz.f3 := (Option.some.inj (Tryz.func3.symm.trans hfn)).symm
      exact ⟨by kernel_rfl, fun j t ht => by
        rw [Tryz.params3] at ht
        have hm : t ∈ [22, 3, 9] := by simpa using Array.mem_of_getElem? ht
        have hall : ([22, 3, 9].all fun u => !Tryz.prog.wantsStandIn u) = true := by kernel_rfl
        exact (show Tryz.prog.wantsStandIn t = false by simpa using List.all_eq_true.1 hall t hm)⟩)
    (by kernel_rfl)
end Go.Proofs.YtdifnahlheogdaaGreatDoor.dirDamage
namespace Go.Proofs.YtdifnahlheogdaaGreatDoor
theorem dirDamage_holds : Rows.DirDamageCardSaid := dirDamage.card
#print axioms dirDamage_holds
end Go.Proofs.YtdifnahlheogdaaGreatDoor
