/- DirElder: texts merged, part 7 of 8. The last part proves that the law DirElder holds for every input. -/
import Derived.Test.YtdifnahlheogdaaGreatDoorPkDirElder6
set_option maxRecDepth 100000
set_option maxHeartbeats 4000000
set_option linter.unusedVariables false
set_option linter.unusedSimpArgs false
set_option linter.unusedSectionVars false
namespace Go.Proofs.YtdifnahlheogdaaGreatDoor.Pure
open Go Go.Xw Go.Yw
def mm (c : Nat) : Nat → Nat
  | 0 => 0
  | n + 1 => 256 * mm c n + c
def f1 (n x : Nat) : Nat := ((x / 2) &&& mm 85 n) + (x &&& mm 85 n)
def f2 (n x : Nat) : Nat := ((x / 4) &&& mm 51 n) + (x &&& mm 51 n)
def f3 (n x : Nat) : Nat := (x / 16 + x) &&& mm 15 n
def pc (b : Nat) : Nat := ((List.range 8).filter fun k => b.testBit k).length
def tn : Nat → Nat → Nat
  | 0, _ => 0
  | n + 1, x => 256 * tn n (x / 256) + pc (x % 256)
theorem and256 {y b M c : Nat} (hb : b < 256) (hc : c < 256) : (256 * y + b) &&& (256 * M + c) = 256 * (y &&& M) + (b &&& c) := by
  have e : 256 = 2 ^ 8 := by decide
  have hbc : b &&& c < 2 ^ 8 := Nat.lt_of_le_of_lt Nat.and_le_left (by omega)
  apply Nat.eq_of_testBit_eq
  intro j
  rw [Nat.testBit_and, e, Nat.testBit_two_pow_mul_add _ (by omega : b < 2 ^ 8), Nat.testBit_two_pow_mul_add _ (by omega : c < 2 ^ 8), Nat.testBit_two_pow_mul_add _ hbc]
  by_cases h : j < 8
  · rw [if_pos h, if_pos h, if_pos h, Nat.testBit_and]
  · rw [if_neg h, if_neg h, if_neg h, Nat.testBit_and]
theorem t85 : ∀ (b : Fin 256) (r : Fin 2), (128 * (r : Nat) + (b : Nat) / 2) &&& 85 = ((b : Nat) / 2) &&& 85 := by decide +kernel
theorem t51 : ∀ (b : Fin 256) (r : Fin 4), (64 * (r : Nat) + (b : Nat) / 4) &&& 51 = ((b : Nat) / 4) &&& 51 := by decide +kernel
theorem t15 : ∀ (b : Fin 69) (r : Fin 5), (16 * (r : Nat) + (b : Nat) / 16 + (b : Nat)) &&& 15 = ((b : Nat) / 16 + (b : Nat)) &&& 15 := by decide +kernel
theorem tb : ∀ b : Fin 256, f1 1 b < 256 ∧ f2 1 (f1 1 b) < 69 ∧ f2 1 (f1 1 b) % 16 ≤ 4 ∧ f3 1 (f2 1 (f1 1 b)) = pc b ∧ pc b ≤ 8 := by decide +kernel
theorem tb2 : ∀ b : Fin 256, ((b : Nat) / 2 &&& 85) + ((b : Nat) &&& 85) = f1 1 b ∧ ((b : Nat) / 4 &&& 51) + ((b : Nat) &&& 51) = f2 1 b ∧ ((b : Nat) / 16 + b) &&& 15 = f3 1 b := by decide +kernel
theorem f1_succ {n y b : Nat} (hb : b < 256) : f1 (n + 1) (256 * y + b) = 256 * f1 n y + f1 1 b := by
  have e1 : (256 * y + b) / 2 = 256 * (y / 2) + (128 * (y % 2) + b / 2) := by omega
  unfold f1
  show (((256 * y + b) / 2) &&& (256 * mm 85 n + 85)) + ((256 * y + b) &&& (256 * mm 85 n + 85)) = _
  rw [e1, and256 (by omega) (by decide), and256 hb (by decide)]
  have h1 := t85 ⟨b, hb⟩ ⟨y % 2, by omega⟩
  have h2 := (tb2 ⟨b, hb⟩).1
  simp only at h1 h2
  unfold f1 at h2
  rw [h1, ← h2]
  omega
theorem f2_succ {n y b : Nat} (hb : b < 256) : f2 (n + 1) (256 * y + b) = 256 * f2 n y + f2 1 b := by
  have e1 : (256 * y + b) / 4 = 256 * (y / 4) + (64 * (y % 4) + b / 4) := by omega
  unfold f2
  show (((256 * y + b) / 4) &&& (256 * mm 51 n + 51)) + ((256 * y + b) &&& (256 * mm 51 n + 51)) = _
  rw [e1, and256 (by omega) (by decide), and256 hb (by decide)]
  have h1 := t51 ⟨b, hb⟩ ⟨y % 4, by omega⟩
  have h2 := (tb2 ⟨b, hb⟩).2.1
  simp only at h1 h2
  unfold f2 at h2
  rw [h1, ← h2]
  omega
theorem f3_succ {n y b : Nat} (hb : b < 69) (hy : y % 16 ≤ 4) : f3 (n + 1) (256 * y + b) = 256 * f3 n y + f3 1 b := by
  have e1 : (256 * y + b) / 16 + (256 * y + b) = 256 * (y / 16 + y) + (16 * (y % 16) + b / 16 + b) := by omega
  unfold f3
  show ((256 * y + b) / 16 + (256 * y + b)) &&& (256 * mm 15 n + 15) = _
  rw [e1, and256 (by omega) (by decide)]
  have h1 := t15 ⟨b, hb⟩ ⟨y % 16, by omega⟩
  have h2 := (tb2 ⟨b, by omega⟩).2.2
  simp only at h1 h2
  unfold f3 at h2
  rw [h1, ← h2]
theorem f_all : ∀ (n x : Nat), f1 n x < 256 ^ n ∧ f2 n (f1 n x) ≤ mm 68 n ∧ f2 n (f1 n x) % 16 ≤ 4 ∧ f3 n (f2 n (f1 n x)) = tn n x
  | 0, x => by simp [f1, f2, f3, mm, tn]
  | n + 1, x => by
    obtain ⟨h1, h2, h3, h4⟩ := f_all n (x / 256)
    have hx : x = 256 * (x / 256) + x % 256 := by omega
    have hb : x % 256 < 256 := by omega
    obtain ⟨b1, b2, b3, b4, _⟩ := tb ⟨x % 256, hb⟩
    simp only at b1 b2 b3 b4
    have e1 : f1 (n + 1) x = 256 * f1 n (x / 256) + f1 1 (x % 256) := by
      conv => lhs; rw [hx]
      exact f1_succ hb
    have e2 := f2_succ (n := n) (y := f1 n (x / 256)) b1
    have e3 := f3_succ (n := n) (y := f2 n (f1 n (x / 256))) b2 h3
    rw [e1, e2, e3, h4, b4]
    refine ⟨?_, ?_, by omega, rfl⟩
    · rw [Nat.pow_succ]
      omega
    · unfold mm
      omega
theorem tn8 (x : Nat) : ∃ s0 s1 s2 s3 s4 s5 s6 s7 : Nat, tn 8 x = s0 + 256 * s1 + 65536 * s2 + 16777216 * s3 + 4294967296 * s4 + 1099511627776 * s5 + 281474976710656 * s6 + 72057594037927936 * s7 ∧ (s0 ≤ 8 ∧ s1 ≤ 8 ∧ s2 ≤ 8 ∧ s3 ≤ 8 ∧ s4 ≤ 8 ∧ s5 ≤ 8 ∧ s6 ≤ 8 ∧ s7 ≤ 8) ∧ s0 = pc (x % 256) ∧ s1 = pc (x / 256 % 256) ∧ s2 = pc (x / 256 / 256 % 256) ∧ s3 = pc (x / 256 / 256 / 256 % 256) ∧ s4 = pc (x / 256 / 256 / 256 / 256 % 256) ∧ s5 = pc (x / 256 / 256 / 256 / 256 / 256 % 256) ∧ s6 = pc (x / 256 / 256 / 256 / 256 / 256 / 256 % 256) ∧ s7 = pc (x / 256 / 256 / 256 / 256 / 256 / 256 / 256 % 256) := by
  have hp : ∀ y, pc (y % 256) ≤ 8 := fun y => (tb ⟨y % 256, by omega⟩).2.2.2.2
  refine ⟨_, _, _, _, _, _, _, _, ?_, ⟨hp _, hp _, hp _, hp _, hp _, hp _, hp _, hp _⟩, rfl, rfl, rfl, rfl, rfl, rfl, rfl, rfl⟩
  simp only [tn]
  omega
def cnt (g : Nat → Bool) (n : Nat) : Nat := ((List.range n).filter g).length
theorem cnt_add (g : Nat → Bool) (m n : Nat) : cnt g (m + n) = cnt g m + cnt (fun k => g (m + k)) n := by
  unfold cnt
  rw [List.range_add, List.filter_append, List.length_append, List.filter_map, List.length_map]
  rfl
theorem cnt_congr {f g : Nat → Bool} {n : Nat} (h : ∀ k, k < n → f k = g k) : cnt f n = cnt g n := by
  unfold cnt
  rw [List.filter_congr fun k hk => h k (List.mem_range.1 hk)]
theorem div_bit (x k : Nat) : (x / 256).testBit k = x.testBit (k + 8) := by
  rw [show (256 : Nat) = 2 ^ 8 from by decide, Nat.testBit_div_two_pow]
theorem pc_low (x : Nat) : pc (x % 256) = cnt (fun k => x.testBit k) 8 := by
  refine cnt_congr fun k hk => ?_
  rw [show (256 : Nat) = 2 ^ 8 from by decide, Nat.testBit_mod_two_pow]
  simp [hk]
theorem cnt8 (x n : Nat) : cnt (fun k => x.testBit k) (8 + n) = pc (x % 256) + cnt (fun k => (x / 256).testBit k) n := by
  rw [cnt_add, pc_low]
  congr 1
  refine cnt_congr fun k _ => ?_
  rw [div_bit, Nat.add_comm]
theorem and127 {x : Nat} (h : x < 9223372036854775808) : bAnd .i64 (IntKind.i64.wrap (x : Int)) 127 = ((x % 128 : Nat) : Int) := by
  rw [w64 (by omega) (by omega)]
  unfold bAnd
  show IntKind.i64.wrap (((BitVec.ofInt 64 (x : Int) &&& BitVec.ofInt 64 127).toNat : Nat) : Int) = _
  rw [show (127 : Int) = ((127 : Nat) : Int) from rfl, ofInt_nat, ofInt_nat, BitVec.toNat_and, BitVec.toNat_ofNat, BitVec.toNat_ofNat, Nat.mod_eq_of_lt (by omega), Nat.mod_eq_of_lt (by decide), show (127 : Nat) = 2 ^ 7 - 1 from rfl, Nat.and_two_pow_sub_one_eq_mod]
  rw [w64 (by omega) (by omega)]
theorem shr_of {x : Nat} {k : Int} {m : Nat} (hk : k = (m : Int)) (hm : m ≤ 64) : shR .u64 (x : Int) k = ((x / 2 ^ m : Nat) : Int) := by rw [hk]; exact shr64n hm
theorem dv {X A r m : Nat} (h : X = m * A + r) (hr : r < m) : X / m = A := by
  rw [h, Nat.mul_add_div (by omega), Nat.div_eq_of_lt hr, Nat.add_zero]
def fd (x : Nat) : Nat := x + x / 256
def fe (x : Nat) : Nat := x + x / 65536
def fg (x : Nat) : Nat := (x + x / 4294967296) % 128
theorem fold8 {s0 s1 s2 s3 s4 s5 s6 s7 : Nat} (hs : s0 ≤ 8 ∧ s1 ≤ 8 ∧ s2 ≤ 8 ∧ s3 ≤ 8 ∧ s4 ≤ 8 ∧ s5 ≤ 8 ∧ s6 ≤ 8 ∧ s7 ≤ 8) : fg (fe (fd (s0 + 256 * s1 + 65536 * s2 + 16777216 * s3 + 4294967296 * s4 + 1099511627776 * s5 + 281474976710656 * s6 + 72057594037927936 * s7))) = s0 + (s1 + (s2 + (s3 + (s4 + (s5 + (s6 + s7)))))) := by
  have d1 : fd (s0 + 256 * s1 + 65536 * s2 + 16777216 * s3 + 4294967296 * s4 + 1099511627776 * s5 + 281474976710656 * s6 + 72057594037927936 * s7) = (s0 + s1) + 256 * (s1 + s2) + 65536 * (s2 + s3) + 16777216 * (s3 + s4) + 4294967296 * (s4 + s5) + 1099511627776 * (s5 + s6) + 281474976710656 * (s6 + s7) + 72057594037927936 * s7 := by
    unfold fd
    rw [dv (X := (s0 + 256 * s1 + 65536 * s2 + 16777216 * s3 + 4294967296 * s4 + 1099511627776 * s5 + 281474976710656 * s6 + 72057594037927936 * s7)) (A := s1 + 256 * s2 + 65536 * s3 + 16777216 * s4 + 4294967296 * s5 + 1099511627776 * s6 + 281474976710656 * s7) (r := s0) (m := 256) (by omega) (by omega)]
    omega
  rw [d1]
  have d2 : fe ((s0 + s1) + 256 * (s1 + s2) + 65536 * (s2 + s3) + 16777216 * (s3 + s4) + 4294967296 * (s4 + s5) + 1099511627776 * (s5 + s6) + 281474976710656 * (s6 + s7) + 72057594037927936 * s7) = (s0 + s1 + s2 + s3) + 256 * (s1 + s2 + s3 + s4) + 65536 * (s2 + s3 + s4 + s5) + 16777216 * (s3 + s4 + s5 + s6) + 4294967296 * (s4 + s5 + s6 + s7) + 1099511627776 * (s5 + s6 + s7) + 281474976710656 * (s6 + s7) + 72057594037927936 * s7 := by
    unfold fe
    rw [dv (A := (s2 + s3) + 256 * (s3 + s4) + 65536 * (s4 + s5) + 16777216 * (s5 + s6) + 4294967296 * (s6 + s7) + 1099511627776 * s7) (r := (s0 + s1) + 256 * (s1 + s2)) (m := 65536) (by omega) (by omega)]
    omega
  rw [d2]
  unfold fg
  rw [dv (A := (s4 + s5 + s6 + s7) + 256 * (s5 + s6 + s7) + 65536 * (s6 + s7) + 16777216 * s7) (r := (s0 + s1 + s2 + s3) + 256 * (s1 + s2 + s3 + s4) + 65536 * (s2 + s3 + s4 + s5) + 16777216 * (s3 + s4 + s5 + s6)) (m := 4294967296) (by omega) (by omega)]
  omega
theorem ones_eq {fu x : Nat} (h : x < 2 ^ 64) : bits_OnesCount64.f fu (x : Int) = some ((cnt (fun k => x.testBit k) 64 : Nat) : Int) := by
  obtain ⟨h1, h2, _, h3⟩ := f_all 8 x
  obtain ⟨s0, s1, s2, s3, s4, s5, s6, s7, ht, hs, q0, q1, q2, q3, q4, q5, q6, q7⟩ := tn8 x
  have hm : mm 85 8 = 6148914691236517205 ∧ mm 51 8 = 3689348814741910323 ∧ mm 15 8 = 1085102592571150095 ∧ mm 68 8 = 4919131752989213764 := by decide
  have hc : cnt (fun k => x.testBit k) 64 = s0 + (s1 + (s2 + (s3 + (s4 + (s5 + (s6 + s7)))))) := by
    rw [show 64 = 8 + 56 from rfl, cnt8, show 56 = 8 + 48 from rfl, cnt8, show 48 = 8 + 40 from rfl, cnt8, show 40 = 8 + 32 from rfl, cnt8, show 32 = 8 + 24 from rfl, cnt8, show 24 = 8 + 16 from rfl, cnt8, show 16 = 8 + 8 from rfl, cnt8, ← pc_low, q0, q1, q2, q3, q4, q5, q6, q7]
  have a1 : IntKind.u64.wrap (bAnd .u64 (shR .u64 (x : Int) 1) 6148914691236517205 + bAnd .u64 (x : Int) 6148914691236517205) = ((f1 8 x : Nat) : Int) := by
    rw [shr_of (k := 1) (m := 1) rfl (by decide), show (6148914691236517205 : Int) = ((6148914691236517205 : Nat) : Int) from rfl, and64 (by omega) (by decide), and64 h (by decide), ← Int.natCast_add, wrap_nat]
    · unfold f1
      rw [hm.1]
    · have := h1
      unfold f1 at this
      rw [hm.1] at this
      exact Nat.lt_of_lt_of_le this (by decide)
  unfold bits_OnesCount64.f
  rw [a1]
  generalize f1 8 x = y1 at *
  have hy1 : y1 < 2 ^ 64 := Nat.lt_of_lt_of_le h1 (by decide)
  have a2 : IntKind.u64.wrap (bAnd .u64 (shR .u64 (y1 : Int) 2) 3689348814741910323 + bAnd .u64 (y1 : Int) 3689348814741910323) = ((f2 8 y1 : Nat) : Int) := by
    rw [shr_of (k := 2) (m := 2) rfl (by decide), show (3689348814741910323 : Int) = ((3689348814741910323 : Nat) : Int) from rfl, and64 (by omega) (by decide), and64 hy1 (by decide), ← Int.natCast_add, wrap_nat]
    · unfold f2
      rw [hm.2.1]
    · have := h2
      unfold f2 at this
      rw [hm.2.1, hm.2.2.2] at this
      exact Nat.lt_of_le_of_lt this (by decide)
  rw [a2]
  rw [hm.2.2.2] at h2
  generalize f2 8 y1 = y2 at *
  have a3 : bAnd .u64 (IntKind.u64.wrap (shR .u64 (y2 : Int) 4 + (y2 : Int))) 1085102592571150095 = ((tn 8 x : Nat) : Int) := by
    rw [shr_of (k := 4) (m := 4) rfl (by decide), ← Int.natCast_add, wrap_nat (by rw [p64]; omega), show (1085102592571150095 : Int) = ((1085102592571150095 : Nat) : Int) from rfl, and64 (by rw [p64]; omega) (by decide), ← h3]
    unfold f3
    rw [hm.2.2.1]
  rw [a3, ht]
  have sh : ∀ (y m : Nat) (k : Int), k = (m : Int) → m ≤ 64 → y + y / 2 ^ m < 2 ^ 64 → IntKind.u64.wrap ((y : Int) + shR .u64 (y : Int) k) = ((y + y / 2 ^ m : Nat) : Int) := by
    intro y m k hk hm hy
    rw [shr_of hk hm, ← Int.natCast_add, wrap_nat hy]
  rw [sh _ 8 8 rfl (by decide) (by rw [p64]; omega), sh _ 16 16 rfl (by decide) (by rw [p64]; omega), sh _ 32 32 rfl (by decide) (by rw [p64]; omega), and127 (by omega), hc]
  clear a3 a2 a1 hc q0 q1 q2 q3 q4 q5 q6 q7 sh h3 ht hy1 h1 h2 hm h
  refine congrArg (fun n : Nat => some ((n : Nat) : Int)) ?_
  rw [show (2 : Nat) ^ 8 = 256 from by decide, show (2 : Nat) ^ 16 = 65536 from by decide, show (2 : Nat) ^ 32 = 4294967296 from by decide]
  exact fold8 hs
noncomputable def wordAt (f : Nat → Bool) (j : Nat) : Nat := wdN (fun k => f (64 * j + k)) 64
noncomputable def wordsOf (f : Nat → Bool) (m : Nat) : List Int := (List.range m).map fun j => ((wordAt f j : Nat) : Int)
noncomputable def setOf (n : Nat) (f : Nat → Bool) : S_bits_Set := ⟨(n : Int), wordsOf f ((n + 63) / 64)⟩
def els (n : Nat) (f : Nat → Bool) : List Int := ((List.range n).filter f).map fun (k : Nat) => (k : Int)
def Low (n : Nat) (f : Nat → Bool) : Prop := ∀ k, f k = true → k < n
def addF (n : Nat) (f : Nat → Bool) (l : List Int) : Nat → Bool := fun k => f k || (decide (k < n) && decide ((k : Int) ∈ l))
def dropF (f : Nat → Bool) (l : List Int) : Nat → Bool := fun k => f k && !decide ((k : Int) ∈ l)
def hasI (n : Nat) (f : Nat → Bool) (k : Int) : Bool := decide (0 ≤ k) && (decide (k < (n : Int)) && f k.toNat)
theorem words_len (f : Nat → Bool) (m : Nat) : (wordsOf f m).length = m := by simp [wordsOf]
theorem words_ix {f : Nat → Bool} {m j : Nat} (h : j < m) : ix (wordsOf f m) (j : Int) = ((wordAt f j : Nat) : Int) := by
  rw [ix_nat (by rw [words_len]; exact h)]
  simp [wordsOf]
theorem word_congr {f g : Nat → Bool} {j : Nat} (h : ∀ k, k < 64 → f (64 * j + k) = g (64 * j + k)) : wordAt f j = wordAt g j := wdN_congr h
theorem words_congr {f g : Nat → Bool} {m : Nat} (h : ∀ k, k < 64 * m → f k = g k) : wordsOf f m = wordsOf g m := by
  unfold wordsOf
  apply List.map_congr_left
  intro j hj
  have := List.mem_range.1 hj
  rw [word_congr fun k hk => h _ (by omega)]
theorem set_congr {f g : Nat → Bool} {n : Nat} (h : ∀ k, f k = g k) : setOf n f = setOf n g := by
  rw [show f = g from funext h]
theorem words_set {f : Nat → Bool} {m k : Nat} {v : Nat} (hk : k / 64 < m) (g : Nat → Bool) (hv : v = wordAt g (k / 64)) (hg : ∀ i, i / 64 ≠ k / 64 → g i = f i) : (wordsOf f m).set (k / 64) ((v : Nat) : Int) = wordsOf g m := by
  apply List.ext_getElem (by simp [wordsOf])
  intro j h1 h2
  rw [List.getElem_set]
  simp only [wordsOf, List.getElem_map, List.getElem_range]
  by_cases e : k / 64 = j
  · rw [if_pos e, hv, e]
  · rw [if_neg e, word_congr fun i hi => (hg (64 * j + i) (by omega)).symm]
theorem tdiv64 (k : Nat) : Int.tdiv (k : Int) 64 = ((k / 64 : Nat) : Int) := by
  rw [Int.tdiv_eq_ediv_of_nonneg (by omega)]
  omega
theorem tmod64 (k : Nat) : Int.tmod (k : Int) 64 = ((k % 64 : Nat) : Int) := by
  rw [Int.tmod_eq_emod_of_nonneg (by omega)]
  omega
theorem may_b {fu : Nat} {s : S_bits_Set} {k : Int} : bits_Set_may.f fu s k = some (decide (0 ≤ k) && decide (k < s.size)) := by
  unfold bits_Set_may.f
  by_cases h : k ≥ 0
  · have h' : 0 ≤ k := h
    simp [h']
  · have h' : ¬ 0 ≤ k := h
    simp [h']
theorem has_eq {fu n : Nat} {f : Nat → Bool} {k : Int} (hn : n ≤ 100000) : bits_Set_Has.f fu (setOf n f) k = some (hasI n f k) := by
  unfold bits_Set_Has.f hasI
  rw [may_b]
  simp only [Option.bind_some]
  by_cases h : 0 ≤ k ∧ k < (n : Int)
  · obtain ⟨j, rfl⟩ : ∃ j : Nat, k = (j : Int) := ⟨k.toNat, by omega⟩
    have hj : j / 64 < (n + 63) / 64 := by omega
    rw [show (setOf n f).size = (n : Int) from rfl, decide_eq_true h.1, decide_eq_true h.2, Bool.true_and, if_pos rfl, tdiv64, tmod64, w64 (by omega) (by omega), show (setOf n f).words = wordsOf f ((n + 63) / 64) from rfl, words_ix hj, if_pos ⟨by omega, by rw [words_len]; omega⟩, if_pos (by omega)]
    have := has_wd (g := fun r => f (64 * (j / 64) + r)) (r := j % 64) (by omega)
    unfold wordAt
    rw [this]
    simp only [Bool.true_and, Int.toNat_natCast]
    rw [show 64 * (j / 64) + j % 64 = j by omega]
  · rw [show (setOf n f).size = (n : Int) from rfl]
    by_cases h0 : 0 ≤ k
    · rw [decide_eq_true h0, decide_eq_false (fun q => h ⟨h0, q⟩)]
      rfl
    · rw [decide_eq_false h0]
      rfl
theorem one_eq {n : Nat} {f : Nat → Bool} {x : Int} {fu : Nat} (hn : n ≤ 100000) (op : Int → Int → Int) (g : Bool → Bool → Bool) (hop : ∀ (g' : Nat → Bool) (r : Nat), r < 64 → op ((wdN g' 64 : Nat) : Int) (shL .u64 1 (r : Int)) = ((wdN (fun k => g (g' k) (decide (k = r))) 64 : Nat) : Int)) (hg : ∀ b, g b false = b) :
    ((if (decide (0 ≤ x) && decide (x < (n : Int))) = true then if 0 ≤ (IntKind.i64.wrap (Int.tdiv x 64)) ∧ (IntKind.i64.wrap (Int.tdiv x 64)) < (List.length (wordsOf f ((n + 63) / 64)) : Int) then if 0 ≤ (Int.tmod x 64) then if 0 ≤ (IntKind.i64.wrap (Int.tdiv x 64)) ∧ (IntKind.i64.wrap (Int.tdiv x 64)) < (List.length (wordsOf f ((n + 63) / 64)) : Int) then some ((List.set (wordsOf f ((n + 63) / 64)) (Int.toNat (IntKind.i64.wrap (Int.tdiv x 64))) (op (ix (wordsOf f ((n + 63) / 64)) (IntKind.i64.wrap (Int.tdiv x 64))) (shL .u64 1 (Int.tmod x 64))))) else none else none else none else some (wordsOf f ((n + 63) / 64))) : Option (List Int)) =
      some (wordsOf (fun k => g (f k) (decide (k < n) && decide ((k : Int) = x))) ((n + 63) / 64)) := by
  by_cases h : 0 ≤ x ∧ x < (n : Int)
  · obtain ⟨j, rfl⟩ : ∃ j : Nat, x = (j : Int) := ⟨x.toNat, by omega⟩
    have hj : j / 64 < (n + 63) / 64 := by omega
    rw [decide_eq_true h.1, decide_eq_true h.2, Bool.true_and, if_pos rfl, tdiv64, tmod64, w64 (by omega) (by omega), if_pos ⟨by omega, by rw [words_len]; omega⟩, if_pos (by omega), if_pos ⟨by omega, by rw [words_len]; omega⟩, words_ix hj, Int.toNat_natCast]
    unfold wordAt
    rw [hop _ _ (by omega)]
    refine congrArg some (words_set hj _ ?_ ?_)
    rotate_left
    · intro i hi
      have : ¬ ((i : Int) = (j : Int)) := by omega
      simp [this, hg]
    · unfold wordAt
      refine wdN_congr fun k hk => ?_
      congr 1
      by_cases e : k = j % 64
      · have e1 : 64 * (j / 64) + k = j := by omega
        have e2 : j < n := by omega
        rw [e1, decide_eq_true e2, decide_eq_true e, decide_eq_true (rfl : (j : Int) = (j : Int))]
        rfl
      · have e1 : ¬ ((64 * (j / 64) + k : Nat) : Int) = (j : Int) := by omega
        simp only [e, e1, decide_false, Bool.and_false]
  · have hb : (decide (0 ≤ x) && decide (x < (n : Int))) = false := by
      by_cases h0 : 0 ≤ x
      · rw [decide_eq_false (fun q => h ⟨h0, q⟩), Bool.and_false]
      · rw [decide_eq_false h0, Bool.false_and]
    rw [hb, if_neg (by decide)]
    refine congrArg some (words_congr fun k _ => ?_)
    have : (decide (k < n) && decide ((k : Int) = x)) = false := by
      by_cases e : (k : Int) = x
      · have : ¬ k < n := by omega
        simp [this]
      · simp [e]
    rw [this, hg]
theorem add_eq {fu n : Nat} {f : Nat → Bool} {l : List Int} (hn : n ≤ 100000) (hl : l.length ≤ 100000) (hf : l.length < fu) : bits_Set_Add.f fu (setOf n f) l = some (setOf n (addF n f l)) := by
  unfold bits_Set_Add.f
  have : loopM (bits_Set_Add.s0 fu (setOf n f) l) fu (0, (setOf n f).words) = some (wordsOf (addF n f l) ((n + 63) / 64)) := by
    refine loopM_run (S := fun j => ((j : Int), wordsOf (addF n f (l.take j)) ((n + 63) / 64))) l.length ?_ ?_ ?_ hf
    · simp only [show wordsOf (addF n f (l.take 0)) ((n + 63) / 64) = wordsOf f ((n + 63) / 64) from words_congr fun k _ => by simp [addF]]
      rfl
    · intro j hj
      unfold bits_Set_Add.s0
      have c1 : 0 ≤ (j : Int) ∧ (j : Int) < (l.length : Int) := by omega
      simp only
      rw [decide_eq_true c1.2, if_pos rfl, if_pos c1, ix_nat hj, may_b, next64 hj (by omega)]
      simp only [Option.bind_some]
      rw [show (setOf n f).size = (n : Int) from rfl, one_eq (fu := fu) hn (bOr .u64) (fun a b => a || b) (fun g r hr => or_wd hr) (by simp)]
      simp only [Option.bind_some]
      rw [words_congr fun k _ => show _ = addF n f (l.take (j + 1)) k from ?_]
      simp only [addF, take_next hj, List.mem_append, List.mem_singleton]
      cases f k <;> cases decide (k < n) <;> simp
    · unfold bits_Set_Add.s0
      rw [decide_eq_false (show ¬ ((l.length : Int) < (l.length : Int)) by omega), if_neg (by decide), List.take_length]
  rw [this]
  rfl
theorem dropp_eq {fu n : Nat} {f : Nat → Bool} {l : List Int} (hn : n ≤ 100000) (hl : l.length ≤ 100000) (hf : l.length < fu) (hlow : Low n f) : bits_Set_Drop.f fu (setOf n f) l = some (setOf n (dropF f l)) := by
  unfold bits_Set_Drop.f
  have : loopM (bits_Set_Drop.s0 fu (setOf n f) l) fu (0, (setOf n f).words) = some (wordsOf (dropF f l) ((n + 63) / 64)) := by
    refine loopM_run (S := fun j => ((j : Int), wordsOf (dropF f (l.take j)) ((n + 63) / 64))) l.length ?_ ?_ ?_ hf
    · simp only [show wordsOf (dropF f (l.take 0)) ((n + 63) / 64) = wordsOf f ((n + 63) / 64) from words_congr fun k _ => by simp [dropF]]
      rfl
    · intro j hj
      unfold bits_Set_Drop.s0
      have c1 : 0 ≤ (j : Int) ∧ (j : Int) < (l.length : Int) := by omega
      simp only
      rw [decide_eq_true c1.2, if_pos rfl, if_pos c1, ix_nat hj, may_b, next64 hj (by omega)]
      simp only [Option.bind_some]
      rw [show (setOf n f).size = (n : Int) from rfl, one_eq (fu := fu) hn (bNot .u64) (fun a b => a && !b) (fun g r hr => not_wd hr) (by simp)]
      simp only [Option.bind_some]
      rw [words_congr fun k _ => show _ = dropF f (l.take (j + 1)) k from ?_]
      simp only [dropF, take_next hj, List.mem_append, List.mem_singleton]
      by_cases hk : k < n
      · cases f k <;> simp [hk]
      · have : f k = false := by
          cases e : f k
          · rfl
          · exact absurd (hlow k e) hk
        simp [this]
    · unfold bits_Set_Drop.s0
      rw [decide_eq_false (show ¬ ((l.length : Int) < (l.length : Int)) by omega), if_neg (by decide), List.take_length]
  rw [this]
  rfl
theorem cnt_low {f : Nat → Bool} {n m : Nat} (h : Low n f) (hm : n ≤ m) : cnt f m = cnt f n := by
  obtain ⟨k, rfl⟩ : ∃ k, m = n + k := ⟨m - n, by omega⟩
  rw [cnt_add]
  have : cnt (fun k => f (n + k)) k = 0 := by
    unfold cnt
    rw [List.length_eq_zero_iff, List.filter_eq_nil_iff]
    intro i _ hi
    have := h _ hi
    omega
  omega
theorem count_eq {fu n : Nat} {f : Nat → Bool} (hn : n ≤ 100000) (hf : n < fu) (hlow : Low n f) : bits_Set_Count.f fu (setOf n f) = some ((cnt f n : Nat) : Int) := by
  unfold bits_Set_Count.f
  have hle : ∀ j, cnt f (64 * j) ≤ 64 * j := fun j => by
    unfold cnt
    exact Nat.le_trans (List.length_filter_le _ _) (by simp)
  have : loopM (bits_Set_Count.s0 fu (setOf n f)) fu (0, 0) = some ((cnt f (64 * ((n + 63) / 64)) : Nat) : Int) := by
    refine loopM_run (S := fun j => (((cnt f (64 * j) : Nat) : Int), (j : Int))) ((n + 63) / 64) (by simp [cnt]) ?_ ?_ (by omega)
    · intro j hj
      unfold bits_Set_Count.s0
      have hw : (setOf n f).words = wordsOf f ((n + 63) / 64) := rfl
      have c1 : 0 ≤ (j : Int) ∧ (j : Int) < ((wordsOf f ((n + 63) / 64)).length : Int) := by rw [words_len]; omega
      simp only [hw]
      rw [decide_eq_true c1.2, if_pos rfl, if_pos c1, words_ix hj, show bits_OnesCount64.f fu ((wordAt f j : Nat) : Int) = _ from ones_eq (wdN_lt _ 64), next64 hj (by omega)]
      simp only [Option.bind_some]
      have hc : cnt (fun k => (wordAt f j).testBit k) 64 = cnt (fun k => f (64 * j + k)) 64 := by
        refine cnt_congr fun k hk => ?_
        unfold wordAt
        rw [wdN_bit]
        simp [hk]
      have h1 := hle j
      have h2 := hle (j + 1)
      rw [hc, ← Int.natCast_add, ← cnt_add, show 64 * j + 64 = 64 * (j + 1) by omega, w64 (by omega) (by omega)]
    · unfold bits_Set_Count.s0
      have hw : (setOf n f).words = wordsOf f ((n + 63) / 64) := rfl
      simp only [hw]
      rw [words_len, decide_eq_false (by omega), if_neg (by decide)]
  rw [this, cnt_low hlow (by omega)]
  rfl
theorem filter_first {p q : Nat → Bool} {k n : Nat} (hk : k < n) (h1 : ∀ j, j < k → p j = false) (h2 : p k = true) (h3 : ∀ j, k < j → p j = q j) (h4 : ∀ j, j ≤ k → q j = false) : (List.range n).filter p = k :: (List.range n).filter q := by
  obtain ⟨m, rfl⟩ : ∃ m, n = k + 1 + m := ⟨n - (k + 1), by omega⟩
  have e1 : (List.range k).filter p = [] := by
    rw [List.filter_eq_nil_iff]
    intro j hj
    rw [h1 j (List.mem_range.1 hj)]
    decide
  have e2 : (List.range (k + 1)).filter q = [] := by
    rw [List.filter_eq_nil_iff]
    intro j hj
    rw [h4 j (by have := List.mem_range.1 hj; omega)]
    decide
  rw [List.range_add, List.filter_append, List.filter_append, e2, List.range_succ, List.filter_append, e1]
  simp only [List.filter_cons, h2, if_true, List.filter_nil, List.nil_append, List.cons_append, List.cons.injEq, true_and]
  apply List.filter_congr
  intro j hj
  obtain ⟨i, _, rfl⟩ := List.mem_map.1 hj
  exact h3 _ (by omega)
theorem low_bits {k q : Nat} (h : 2 ^ k * (2 * q + 1) < 2 ^ 64) : (List.range 64).filter (fun r => (2 ^ k * (2 * q + 1)).testBit r) = k :: (List.range 64).filter (fun r => (2 ^ k * (2 * q)).testBit r) := by
  refine filter_first (low_neg h).1 (fun j hj => ?_) ?_ (fun j hj => ?_) (fun j hj => ?_)
  · rw [tb0, if_pos hj]
  · rw [tb0, if_neg (by omega), Nat.sub_self, Nat.testBit_zero]
    simp
  · rw [tb0, tb0, if_neg (by omega), if_neg (by omega)]
    obtain ⟨m, hm⟩ : ∃ m, j - k = m + 1 := ⟨j - k - 1, by omega⟩
    rw [hm, Nat.testBit_succ, Nat.testBit_succ, show (2 * q + 1) / 2 = q by omega, show 2 * q / 2 = q by omega]
  · rw [tb0]
    split
    · rfl
    · rw [show j - k = 0 by omega, Nat.testBit_zero]
      simp
theorem list_in {fu i : Nat} {s : List Int × Int} (hs : s.2 = (i : Int)) (hi : i ≤ 100000) : ∀ (c x k : Nat) (acc : List Int), x < 2 ^ 64 → ((List.range 64).filter fun r => x.testBit r).length = c → c < k → acc.length + c ≤ 1000000 →
    loopM (bits_Set_List.s1 fu s) k (acc, (x : Int)) = some (acc ++ ((List.range 64).filter fun r => x.testBit r).map fun r => ((64 * i + r : Nat) : Int))
  | c, x, 0, acc, hx, hc, hk, ha => by omega
  | c, x, k + 1, acc, hx, hc, hk, ha => by
    unfold loopM
    by_cases e : x = 0
    · subst e
      have : bits_Set_List.s1 fu s (acc, ((0 : Nat) : Int)) = some (.inl acc) := by
        unfold bits_Set_List.s1
        rfl
      rw [this]
      simp
    · obtain ⟨t, q, hx'⟩ := low_split e
      rw [hx'] at hx hc ⊢
      have hl := low_bits hx
      have ht := (low_neg hx).1
      have h0 : ¬ ((2 ^ t * (2 * q + 1) : Nat) : Int) = 0 := by
        intro z
        rw [← hx'] at z
        omega
      have hpos : 0 < 2 ^ t * (2 * q + 1) := by omega
      have hlt : 2 ^ t * (2 * q) < 2 ^ 64 := Nat.lt_of_le_of_lt (Nat.mul_le_mul_left _ (by omega)) hx
      have hw : IntKind.u64.wrap (((2 ^ t * (2 * q + 1) : Nat) : Int) - 1) = ((2 ^ t * (2 * q + 1) - 1 : Nat) : Int) := by
        have : ((2 ^ t * (2 * q + 1) : Nat) : Int) - 1 = ((2 ^ t * (2 * q + 1) - 1 : Nat) : Int) := by omega
        rw [this]
        exact wrap_nat (by omega)
      have hst : bits_Set_List.s1 fu s (acc, ((2 ^ t * (2 * q + 1) : Nat) : Int)) = some (.inr (acc ++ [((64 * i + t : Nat) : Int)], ((2 ^ t * (2 * q) : Nat) : Int))) := by
        unfold bits_Set_List.s1
        simp only
        rw [decide_eq_false h0, Bool.not_false, if_pos rfl, tz_eq hx]
        simp only [Option.bind_some]
        rw [hs, w64 (n := (i : Int) * 64) (by omega) (by omega), w64 (by omega) (by omega), hw, and64 hx (by omega), low_and, show (i : Int) * 64 + (t : Int) = ((64 * i + t : Nat) : Int) by omega]
        rw [if_pos (Nat.le_trans (by simp only [List.length_cons, List.length_nil]; omega : _ ≤ 1000001) (by decide))]
      rw [hst, hl]
      rw [hl, List.length_cons] at hc
      have ih := list_in (fu := fu) hs hi (c - 1) (2 ^ t * (2 * q)) k (acc ++ [((64 * i + t : Nat) : Int)]) hlt (by omega) (by omega) (by simp only [List.length_append, List.length_cons, List.length_nil]; omega)
      simp only
      rw [ih]
      simp
theorem els_add (f : Nat → Bool) (m n : Nat) : els (m + n) f = els m f ++ ((List.range n).filter fun k => f (m + k)).map fun k => ((m + k : Nat) : Int) := by
  unfold els
  rw [List.range_add, List.filter_append, List.map_append, List.filter_map, List.map_map]
  rfl
theorem els_len (n : Nat) (f : Nat → Bool) : (els n f).length = cnt f n := by simp [els, cnt]
theorem els_low {f : Nat → Bool} {n m : Nat} (h : Low n f) (hm : n ≤ m) : els m f = els n f := by
  obtain ⟨k, rfl⟩ : ∃ k, m = n + k := ⟨m - n, by omega⟩
  rw [els_add]
  have : (List.range k).filter (fun k => f (n + k)) = [] := by
    rw [List.filter_eq_nil_iff]
    intro i _ hi
    have := h _ hi
    omega
  rw [this]
  simp
theorem cnt_le (f : Nat → Bool) (n : Nat) : cnt f n ≤ n := by
  unfold cnt
  exact Nat.le_trans (List.length_filter_le _ _) (by simp)
theorem list_eq {fu n : Nat} {f : Nat → Bool} (hn : n ≤ 100000) (hf : n + 64 < fu) (hlow : Low n f) : bits_Set_List.f fu (setOf n f) = some (els n f) := by
  unfold bits_Set_List.f
  have : loopM (bits_Set_List.s0 fu (setOf n f)) fu ([], 0) = some (els (64 * ((n + 63) / 64)) f) := by
    refine loopM_run (S := fun j => (els (64 * j) f, (j : Int))) ((n + 63) / 64) (by simp [els]) ?_ ?_ (by omega)
    · intro j hj
      unfold bits_Set_List.s0
      have hw : (setOf n f).words = wordsOf f ((n + 63) / 64) := rfl
      have c1 : 0 ≤ (j : Int) ∧ (j : Int) < ((wordsOf f ((n + 63) / 64)).length : Int) := by rw [words_len]; omega
      simp only [hw]
      have hb : ((List.range 64).filter fun r => (wordAt f j).testBit r) = (List.range 64).filter fun r => f (64 * j + r) := by
        apply List.filter_congr
        intro r hr
        unfold wordAt
        rw [wdN_bit]
        simp [List.mem_range.1 hr]
      have hle : ((List.range 64).filter fun r => (wordAt f j).testBit r).length ≤ 64 := Nat.le_trans (List.length_filter_le _ _) (by simp)
      have hel : (els (64 * j) f).length ≤ 64 * j := by rw [els_len]; exact cnt_le _ _
      rw [decide_eq_true c1.2, if_pos rfl, if_pos c1, words_ix hj, list_in (fu := fu) (i := j) (s := (els (64 * j) f, (j : Int))) rfl (by omega) _ (wordAt f j) fu (els (64 * j) f) (wdN_lt _ 64) rfl (by omega) (by omega), next64 hj (by omega)]
      simp only [Option.bind_some]
      rw [hb, ← els_add, show 64 * j + 64 = 64 * (j + 1) by omega]
    · unfold bits_Set_List.s0
      have hw : (setOf n f).words = wordsOf f ((n + 63) / 64) := rfl
      simp only [hw]
      rw [words_len, decide_eq_false (by omega), if_neg (by decide)]
  rw [this, els_low hlow (by omega)]
  rfl
theorem mem_els {n k : Nat} {f : Nat → Bool} : (k : Int) ∈ els n f ↔ k < n ∧ f k = true := by
  unfold els
  rw [List.mem_map]
  constructor
  · rintro ⟨i, hi, e⟩
    have : i = k := by omega
    subst this
    obtain ⟨h1, h2⟩ := List.mem_filter.1 hi
    exact ⟨List.mem_range.1 h1, h2⟩
  · rintro ⟨h1, h2⟩
    exact ⟨k, List.mem_filter.2 ⟨List.mem_range.2 h1, h2⟩, rfl⟩
theorem clone_eq {fu n : Nat} {f : Nat → Bool} (hn : n ≤ 100000) : bits_Set_clone.f fu (setOf n f) = some (setOf n f) := by
  unfold bits_Set_clone.f slices_Clone.f
  rw [show (setOf n f).words = wordsOf f ((n + 63) / 64) from rfl, words_len, if_pos (Nat.le_trans (by omega : _ ≤ 1000000) (by decide))]
  rfl
theorem with_eq {fu n : Nat} {f g : Nat → Bool} (hn : n ≤ 90000) (hf : n + 64 < fu) (hg : Low n g) : bits_Set_With.f fu (setOf n f) (setOf n g) = some (setOf n fun k => f k || g k) := by
  unfold bits_Set_With.f
  have hl := cnt_le g n
  rw [clone_eq (by omega), list_eq (by omega) hf hg]
  simp only [Option.bind_some]
  rw [add_eq (by omega) (by rw [els_len]; omega) (by rw [els_len]; omega)]
  refine congrArg some (set_congr fun k => ?_)
  unfold addF
  congr 1
  rw [Bool.eq_iff_iff]
  simp only [Bool.and_eq_true, decide_eq_true_eq, mem_els]
  exact ⟨fun h => h.2.2, fun h => ⟨hg k h, hg k h, h⟩⟩
theorem with1_eq {fu n : Nat} {f : Nat → Bool} (hn : n ≤ 90000) (hf : n + 64 < fu) (hg : Low n f) : bits_Set_With_a1.f fu (setOf n f) = some (setOf n f) := by
  have h := with_eq (fu := fu) (f := f) hn hf hg
  unfold bits_Set_With.f at h
  unfold bits_Set_With_a1.f
  rw [h]
  refine congrArg some (set_congr fun k => ?_)
  simp
theorem gap_eq {fu n k : Nat} {f : Nat → Bool} (hn : n ≤ 100000) (hf : n < fu) (hk : k < n) (h0 : f k = false) (h1 : ∀ i, i < k → f i = true) : bits_Set_Gap.f fu (setOf n f) 0 = some (k : Int) := by
  unfold bits_Set_Gap.f
  have : loopM (bits_Set_Gap.s0 fu (setOf n f)) fu (mxI 0 0) = some (.inl (k : Int)) := by
    refine loopM_run (S := fun j => ((j : Nat) : Int)) k (by rfl) ?_ ?_ (by omega)
    · intro j hj
      unfold bits_Set_Gap.s0
      rw [show (setOf n f).size = (n : Int) from rfl, decide_eq_true (by omega), if_pos rfl, has_eq hn, next64 (n := n) (by omega) hn]
      have : hasI n f (j : Int) = true := by
        unfold hasI
        rw [decide_eq_true (by omega), decide_eq_true (by omega), Int.toNat_natCast, h1 j hj]
        rfl
      simp [this]
    · unfold bits_Set_Gap.s0
      rw [show (setOf n f).size = (n : Int) from rfl, decide_eq_true (by omega), if_pos rfl, has_eq hn]
      have : hasI n f (k : Int) = false := by
        unfold hasI
        rw [Int.toNat_natCast, h0]
        simp
      simp [this]
  rw [this]
  rfl
theorem of_eq {fu n : Nat} {l : List Int} (hn : n ≤ 3072) (hl : l.length ≤ 100000) (hf : l.length < fu) : bits_Of.f fu (n : Int) l = some (setOf n (addF n (fun _ => false) l)) := by
  unfold bits_Of.f
  have e1 : mnI (mxI (n : Int) 0) 3072 = (n : Int) := by
    unfold mxI mnI
    rw [if_neg (by omega)]
    split <;> omega
  have e2 : IntKind.i64.wrap (Int.tdiv (IntKind.i64.wrap ((IntKind.i64.wrap ((n : Int) + 64)) - 1)) 64) = (((n + 63) / 64 : Nat) : Int) := by
    rw [w64 (n := (n : Int) + 64) (by omega) (by omega), w64 (n := (n : Int) + 64 - 1) (by omega) (by omega), show (n : Int) + 64 - 1 = ((n + 63 : Nat) : Int) by omega, tdiv64, w64 (by omega) (by omega)]
  rw [e1, e2, if_pos ⟨by omega, Nat.le_trans (by omega : _ ≤ 100000) (by decide)⟩, Int.toNat_natCast]
  have e3 : (⟨(n : Int), List.replicate ((n + 63) / 64) (0 : Int)⟩ : S_bits_Set) = setOf n fun _ => false := by
    unfold setOf
    congr 1
    apply List.ext_getElem (by simp [wordsOf])
    intro i h1 h2
    have : wordAt (fun _ => false) i = 0 := by
      apply Nat.eq_of_testBit_eq
      intro k
      unfold wordAt
      rw [wdN_bit]
      simp
    simp [wordsOf, this]
  rw [e3, add_eq (by omega) hl hf]
  rfl
structure AA where
  r : Int
  c : Nat → Bool
  e : Nat → Bool
  m : Nat → Bool
  w : Nat → Bool
noncomputable def AA.of (n : Nat) (a : AA) : S_alloc_Alloc := ⟨a.r, (setOf n a.c, setOf n a.e, setOf n a.m, setOf n a.w)⟩
structure AOk (n : Nat) (a : AA) : Prop where
  c : Low n a.c
  e : Low n a.e
  m : Low n a.m
  w : Low n a.w
  r : 0 ≤ a.r ∧ a.r ≤ 1000
def AA.held (a : AA) : Nat → Bool := fun k => ((a.w k || a.c k) || a.e k) || a.m k
def AA.free (n : Nat) (a : AA) : List Nat := (List.range n).filter fun k => !a.held k
def AA.least (n : Nat) (a : AA) : Nat := (a.free n).headD 0
def AA.setW (a : AA) (w : Nat → Bool) : AA := ⟨a.r, a.c, a.e, a.m, w⟩
def AA.put (n : Nat) (a : AA) (k : Nat) : AA := a.setW (addF n a.w [(k : Int)])
def AA.cut (a : AA) (k : Int) : AA := a.setW (dropF a.w [k])
def AA.mark (a : AA) : AA := ⟨a.r, a.c, a.e, a.w, a.w⟩
def AA.give (n : Nat) (a : AA) (k : Int) : Int × AA := if hasI n a.w k = true then (0, a.cut k) else (2, a)
def AA.own (n : Nat) (a : AA) (k : Int) : Bool := hasI n a.w k && !hasI n a.m k
def AA.take (n : Nat) (a : AA) : Int × Int × AA := if ((a.free n).length : Int) ≤ a.r then (0, 10, a) else ((a.least n : Int), 0, a.put n (a.least n))
theorem copied_eq {fu n : Nat} {f : Nat → Bool} (hn : n ≤ 90000) (hf : n + 64 < fu) (h : Low n f) : alloc_copied.f fu (setOf n f) = some (setOf n f) := by
  unfold alloc_copied.f
  rw [with1_eq hn hf h]
  rfl
theorem Low.or {n : Nat} {f g : Nat → Bool} (hf : Low n f) (hg : Low n g) : Low n (fun k => f k || g k) := by
  intro k h
  rcases Bool.or_eq_true_iff.1 h with h | h
  · exact hf k h
  · exact hg k h
theorem addF_low {n : Nat} {f : Nat → Bool} {l : List Int} (h : Low n f) : Low n (addF n f l) := by
  intro k hk
  unfold addF at hk
  rcases Bool.or_eq_true_iff.1 hk with h' | h'
  · exact h k h'
  · exact of_decide_eq_true (Bool.and_eq_true_iff.1 h').1
theorem dropF_low {n : Nat} {f : Nat → Bool} {l : List Int} (h : Low n f) : Low n (dropF f l) := fun k hk => h k (Bool.and_eq_true_iff.1 hk).1
theorem held_low {n : Nat} {a : AA} (h : AOk n a) : Low n a.held := ((h.w.or h.c).or h.e).or h.m
theorem held_eq {fu n : Nat} {a : AA} (hn : n ≤ 90000) (hf : n + 64 < fu) (h : AOk n a) : alloc_Alloc_held.f fu (a.of n) = some (setOf n a.held) := by
  unfold alloc_Alloc_held.f AA.of
  simp only
  rw [copied_eq hn hf h.w]
  simp only [Option.bind_some]
  rw [with_eq hn hf h.c]
  simp only [Option.bind_some]
  rw [with_eq hn hf h.e]
  simp only [Option.bind_some]
  rw [with_eq hn hf h.m]
  rfl
theorem cnt_not (f : Nat → Bool) : ∀ n, cnt f n + ((List.range n).filter fun k => !f k).length = n
  | 0 => rfl
  | n + 1 => by
    have := cnt_not f n
    unfold cnt at *
    rw [List.range_succ, List.filter_append, List.filter_append, List.length_append, List.length_append]
    cases h : f n <;> simp [h] <;> omega
theorem free_len (n : Nat) (a : AA) : ((a.free n).length : Int) = (n : Int) - ((cnt a.held n : Nat) : Int) := by
  have := cnt_not a.held n
  unfold AA.free
  omega
theorem filter_head {p : Nat → Bool} : ∀ {n : Nat}, ((List.range n).filter p).length ≠ 0 → ((List.range n).filter p).headD 0 < n ∧ p (((List.range n).filter p).headD 0) = true ∧ ∀ i, i < ((List.range n).filter p).headD 0 → p i = false
  | 0, h => absurd rfl h
  | n + 1, h => by
    rw [List.range_succ, List.filter_append] at h ⊢
    cases e : (List.range n).filter p with
    | nil =>
      rw [e] at h
      have hn : ∀ i, i < n → p i = false := by
        intro i hi
        have := List.filter_eq_nil_iff.1 e i (List.mem_range.2 hi)
        simpa using this
      cases hp : p n
      · simp [hp] at h
      · have e2 : [n].filter p = [n] := by simp [hp]
        rw [e2]
        exact ⟨by simp, hp, hn⟩
    | cons x l =>
      have := filter_head (p := p) (n := n) (by rw [e]; simp)
      rw [e] at this
      simp only [List.headD_cons, List.cons_append] at this ⊢
      exact ⟨by omega, this.2⟩
theorem least_ok {n : Nat} {a : AA} (h : (a.free n).length ≠ 0) : a.least n < n ∧ a.held (a.least n) = false ∧ ∀ i, i < a.least n → a.held i = true := by
  have := filter_head (p := fun k => !a.held k) (n := n) h
  simpa [AA.least, AA.free] using this
theorem take_eq {fu n : Nat} {a : AA} (hn : n ≤ 90000) (hf : n + 64 < fu) (h : AOk n a) : alloc_Alloc_Take.f fu (a.of n) = some ((a.take n).1, (a.take n).2.1, (a.take n).2.2.of n) := by
  have hr := h.r
  have hc := cnt_le a.held n
  have hfl := free_len n a
  unfold alloc_Alloc_Take.f alloc_Alloc_take.f
  rw [held_eq hn hf h]
  simp only [Option.bind_some, bits_Set_Size.f]
  rw [count_eq (by omega) (by omega) (held_low h)]
  simp only [Option.bind_some]
  rw [show (setOf n a.held).size = (n : Int) from rfl, w64 (by omega) (by omega), ← hfl, show (a.of n).reserve = a.r from rfl]
  unfold AA.take
  by_cases e : ((a.free n).length : Int) ≤ a.r
  · rw [decide_eq_true e, if_pos rfl, if_pos e]
    rfl
  · rw [decide_eq_false e, if_neg (by decide), if_neg e]
    obtain ⟨h1, h2, h3⟩ := least_ok (n := n) (a := a) (by omega)
    rw [gap_eq (by omega) (by omega) h1 h2 h3]
    simp only [Option.bind_some]
    rw [show (a.of n).sets.2.2.2 = setOf n a.w from rfl, add_eq (by omega) (by simp) (by simp; omega)]
    rfl
theorem give_eq {fu n : Nat} {a : AA} {k : Int} (hn : n ≤ 90000) (hf : n + 64 < fu) (h : AOk n a) : alloc_Alloc_Give.f fu (a.of n) k = some ((a.give n k).1, (a.give n k).2.of n) := by
  unfold alloc_Alloc_Give.f AA.give
  rw [show (a.of n).sets.2.2.2 = setOf n a.w from rfl, has_eq (by omega)]
  simp only [Option.bind_some]
  cases hasI n a.w k
  · rfl
  · rw [if_neg (by decide), if_pos rfl, dropp_eq (by omega) (by simp) (by simp; omega) h.w]
    rfl
theorem own_eq {fu n : Nat} {a : AA} {k : Int} (hn : n ≤ 90000) : alloc_Alloc_Own.f fu (a.of n) k = some (a.own n k) := by
  unfold alloc_Alloc_Own.f AA.own
  rw [show (a.of n).sets.2.2.2 = setOf n a.w from rfl, show (a.of n).sets.2.2.1 = setOf n a.m from rfl, has_eq (by omega)]
  simp only [Option.bind_some]
  cases hasI n a.w k
  · rfl
  · rw [if_pos rfl, has_eq (by omega)]
    rfl
theorem mark_eq {fu n : Nat} {a : AA} (hn : n ≤ 90000) (hf : n + 64 < fu) (h : AOk n a) : alloc_Alloc_Mark.f fu (a.of n) = some (a.mark.of n) := by
  unfold alloc_Alloc_Mark.f alloc_Alloc_become_c2_c3.f
  rw [show (a.of n).sets.2.2.2 = setOf n a.w from rfl, copied_eq hn hf h.w]
  rfl
theorem works_eq {fu n : Nat} {a : AA} (hn : n ≤ 90000) (hf : n + 64 < fu) (h : AOk n a) : alloc_Alloc_Works.f fu (a.of n) = some (setOf n a.w) := by
  unfold alloc_Alloc_Works.f
  rw [show (a.of n).sets.2.2.2 = setOf n a.w from rfl, copied_eq hn hf h.w]
  rfl
theorem anew_eq {fu n : Nat} {f g : Nat → Bool} {r : Int} (hn : n ≤ 90000) (hf : n + 64 < fu) (h1 : Low n f) (h2 : Low n g) (hr : 0 ≤ r) : alloc_New.f fu (setOf n f) (setOf n g) r = some (some ((⟨r, f, g, f, f⟩ : AA).of n), 0) := by
  unfold alloc_New.f bits_Set_Size.f
  simp only [Option.bind_some]
  rw [show (setOf n f).size = (n : Int) from rfl, show (setOf n g).size = (n : Int) from rfl, decide_eq_true (rfl : (n : Int) = (n : Int)), if_neg (by decide), decide_eq_false (show ¬ r < 0 by omega), if_neg (by decide), copied_eq hn hf h2, copied_eq hn hf h1]
  rfl
theorem take_ok {n : Nat} {a : AA} (h : AOk n a) : AOk n (a.take n).2.2 := by
  unfold AA.take
  split
  · exact h
  · exact ⟨h.c, h.e, h.m, addF_low h.w, h.r⟩
theorem give_ok {n : Nat} {a : AA} {k : Int} (h : AOk n a) : AOk n (a.give n k).2 := by
  unfold AA.give
  split
  · exact ⟨h.c, h.e, h.m, dropF_low h.w, h.r⟩
  · exact h
theorem mark_ok {n : Nat} {a : AA} (h : AOk n a) : AOk n a.mark := ⟨h.c, h.e, h.w, h.w, h.r⟩
end Go.Proofs.YtdifnahlheogdaaGreatDoor.Pure
namespace Go.Proofs.YtdifnahlheogdaaGreatDoor
open Go Go.Xw Go.Yw
end Go.Proofs.YtdifnahlheogdaaGreatDoor
namespace Go.Proofs.YtdifnahlheogdaaGreatDoor.Pure
open Go Go.Xw Go.Yw
def upd {α : Type} (g : Nat → α → α) (lo j : Nat) (cs : List α) : List α := cs.mapIdx fun i c => if lo ≤ i ∧ i < lo + j then g i c else c
theorem upd_len {α : Type} (g : Nat → α → α) (lo j : Nat) (cs : List α) : (upd g lo j cs).length = cs.length := by simp [upd]
theorem upd_zero {α : Type} (g : Nat → α → α) (lo : Nat) (cs : List α) : upd g lo 0 cs = cs := by
  apply List.ext_getElem (by simp [upd])
  intro i h1 h2
  simp only [upd, List.getElem_mapIdx]
  rw [if_neg (by omega)]
theorem upd_get {α : Type} (g : Nat → α → α) (lo j : Nat) (cs : List α) (i : Nat) (h : i < (upd g lo j cs).length) : (upd g lo j cs)[i] = if lo ≤ i ∧ i < lo + j then g i (cs[i]'(by simpa [upd] using h)) else cs[i]'(by simpa [upd] using h) := by
  simp only [upd, List.getElem_mapIdx]
theorem upd_next {α : Type} (g : Nat → α → α) (lo j : Nat) (cs : List α) (h : lo + j < cs.length) : (upd g lo j cs)[lo + j]'(by rw [upd_len]; exact h) = cs[lo + j] := by
  rw [upd_get, if_neg (by omega)]
theorem upd_set {α : Type} (g : Nat → α → α) (lo j : Nat) (cs : List α) (h : lo + j < cs.length) : (upd g lo j cs).set (lo + j) (g (lo + j) cs[lo + j]) = upd g lo (j + 1) cs := by
  apply List.ext_getElem (by simp [upd])
  intro i h1 h2
  rw [List.getElem_set, upd_get g lo (j + 1)]
  by_cases e : lo + j = i
  · subst e
    rw [if_pos rfl, if_pos (by omega)]
  · rw [if_neg e, upd_get]
    by_cases c : lo ≤ i ∧ i < lo + j
    · rw [if_pos c, if_pos (by omega)]
    · rw [if_neg c, if_neg (by omega)]
theorem upd_same {α : Type} (g : Nat → α → α) (lo j : Nat) (cs : List α) (h : lo + j < cs.length) (e : g (lo + j) cs[lo + j] = cs[lo + j]) : upd g lo j cs = upd g lo (j + 1) cs := by
  apply List.ext_getElem (by simp [upd])
  intro i h1 h2
  rw [upd_get g lo j, upd_get g lo (j + 1)]
  by_cases e' : lo + j = i
  · subst e'
    rw [if_neg (by omega), if_pos (by omega), e]
  · by_cases c : lo ≤ i ∧ i < lo + j
    · rw [if_pos c, if_pos (by omega)]
    · rw [if_neg c, if_neg (by omega)]
theorem getD_set {α : Type} (cs : List α) (i k : Nat) (v d : α) (hi : i < cs.length) : (cs.set i v).getD k d = if i = k then v else cs.getD k d := by
  simp only [List.getD_eq_getElem?_getD, List.getElem?_set]
  by_cases h : i = k
  · subst h
    simp [hi]
  · simp [h]
abbrev Cell := S_pmem_cell
abbrev Dev := S_pmem_Device
def keepC (c : Cell) (w : Int) : Cell := ⟨w, c.stored, 0, false⟩
def evict (p : Int) (cs : List Cell) : List Cell := cs.mapIdx fun i c => if 0 ≤ p ∧ (i : Int) = p % (cs.length : Int) then keepC c c.stored else c
def pick (p : S_pmem_plan) : Int := if p.list.length = 0 then -1 else ix p.list p.at_
def nextP (p : S_pmem_plan) : S_pmem_plan := if p.list.length = 0 then p else ⟨p.list, (p.at_ + 1) % (p.list.length : Int)⟩
def tick (d : Dev) : Dev := ⟨evict (pick d.plan) d.cells, nextP d.plan, if d.armed then decide (d.left - 1 = 0) else d.off, d.armed, if d.armed then d.left - 1 else d.left, d.steps + 1⟩
def mayI (off : Bool) (k n : Int) : Int := if off = true then 3 else if k < 0 ∨ k ≥ n then 2 else 0
def putC (k w : Int) (cs : List Cell) : List Cell := cs.mapIdx fun i c => if (i : Int) = k then ⟨c.lasts, w, c.sent, c.flushed⟩ else c
def sendC (c : Cell) : Cell := ⟨c.lasts, c.stored, c.stored, true⟩
def sendL (k : Int) (cs : List Cell) : List Cell := cs.mapIdx fun i c => if 8 * k ≤ (i : Int) ∧ (i : Int) < 8 * k + 8 then sendC c else c
def withC (d : Dev) (cs : List Cell) : Dev := ⟨cs, d.plan, d.off, d.armed, d.left, d.steps⟩
def storeD (d : Dev) (k w : Int) : Int × Dev := if mayI d.off k (d.cells.length : Int) = 0 then (0, tick (withC d (putC k w d.cells))) else (mayI d.off k (d.cells.length : Int), d)
def loadD (d : Dev) (k : Int) : Int × Int := if mayI d.off k (d.cells.length : Int) = 0 then ((ix d.cells k).stored, 0) else (0, mayI d.off k (d.cells.length : Int))
def flushD (d : Dev) (k : Int) : Int × Dev := if mayI d.off k ((d.cells.length / 8 : Nat) : Int) = 0 then (0, tick (withC d (sendL k d.cells))) else (mayI d.off k ((d.cells.length / 8 : Nat) : Int), d)
def U64 (x : Int) : Prop := 0 ≤ x ∧ x ≤ 18446744073709551615
def okC (c : Cell) : Prop := U64 c.lasts ∧ U64 c.stored ∧ U64 c.sent
structure DevOk (n : Nat) (B : Int) (d : Dev) : Prop where
  len : d.cells.length = n
  val : ∀ c ∈ d.cells, okC c
  at0 : d.plan.list.length ≠ 0 → 0 ≤ d.plan.at_ ∧ d.plan.at_ < (d.plan.list.length : Int)
  pl : d.plan.list.length ≤ 1000
  arm : d.armed = true → 0 ≤ d.left ∧ d.left ≤ 9223372036854775807 ∧ d.off = decide (d.left = 0)
  una : d.armed = false → d.off = false
  st : 0 ≤ d.steps ∧ d.steps ≤ B
theorem ix_set {α : Type} [Inhabited α] {l : List α} {k : Nat} {v : α} (h : k < l.length) : ix (l.set k v) (k : Int) = v := by
  rw [ix_nat (by simpa using h)]
  simp
theorem updR_nat {α : Type} [Inhabited α] {l : List α} {k : Nat} {f : α → α} : updR l (k : Int) f = l.set k (f (ix l (k : Int))) := by
  unfold updR
  rw [Int.toNat_natCast]
theorem keep_eq {fu k : Nat} {l : List Cell} {w : Int} (h : k < l.length) : pmem_cell_keep__i0.f fu l (k : Int) w = some (l.set k (keepC (ix l (k : Int)) w)) := by
  unfold pmem_cell_keep__i0.f
  simp only [updR_nat, List.set_set, ix_set h, keepC]
theorem pnext_eq {fu : Nat} {d : Dev} (h0 : d.plan.list.length ≠ 0 → 0 ≤ d.plan.at_ ∧ d.plan.at_ < (d.plan.list.length : Int)) (hl : d.plan.list.length ≤ 1000) : pmem_plan_next__i0_1.f fu d = some (pick d.plan, ⟨d.cells, nextP d.plan, d.off, d.armed, d.left, d.steps⟩) := by
  unfold pmem_plan_next__i0_1.f pick nextP
  by_cases e : d.plan.list.length = 0
  · have e' : (d.plan.list.length : Int) = 0 := by omega
    rw [decide_eq_true e', if_pos rfl, if_pos e, if_pos e]
  · have e' : ¬ (d.plan.list.length : Int) = 0 := by omega
    have h := h0 e
    rw [decide_eq_false e', if_neg (by decide), if_pos h, if_pos e', if_neg e, if_neg e, w64 (by omega) (by omega), Int.tmod_eq_emod_of_nonneg (by omega)]
theorem set_upd {cs : List Cell} {k : Nat} (g : Cell → Cell) (hk : k < cs.length) : cs.set k (g (ix cs (k : Int))) = cs.mapIdx fun i c => if i = k then g c else c := by
  rw [ix_nat hk]
  apply List.ext_getElem (by simp)
  intro i h1 h2
  rw [List.getElem_set, List.getElem_mapIdx]
  by_cases e : k = i
  · subst e
    simp
  · rw [if_neg e, if_neg (fun q => e q.symm)]
theorem evict_no {p : Int} (cs : List Cell) (h : ¬ 0 ≤ p) : evict p cs = cs := by
  apply List.ext_getElem (by simp [evict])
  intro i h1 h2
  simp only [evict, List.getElem_mapIdx]
  rw [if_neg fun q => h q.1]
theorem dstep_eq {fu n : Nat} {B : Int} {d : Dev} (h : DevOk n B d) (hB : B < 9223372036854775807) (ho : d.off = false) : pmem_Device_step.f fu d = some (tick d) := by
  unfold pmem_Device_step.f
  have hs := h.st
  have w1 : IntKind.i64.wrap (d.steps + 1) = d.steps + 1 := w64 (by omega) (by omega)
  rw [pnext_eq (d := ⟨d.cells, d.plan, d.off, d.armed, d.left, IntKind.i64.wrap (d.steps + 1)⟩) h.at0 h.pl, w1]
  simp only [Option.bind_some]
  have hc : ∀ q, q = pick d.plan → q ≥ 0 → ((if (decide ((List.length d.cells : Int) > 0)) = true then if (List.length d.cells : Int) ≠ 0 then if 0 ≤ (Int.tmod q (List.length d.cells : Int)) ∧ (Int.tmod q (List.length d.cells : Int)) < (List.length d.cells : Int) then ((pmem_cell_keep__i0.f fu d.cells (Int.tmod q (List.length d.cells : Int)) ((ix d.cells (Int.tmod q (List.length d.cells : Int))).stored) : Option (List S_pmem_cell)).bind fun t8 => some (t8)) else none else none else some (d.cells)) : Option (List S_pmem_cell)) = some (evict q d.cells) := by
    intro q _ hq
    by_cases hl : (List.length d.cells : Int) > 0
    · rw [decide_eq_true hl, Int.tmod_eq_emod_of_nonneg hq]
      have hm0 := Int.emod_nonneg q (show (List.length d.cells : Int) ≠ 0 by omega)
      have hm1 := Int.emod_lt_of_pos q hl
      have e1 : (List.length d.cells : Int) ≠ 0 := by omega
      obtain ⟨k, hk⟩ : ∃ k : Nat, q % (List.length d.cells : Int) = (k : Int) := ⟨(q % (List.length d.cells : Int)).toNat, by omega⟩
      have hkl : k < d.cells.length := by omega
      rw [if_pos rfl, if_pos e1, if_pos ⟨hm0, hm1⟩, hk, keep_eq hkl]
      simp only [Option.bind_some]
      refine congrArg some ((set_upd (fun c => keepC c c.stored) hkl).trans ?_)
      apply List.ext_getElem (by simp [evict])
      intro i h1 h2
      simp only [evict, List.getElem_mapIdx, hk]
      by_cases e : i = k
      · rw [if_pos e, if_pos ⟨hq, by omega⟩]
      · rw [if_neg e, if_neg fun z => e (by omega)]
    · have : d.cells = [] := List.length_eq_zero_iff.1 (by omega)
      rw [this]
      simp [evict]
  have hd : ∀ (r : List Cell), ((((if d.armed = true then some ((decide ((IntKind.i64.wrap (d.left - 1)) = 0)), (IntKind.i64.wrap (d.left - 1))) else some (d.off, d.left)) : Option (Bool × Int)).bind fun x45 => some ((⟨r, nextP d.plan, x45.1, d.armed, x45.2, (d.steps + 1)⟩ : S_pmem_Device))) : Option Dev) = some ⟨r, nextP d.plan, if d.armed then decide (d.left - 1 = 0) else d.off, d.armed, if d.armed then d.left - 1 else d.left, d.steps + 1⟩ := by
    intro r
    cases ha : d.armed
    · simp
    · have := h.arm ha
      rw [ho] at this
      have : d.left ≠ 0 := by
        intro e
        rw [e] at this
        exact absurd this.2.2 (by decide)
      rw [w64 (by omega) (by omega)]
      simp
  by_cases hq : pick d.plan ≥ 0
  · rw [decide_eq_true hq, if_pos rfl, hc _ rfl hq]
    simp only [Option.bind_some]
    exact hd _
  · rw [decide_eq_false hq, if_neg (by decide)]
    have := hd d.cells
    rw [this]
    unfold tick
    rw [evict_no _ hq]
theorem evict_len (p : Int) (cs : List Cell) : (evict p cs).length = cs.length := by simp [evict]
theorem keep_ok {c : Cell} {w : Int} (h : okC c) (hw : U64 w) : okC (keepC c w) := ⟨hw, h.2.1, by unfold U64; simp [keepC]⟩
theorem mapIdx_ok {cs : List Cell} {g : Nat → Cell → Cell} (h : ∀ c ∈ cs, okC c) (hg : ∀ i c, okC c → okC (g i c)) : ∀ c ∈ cs.mapIdx g, okC c := by
  intro c hc
  obtain ⟨i, hi, rfl⟩ := List.getElem_of_mem hc
  rw [List.getElem_mapIdx]
  exact hg _ _ (h _ (List.getElem_mem _))
theorem evict_ok {p : Int} {cs : List Cell} (h : ∀ c ∈ cs, okC c) : ∀ c ∈ evict p cs, okC c := by
  refine mapIdx_ok h fun i c hc => ?_
  split
  · exact keep_ok hc hc.2.1
  · exact hc
theorem tick_ok {n : Nat} {B : Int} {d : Dev} (h : DevOk n B d) (ho : d.off = false) : DevOk n (B + 1) (tick d) := by
  refine ⟨?_, ?_, ?_, ?_, ?_, ?_, ?_⟩
  · exact (evict_len _ _).trans h.len
  · exact evict_ok h.val
  · intro e
    by_cases z : d.plan.list.length = 0
    · exact absurd (by simp [tick, nextP, z]) e
    · have : (tick d).plan = ⟨d.plan.list, (d.plan.at_ + 1) % (d.plan.list.length : Int)⟩ := by simp [tick, nextP, z]
      rw [this]
      exact ⟨Int.emod_nonneg _ (by omega), Int.emod_lt_of_pos _ (by omega)⟩
  · by_cases z : d.plan.list.length = 0
    · simp [tick, nextP, z]
    · simp only [tick, nextP, z, if_false]
      exact h.pl
  · intro ha
    have ha' : d.armed = true := ha
    have := h.arm ha'
    have hl : d.left ≠ 0 := by
      intro e
      rw [e, ho] at this
      exact absurd this.2.2 (by decide)
    simp only [tick, ha', if_true]
    exact ⟨by omega, by omega, trivial⟩
  · intro ha
    have ha' : d.armed = false := ha
    simp only [tick, ha', Bool.false_eq_true, if_false]
    exact h.una ha'
  · have := h.st
    simp only [tick]
    omega
theorem DevOk.up {n : Nat} {B C : Int} {d : Dev} (h : DevOk n B d) (hc : B ≤ C) : DevOk n C d := ⟨h.len, h.val, h.at0, h.pl, h.arm, h.una, ⟨h.st.1, by have := h.st; omega⟩⟩
theorem with_ok {n : Nat} {B : Int} {d : Dev} (h : DevOk n B d) {cs : List Cell} (hl : cs.length = n) (hv : ∀ c ∈ cs, okC c) : DevOk n B (withC d cs) := ⟨hl, hv, h.at0, h.pl, h.arm, h.una, h.st⟩
theorem may_eq {fu : Nat} {d : Dev} {k m : Int} : pmem_Device_may.f fu d k m = some (mayI d.off k m) := by
  unfold pmem_Device_may.f mayI
  cases d.off
  · simp only [Bool.false_eq_true, if_false]
    by_cases h1 : k < 0
    · simp [h1]
    · by_cases h2 : k ≥ m <;> simp [h1, h2]
  · simp
theorem may_zero {b : Bool} {k m : Int} : mayI b k m = 0 ↔ b = false ∧ 0 ≤ k ∧ k < m := by
  unfold mayI
  cases b
  · simp only [Bool.false_eq_true, if_false]
    split <;> simp <;> omega
  · simp
theorem store_eq {fu n : Nat} {B k w : Int} {d : Dev} (h : DevOk n B d) (hB : B < 9223372036854775807) (hw : U64 w) : pmem_Device_Store.f fu d k w = some (storeD d k w) := by
  unfold pmem_Device_Store.f storeD
  rw [may_eq]
  simp only [Option.bind_some]
  by_cases e : mayI d.off k (d.cells.length : Int) = 0
  · obtain ⟨ho, h0, h1⟩ := may_zero.1 e
    rw [decide_eq_true e, if_pos e, if_neg (by decide), if_pos ⟨h0, h1⟩]
    obtain ⟨j, rfl⟩ : ∃ j : Nat, k = (j : Int) := ⟨k.toNat, by omega⟩
    have e1 : (updR d.cells (j : Int) fun c => (⟨c.lasts, w, c.sent, c.flushed⟩ : S_pmem_cell)) = putC (j : Int) w d.cells := by
      rw [updR_nat]
      refine (set_upd (fun c => ⟨c.lasts, w, c.sent, c.flushed⟩) (by omega)).trans ?_
      apply List.ext_getElem (by simp [putC])
      intro i h1 h2
      simp only [putC, List.getElem_mapIdx, Int.natCast_inj]
    have e2 : pmem_Device_step.f fu (⟨putC (j : Int) w d.cells, d.plan, d.off, d.armed, d.left, d.steps⟩ : S_pmem_Device) = some (tick (withC d (putC (j : Int) w d.cells))) := by
      refine dstep_eq (with_ok h (by simp [putC, h.len]) (mapIdx_ok h.val fun i c hc => ?_)) hB ho
      split
      · exact ⟨hc.1, hw, hc.2.2⟩
      · exact hc
    rw [e1, e2]
    rfl
  · rw [decide_eq_false e, if_neg e, if_pos (by decide)]
theorem load_eq {fu : Nat} {k : Int} {d : Dev} : pmem_Device_Load.f fu d k = some (loadD d k) := by
  unfold pmem_Device_Load.f loadD
  rw [may_eq]
  simp only [Option.bind_some]
  by_cases e : mayI d.off k (d.cells.length : Int) = 0
  · obtain ⟨ho, h0, h1⟩ := may_zero.1 e
    rw [decide_eq_true e, if_pos e, if_neg (by decide), if_pos ⟨h0, h1⟩]
  · rw [decide_eq_false e, if_neg e, if_pos (by decide)]
theorem lines_eq {fu : Nat} {d : Dev} (h : d.cells.length ≤ 1000000) : pmem_Device_Lines.f fu d = some ((d.cells.length / 8 : Nat) : Int) := by
  unfold pmem_Device_Lines.f
  rw [Int.tdiv_eq_ediv_of_nonneg (by omega), w64 (by omega) (by omega)]
  congr 1
theorem send_loop {fu : Nat} {cs : List Cell} {k : Nat} (h : 8 * k + 8 ≤ cs.length) (hl : cs.length ≤ 1000000) (hf : 8 < fu) : loopM (pmem_Device_Flush.s0 fu (k : Int)) fu (0, cs) = some (sendL (k : Int) cs) := by
  refine loopM_run (S := fun j => ((j : Int), upd (fun _ c => sendC c) (8 * k) j cs)) 8 (by rw [upd_zero]; rfl) ?_ ?_ hf
  · intro j hj
    unfold pmem_Device_Flush.s0
    have w1 : IntKind.i64.wrap ((k : Int) * 8) = ((8 * k : Nat) : Int) := by rw [w64 (by omega) (by omega)]; omega
    have w2 : IntKind.i64.wrap (((8 * k : Nat) : Int) + (j : Int)) = ((8 * k + j : Nat) : Int) := by rw [w64 (by omega) (by omega)]; omega
    have w3 : IntKind.i64.wrap ((j : Int) + 1) = ((j + 1 : Nat) : Int) := by rw [w64 (by omega) (by omega)]; omega
    have hlt : 8 * k + j < (upd (fun _ c => sendC c) (8 * k) j cs).length := by rw [upd_len]; omega
    have c1 : 0 ≤ ((8 * k + j : Nat) : Int) ∧ ((8 * k + j : Nat) : Int) < ((upd (fun _ c => sendC c) (8 * k) j cs).length : Int) := by omega
    have c2 : (j : Int) < 8 := by omega
    simp only [w1, w2, w3]
    rw [decide_eq_true c2, if_pos rfl, if_pos c1]
    simp only [updR_nat, ix_set hlt, List.set_set]
    rw [ix_nat hlt, upd_next _ _ _ _ (by omega)]
    refine congrArg (fun z => some (Sum.inr (((j + 1 : Nat) : Int), z))) ?_
    exact upd_set (fun _ c => sendC c) (8 * k) j cs (by omega)
  · unfold pmem_Device_Flush.s0
    rw [decide_eq_false (show ¬ (((8 : Nat) : Int) < 8) by decide), if_neg (by decide)]
    refine congrArg (fun z => some (Sum.inl z)) ?_
    apply List.ext_getElem (by simp [upd, sendL])
    intro i h1 h2
    simp only [upd, sendL, List.getElem_mapIdx]
    by_cases c : 8 * k ≤ i ∧ i < 8 * k + 8
    · rw [if_pos c, if_pos (by omega)]
    · rw [if_neg c, if_neg (by omega)]
theorem sendL_ok {cs : List Cell} {k : Int} (h : ∀ c ∈ cs, okC c) : ∀ c ∈ sendL k cs, okC c := by
  refine mapIdx_ok h fun i c hc => ?_
  split
  · exact ⟨hc.1, hc.2.1, hc.2.1⟩
  · exact hc
theorem flush_eq {fu n : Nat} {B k : Int} {d : Dev} (h : DevOk n B d) (hB : B < 9223372036854775807) (hn : n ≤ 1000000) (hf : 8 < fu) : pmem_Device_Flush.f fu d k = some (flushD d k) := by
  unfold pmem_Device_Flush.f flushD
  have hl : d.cells.length ≤ 1000000 := by rw [h.len]; exact hn
  rw [lines_eq hl]
  simp only [Option.bind_some]
  rw [may_eq]
  simp only [Option.bind_some]
  by_cases e : mayI d.off k ((d.cells.length / 8 : Nat) : Int) = 0
  · obtain ⟨ho, h0, h1⟩ := may_zero.1 e
    rw [decide_eq_true e, if_pos e, if_neg (by decide)]
    obtain ⟨j, rfl⟩ : ∃ j : Nat, k = (j : Int) := ⟨k.toNat, by omega⟩
    rw [send_loop (by omega) hl hf]
    have e2 : pmem_Device_step.f fu (⟨sendL (j : Int) d.cells, d.plan, d.off, d.armed, d.left, d.steps⟩ : S_pmem_Device) = some (tick (withC d (sendL (j : Int) d.cells))) :=
      dstep_eq (with_ok h (by simp [sendL, h.len]) (sendL_ok h.val)) hB ho
    simp only [Option.bind_some]
    rw [e2]
    rfl
  · rw [decide_eq_false e, if_neg e, if_pos (by decide)]
end Go.Proofs.YtdifnahlheogdaaGreatDoor.Pure
namespace Go.Proofs.YtdifnahlheogdaaGreatDoor
open Go Go.Xw Go.Yw
end Go.Proofs.YtdifnahlheogdaaGreatDoor
namespace Go.Proofs.YtdifnahlheogdaaGreatDoor.Pure
open Go Go.Xw Go.Yw
def octs (ws : List Int) : List Int := ws.flatMap fun w => lay w.toNat 8
theorem octs_len : ∀ ws : List Int, (octs ws).length = 8 * ws.length
  | [] => rfl
  | w :: ws => by
    have := octs_len ws
    simp only [octs, List.flatMap_cons, List.length_append, lay_len, List.length_cons] at *
    omega
theorem octs_append (a b : List Int) : octs (a ++ b) = octs a ++ octs b := by simp [octs]
theorem octs_one (w : Int) : octs [w] = lay w.toNat 8 := by simp [octs]
theorem octets_eq {fu : Nat} {ws : List Int} (hv : ∀ w ∈ ws, U64 w) (hl : ws.length ≤ 100000) (hf : ws.length + 8 < fu) : octet_Octets.f fu ws = some (octs ws) := by
  unfold octet_Octets.f
  have : loopM (octet_Octets.s0 fu ws) fu ([], 0) = some (octs ws) := by
    refine loopM_run (S := fun j => (octs (ws.take j), (j : Int))) ws.length (by simp [octs]) ?_ ?_ (by omega)
    · intro j hj
      unfold octet_Octets.s0
      have w3 : IntKind.i64.wrap ((j : Int) + 1) = ((j + 1 : Nat) : Int) := by rw [w64 (by omega) (by omega)]; omega
      have c1 : 0 ≤ (j : Int) ∧ (j : Int) < (ws.length : Int) := by omega
      have hu := hv _ (List.getElem_mem hj)
      obtain ⟨v, hv'⟩ : ∃ v : Nat, ws[j] = (v : Int) := ⟨ws[j].toNat, by unfold U64 at hu; omega⟩
      simp only [w3]
      rw [decide_eq_true c1.2, if_pos rfl, if_pos c1, ix_nat hj, hv', show octet_Lay.f fu (v : Int) 8 = some (lay v 8) from olay_eq (n := 8) (by omega) (by omega)]
      simp only [Option.bind_some]
      rw [if_pos (by rw [octs_len, lay_len, List.length_take]; exact Nat.le_trans (by omega : _ ≤ 1000008) (by decide)), take_next hj, octs_append, octs_one, hv', Int.toNat_natCast]
    · unfold octet_Octets.s0
      rw [decide_eq_false (show ¬ ((ws.length : Int) < (ws.length : Int)) by omega), if_neg (by decide), List.take_length]
  rw [this]
  rfl
def newD (n : Nat) : Dev := ⟨List.replicate n ⟨0, 0, 0, false⟩, ⟨[], 0⟩, false, false, 0, 0⟩
theorem new_eq {fu : Nat} {k : Nat} (hk : k ≤ 4096) : pmem_New.f fu (k : Int) = some (some (newD (8 * k)), 0) := by
  unfold pmem_New.f
  have h1 : ¬ (k : Int) < 0 := by omega
  have h2 : ¬ (k : Int) > 4096 := by omega
  have w : IntKind.i64.wrap ((k : Int) * 8) = ((8 * k : Nat) : Int) := by rw [w64 (by omega) (by omega)]; omega
  rw [decide_eq_false h1, decide_eq_false h2, if_neg (by decide), if_neg (by decide), w, Int.toNat_natCast, if_pos ⟨by omega, Nat.le_trans (by omega : _ ≤ 100000) (by decide)⟩]
  rfl
theorem newD_ok (n : Nat) : DevOk n 0 (newD n) := by
  refine ⟨by simp [newD], fun c hc => ?_, fun h => absurd rfl h, by simp [newD], fun h => (by cases h), fun _ => rfl, by simp [newD]⟩
  rw [List.eq_of_mem_replicate hc]
  unfold okC U64
  simp
theorem store_ok {n : Nat} {B k w : Int} {d : Dev} (h : DevOk n B d) (hw : U64 w) : DevOk n (B + 1) (storeD d k w).2 := by
  unfold storeD
  split
  · rename_i e
    refine tick_ok (with_ok h (by simp [putC, h.len]) (mapIdx_ok h.val fun i c hc => ?_)) (may_zero.1 e).1
    split
    · exact ⟨hc.1, hw, hc.2.2⟩
    · exact hc
  · exact h.up (by omega)
theorem flush_ok {n : Nat} {B k : Int} {d : Dev} (h : DevOk n B d) : DevOk n (B + 1) (flushD d k).2 := by
  unfold flushD
  split
  · rename_i e
    exact tick_ok (with_ok h (by simp [sendL, h.len]) (sendL_ok h.val)) (may_zero.1 e).1
  · exact h.up (by omega)
theorem read_long {fu : Nat} {l : List Int} (h : 8 ≤ l.length) : octet_Read.f fu l = octet_Read.f fu (l.take 8) := by
  have h8 : (l.take 8).length = 8 := by rw [List.length_take]; omega
  have e1 : mnI (l.length : Int) 8 = 8 := by unfold mnI; split <;> omega
  have e2 : mnI ((l.take 8).length : Int) 8 = 8 := by rw [h8]; rfl
  have e3 : cut l 0 8 = l.take 8 := rfl
  have e4 : cut (l.take 8) 0 8 = l.take 8 := by
    unfold cut
    rw [List.take_of_length_le (by rw [h8]; decide)]
    rfl
  have es : octet_Read.s0 fu l = octet_Read.s0 fu (l.take 8) := by
    unfold octet_Read.s0
    rw [e1, e2, e3, e4]
  unfold octet_Read.f
  rw [e1, e2, es, if_pos (by omega), if_pos (by rw [h8]; decide)]
def wordsU (l : List Int) (j : Nat) : List Int := (List.range j).map fun i => ((num ((l.drop (8 * i)).take 8) : Nat) : Int)
theorem wordsU_succ (l : List Int) (j : Nat) : wordsU l (j + 1) = wordsU l j ++ [((num ((l.drop (8 * j)).take 8) : Nat) : Int)] := by
  simp [wordsU, List.range_succ]
theorem wordsU_len (l : List Int) (j : Nat) : (wordsU l j).length = j := by simp [wordsU]
theorem chunk_len {l : List Int} {j : Nat} (h : 8 * j + 8 ≤ l.length) : ((l.drop (8 * j)).take 8).length = 8 := by
  rw [List.length_take, List.length_drop]
  omega
theorem octs_words {l : List Int} (hb : Bytes l) : ∀ j, 8 * j ≤ l.length → octs (wordsU l j) = l.take (8 * j)
  | 0, _ => by simp [wordsU, octs]
  | j + 1, h => by
    have hc : ((l.drop (8 * j)).take 8).length = 8 := chunk_len (by omega)
    have hl := lay_num ((hb.drop (8 * j)).take 8)
    rw [hc] at hl
    rw [wordsU_succ, octs_append, octs_one, octs_words hb j (by omega), Int.toNat_natCast, hl, show 8 * (j + 1) = 8 * j + 8 from by omega, List.take_add]
theorem words_U64 {l : List Int} (hb : Bytes l) {n : Nat} : ∀ w ∈ wordsU l n, U64 w := by
  intro w hw
  obtain ⟨i, _, rfl⟩ := List.mem_map.1 hw
  have := num_lt8 ((hb.drop (8 * i)).take 8) (by rw [List.length_take]; omega)
  unfold U64
  omega
theorem words_eq {fu n : Nat} {l : List Int} (hb : Bytes l) (hl : l.length = 8 * n) (hn : n ≤ 100000) (hf : n + 8 < fu) : octet_Words.f fu l = some (wordsU l n) := by
  unfold octet_Words.f
  have : loopM (octet_Words.s0 fu) fu (l, []) = some (wordsU l n) := by
    refine loopM_run (S := fun j => (l.drop (8 * j), wordsU l j)) n (by simp [wordsU]) ?_ ?_ (by omega)
    · intro j hj
      unfold octet_Words.s0
      have hdl : (l.drop (8 * j)).length = 8 * n - 8 * j := by rw [List.length_drop, hl]
      have c1 : ((l.drop (8 * j)).length : Int) ≥ 8 := by omega
      have hc : ((l.drop (8 * j)).take 8).length = 8 := chunk_len (by omega)
      have hr : octet_Read.f fu (l.drop (8 * j)) = some ((num ((l.drop (8 * j)).take 8) : Nat) : Int) := by
        rw [read_long (by omega)]
        exact read_eq ((hb.drop _).take _) (by omega) (by omega)
      have e1 : cut (l.drop (8 * j)) 8 ((l.drop (8 * j)).length : Int) = l.drop (8 * (j + 1)) := by
        unfold cut
        rw [Int.toNat_natCast, List.take_length, show Int.toNat 8 = 8 from rfl, List.drop_drop]
        congr 1
      simp only [e1]
      rw [decide_eq_true c1, if_pos rfl, hr]
      simp only [Option.bind_some]
      rw [if_pos (by rw [wordsU_len]; exact Nat.le_trans (by simp only [List.length_cons, List.length_nil]; omega : _ ≤ 100001) (by decide)), if_pos c1, wordsU_succ]
    · unfold octet_Words.s0
      have : ¬ (((l.drop (8 * n)).length : Int) ≥ 8) := by rw [List.length_drop]; omega
      simp only [this, decide_false, Bool.false_eq_true, if_false]
  rw [this]
  rfl
def putAll : Dev → Int → List Int → Int × Dev
  | d, _, [] => (0, d)
  | d, k, w :: ws => if (storeD d k w).1 = 0 then putAll (storeD d k w).2 (k + 1) ws else storeD d k w
def sendD (d : Dev) (line first : Int) (ws : List Int) : Int × Dev := if (putAll d (8 * line + first) ws).1 = 0 then flushD (putAll d (8 * line + first) ws).2 line else putAll d (8 * line + first) ws
def inL (d : Dev) (line : Int) : Prop := 0 ≤ line ∧ line < ((d.cells.length / 8 : Nat) : Int)
instance (d : Dev) (line : Int) : Decidable (inL d line) := inferInstanceAs (Decidable (_ ∧ _))
def writeD (d : Dev) (line : Int) (b : List Int) : Int × Dev := if inL d line ∧ b.length = 64 then sendD d line 0 (wordsU b 8) else (2, d)
def lineC (d : Dev) (line : Int) : List Int := (List.range 8).map fun (i : Nat) => (ix d.cells (8 * line + (i : Int))).stored
def readD (d : Dev) (line : Int) : List Int × Int := if inL d line then if d.off = true then ([], 3) else (octs (lineC d line), 0) else ([], 2)
theorem put_ok {n : Nat} : ∀ {ws : List Int} {B k : Int} {d : Dev} (h : DevOk n B d) (hw : ∀ w ∈ ws, U64 w), DevOk n (B + (ws.length : Int)) (putAll d k ws).2
  | [], B, k, d, h, _ => h.up (by simp)
  | w :: ws, B, k, d, h, hw => by
    have h1 := store_ok (k := k) h (hw w (by simp))
    unfold putAll
    split
    · exact (put_ok h1 fun x hx => hw x (by simp [hx])).up (by simp only [List.length_cons]; omega)
    · exact h1.up (by simp only [List.length_cons]; omega)
theorem send_ok {n : Nat} {ws : List Int} {B k i : Int} {d : Dev} (h : DevOk n B d) (hw : ∀ w ∈ ws, U64 w) : DevOk n (B + (ws.length : Int) + 1) (sendD d k i ws).2 := by
  have h1 := put_ok (k := 8 * k + i) h hw
  unfold sendD
  split
  · exact flush_ok h1
  · exact h1.up (by omega)
theorem store_loop {fu n : Nat} {line first : Int} {ws : List Int} (hn : n ≤ 100000) (hw : ∀ w ∈ ws, U64 w) (hl : ws.length ≤ 1000) (hline : 0 ≤ line ∧ line ≤ 100000) (hfirst : 0 ≤ first ∧ first ≤ 1000) : ∀ (r j : Nat) (B : Int) (d : Dev) (k : Nat), j + r = ws.length → DevOk n B d → B + (r : Int) < 9223372036854775807 → r < k →
    loopM (press_store.s0 fu line first ws) k ((j : Int), d) = some (if (putAll d (8 * line + first + (j : Int)) (ws.drop j)).1 = 0 then .inr (putAll d (8 * line + first + (j : Int)) (ws.drop j)).2 else .inl (putAll d (8 * line + first + (j : Int)) (ws.drop j)))
  | r, j, B, d, 0, hj, h, hB, hk => by omega
  | 0, j, B, d, k + 1, hj, h, hB, hk => by
    unfold loopM
    have : j = ws.length := by omega
    subst this
    unfold press_store.s0
    rw [decide_eq_false (show ¬ ((ws.length : Int) < (ws.length : Int)) by omega), if_neg (by decide), List.drop_of_length_le (Nat.le_refl _)]
    rfl
  | r + 1, j, B, d, k + 1, hj, h, hB, hk => by
    have hjl : j < ws.length := by omega
    have hu := hw _ (List.getElem_mem hjl)
    have hst : pmem_Device_Store.f fu d (8 * line + first + (j : Int)) ws[j] = some (storeD d (8 * line + first + (j : Int)) ws[j]) := store_eq h (by omega) hu
    have w1 : IntKind.i64.wrap (line * 8) = 8 * line := by rw [w64 (by omega) (by omega)]; omega
    have w2 : IntKind.i64.wrap (8 * line + first) = 8 * line + first := w64 (by omega) (by omega)
    have w3 : IntKind.i64.wrap (8 * line + first + (j : Int)) = 8 * line + first + (j : Int) := w64 (by omega) (by omega)
    have hd : ws.drop j = ws[j] :: ws.drop (j + 1) := List.drop_eq_getElem_cons hjl
    unfold loopM
    have hs : press_store.s0 fu line first ws ((j : Int), d) = some (if (storeD d (8 * line + first + (j : Int)) ws[j]).1 = 0 then .inr (((j + 1 : Nat) : Int), (storeD d (8 * line + first + (j : Int)) ws[j]).2) else .inl (.inl (storeD d (8 * line + first + (j : Int)) ws[j]))) := by
      unfold press_store.s0
      simp only [w1, w2, w3]
      rw [decide_eq_true (show (j : Int) < (ws.length : Int) by omega), if_pos rfl, if_pos (by omega), ix_nat hjl, hst, next64 hjl (by omega)]
      simp only [Option.bind_some]
      by_cases e : (storeD d (8 * line + first + (j : Int)) ws[j]).1 = 0
      · rw [decide_eq_true e, if_neg (by decide), if_pos e]
      · rw [decide_eq_false e, if_pos (by decide), if_neg e]
    rw [hs, hd]
    unfold putAll
    by_cases e : (storeD d (8 * line + first + (j : Int)) ws[j]).1 = 0
    · have ih := store_loop (fu := fu) (n := n) (line := line) (first := first) hn hw hl hline hfirst r (j + 1) (B + 1) (storeD d (8 * line + first + (j : Int)) ws[j]).2 k (by omega) (store_ok h hu) (by omega) (by omega)
      rw [show 8 * line + first + ((j + 1 : Nat) : Int) = 8 * line + first + (j : Int) + 1 from by omega] at ih
      rw [if_pos e, if_pos e]
      exact ih
    · rw [if_neg e, if_neg e]
      simp only [e, if_false]
theorem send_eq {fu n : Nat} {B line first : Int} {ws : List Int} {d : Dev} (h : DevOk n B d) (hB : B + (ws.length : Int) + 1 < 9223372036854775807) (hn : n ≤ 100000) (hw : ∀ w ∈ ws, U64 w) (hl : ws.length ≤ 1000) (hline : 0 ≤ line ∧ line ≤ 100000) (hfirst : 0 ≤ first ∧ first ≤ 1000) (hf : 2000 < fu) : press_store.f fu d line first ws = some (sendD d line first ws) := by
  unfold press_store.f sendD
  have h1 := store_loop (fu := fu) hn hw hl hline hfirst ws.length 0 B d fu (by omega) h (by omega) (by omega)
  simp only [List.drop_zero, Int.natCast_zero, Int.add_zero] at h1
  have h2 := put_ok (k := 8 * line + first) h hw
  rw [h1]
  by_cases e : (putAll d (8 * line + first) ws).1 = 0
  · rw [if_pos e, if_pos e]
    simp only [Option.bind_some]
    rw [flush_eq h2 (by omega) (by omega) (by omega)]
    rfl
  · rw [if_neg e, if_neg e]
    rfl
theorem pmay_eq {fu : Nat} {d : Dev} {k : Int} (hl : d.cells.length ≤ 1000000) : press_may.f fu d k = some (if inL d k then 0 else 2) := by
  unfold press_may.f
  rw [lines_eq hl]
  by_cases h1 : k < 0
  · rw [decide_eq_true h1, if_neg (show ¬ inL d k from fun q => by have := q.1; omega)]
    rfl
  · rw [decide_eq_false h1, if_neg (by decide)]
    simp only [Option.bind_some]
    by_cases h2 : k ≥ ((d.cells.length / 8 : Nat) : Int)
    · rw [decide_eq_true h2, if_neg (show ¬ inL d k from fun q => by have := q.2; omega)]
      rfl
    · rw [decide_eq_false h2, if_pos (show inL d k from ⟨by omega, by omega⟩)]
      rfl
theorem write_eq {fu n : Nat} {B line : Int} {b : List Int} {d : Dev} (h : DevOk n B d) (hB : B + 9 < 9223372036854775807) (hn : n ≤ 100000) (hb : Bytes b) (hf : 2000 < fu) : press_Write.f fu d line b = some (writeD d line b) := by
  unfold press_Write.f writeD
  have hlen := h.len
  rw [pmay_eq (by omega)]
  simp only [Option.bind_some]
  by_cases hi : inL d line
  · rw [if_pos hi, if_neg (by decide)]
    by_cases hl : b.length = 64
    · have hw := words_U64 (n := 8) hb
      unfold inL at hi
      rw [decide_eq_true (show (b.length : Int) = 64 by omega), if_neg (by decide), if_pos ⟨hi, hl⟩, words_eq (n := 8) hb (by omega) (by decide) (by omega)]
      simp only [Option.bind_some]
      rw [send_eq h (by rw [wordsU_len]; omega) hn hw (by rw [wordsU_len]; decide) (by omega) (by decide) hf]
      rfl
    · rw [decide_eq_false (show ¬ (b.length : Int) = 64 by omega), if_pos (by decide), if_neg (fun q => hl q.2)]
  · rw [if_neg hi, if_pos (by decide), if_neg (fun q => hi q.1)]
theorem arr_set8 (a : Arr 8 Int) (j : Nat) (v : Int) (hj : j < 8) (f : Nat → Int) (hf : ∀ i, i < j → ix a.l (i : Int) = f i) (hv : v = f j) : ∀ i, i < j + 1 → ix (Arr.set a (j : Int) v).l (i : Int) = f i := by
  intro i hi
  have hl := a.h
  have e : (Arr.set a (j : Int) v).l = a.l.set j v := by simp [Arr.set]
  rw [e, ix_nat (by rw [List.length_set]; omega), List.getElem_set]
  by_cases h : j = i
  · subst h
    rw [if_pos rfl, hv]
  · rw [if_neg h, ← ix_nat (by omega)]
    exact hf i (by omega)
theorem read_dev {fu n : Nat} {B line : Int} {d : Dev} (h : DevOk n B d) (hn : n ≤ 100000) (hf : 2000 < fu) : press_Read.f fu d line = some (readD d line) := by
  unfold press_Read.f readD
  have hlen := h.len
  rw [pmay_eq (by omega)]
  simp only [Option.bind_some]
  by_cases hi : inL d line
  · rw [if_pos hi, if_neg (by decide), if_pos hi]
    have hin := hi
    unfold inL at hin
    have w1 : IntKind.i64.wrap (line * 8) = 8 * line := by rw [w64 (by omega) (by omega)]; omega
    have hld : ∀ j : Nat, j < 8 → pmem_Device_Load.f fu d (8 * line + (j : Int)) = some (if d.off = true then (0, 3) else ((ix d.cells (8 * line + (j : Int))).stored, 0)) := by
      intro j hj
      rw [load_eq]
      unfold loadD
      cases ho : d.off
      · rw [if_pos (may_zero.2 ⟨rfl, by omega, by omega⟩), if_neg (by decide)]
      · have : mayI true (8 * line + (j : Int)) (d.cells.length : Int) = 3 := rfl
        rw [this, if_neg (by decide), if_pos rfl]
    cases ho : d.off
    · rw [if_neg (by decide)]
      have loop : ∃ e, loopM (press_Read.s0 fu d line) fu (0, Arr.rep 8 (0 : Int)) = some e ∧ ∃ a : Arr 8 Int, e = .inr a ∧ ∀ i : Nat, i < 8 → ix a.l (i : Int) = (ix d.cells (8 * line + (i : Int))).stored := by
        refine loopM_inv (fun j s => ∃ a : Arr 8 Int, s = ((j : Int), a) ∧ ∀ i : Nat, i < j → ix a.l (i : Int) = (ix d.cells (8 * line + (i : Int))).stored) 8 _ ?_ ?_ (j := 0) ⟨_, rfl, fun i hi => by omega⟩ (by omega) (by omega)
        · rintro j _ hj ⟨a, rfl, ha⟩
          unfold press_Read.s0
          have w3 : IntKind.i64.wrap (8 * line + (j : Int)) = 8 * line + (j : Int) := w64 (by omega) (by omega)
          simp only [w1, w3]
          rw [decide_eq_true (show (j : Int) < 8 by omega), if_pos rfl, hld j hj, ho, if_neg (by decide), next64 hj (by decide)]
          simp only [Option.bind_some, decide_true, Bool.not_true, Bool.false_eq_true, if_false]
          rw [if_pos (by omega)]
          exact ⟨_, rfl, _, rfl, arr_set8 a j _ hj (fun i => (ix d.cells (8 * line + (i : Int))).stored) ha rfl⟩
        · rintro _ ⟨a, rfl, ha⟩
          unfold press_Read.s0
          rw [decide_eq_false (show ¬ (((8 : Nat) : Int) < 8) by decide), if_neg (by decide)]
          exact ⟨_, rfl, a, rfl, ha⟩
      obtain ⟨e, h1, a, rfl, ha⟩ := loop
      have hal : a.l = lineC d line := by
        apply List.ext_getElem (by rw [a.h]; simp [lineC])
        intro i h1 h2
        have : i < 8 := by rw [a.h] at h1; exact h1
        rw [← ix_nat h1, ha i this]
        simp [lineC]
      have hu : ∀ w ∈ lineC d line, U64 w := by
        intro w hw
        obtain ⟨i, hi8, rfl⟩ := List.mem_map.1 hw
        have := List.mem_range.1 hi8
        obtain ⟨p, hp⟩ : ∃ p : Nat, 8 * line + (i : Int) = (p : Int) := ⟨(8 * line + (i : Int)).toNat, by omega⟩
        rw [hp, ix_nat (by omega)]
        exact (h.val _ (List.getElem_mem _)).2.1
      rw [h1]
      simp only [Option.bind_some]
      rw [hal, octets_eq hu (by simp [lineC]) (by simp [lineC]; omega)]
      rfl
    · rw [if_pos rfl]
      have loop : loopM (press_Read.s0 fu d line) fu (0, Arr.rep 8 (0 : Int)) = some (.inl ([], 3)) := by
        obtain ⟨k, rfl⟩ : ∃ k, fu = k + 1 := ⟨fu - 1, by omega⟩
        unfold loopM
        have := hld 0 (by decide)
        rw [ho, if_pos rfl] at this
        unfold press_Read.s0
        have w3 : IntKind.i64.wrap (8 * line + 0) = 8 * line + ((0 : Nat) : Int) := by rw [w64 (by omega) (by omega)]; rfl
        simp only [w1, w3]
        rw [this]
        rfl
      rw [loop]
      rfl
  · rw [if_neg hi, if_pos (by decide), if_neg hi]
noncomputable def SO (n : Nat) (d : Dev) (a : AA) : S_shadow_Store := ⟨d, a.of n⟩
def writtenS (d : Dev) (a : AA) (k : Int) (b : List Int) : Int × Int × Dev × AA := if (writeD d k b).1 = 0 then (k, 0, (writeD d k b).2, a) else (0, (writeD d k b).1, (writeD d k b).2, a)
def makeS (n : Nat) (d : Dev) (a : AA) (b : List Int) : Int × Int × Dev × AA := if b.length = 64 then if (a.take n).2.1 = 0 then writtenS d (a.take n).2.2 (a.take n).1 b else (0, (a.take n).2.1, d, (a.take n).2.2) else (0, 2, d, a)
def turnS (n : Nat) (d : Dev) (a : AA) (k : Int) (b : List Int) : Int × Int × Dev × AA :=
  if b.length = 64 ∧ hasI n a.w k = true then
    if a.own n k = true then writtenS d a k b
    else if (makeS n d a b).2.1 = 0 then ((makeS n d a b).1, ((makeS n d a b).2.2.2.give n k).1, (makeS n d a b).2.2.1, ((makeS n d a b).2.2.2.give n k).2) else (0, (makeS n d a b).2.1, (makeS n d a b).2.2.1, (makeS n d a b).2.2.2)
  else (0, 2, d, a)
theorem write_dev {m : Nat} {B line : Int} {b : List Int} {d : Dev} (h : DevOk m B d) (hb : Bytes b) : DevOk m (B + 9) (writeD d line b).2 := by
  unfold writeD
  split
  · have := send_ok (k := line) (i := 0) h (words_U64 (n := 8) hb)
    exact this.up (by rw [wordsU_len]; omega)
  · exact h.up (by omega)
theorem written_eq {fu n m : Nat} {B k : Int} {b : List Int} {d : Dev} {a : AA} (h : DevOk m B d) (hB : B + 9 < 9223372036854775807) (hm : m ≤ 100000) (hb : Bytes b) (hf : 2000 < fu) : shadow_Store_written.f fu (SO n d a) k b = some ((writtenS d a k b).1, (writtenS d a k b).2.1, SO n (writtenS d a k b).2.2.1 (writtenS d a k b).2.2.2) := by
  unfold shadow_Store_written.f writtenS
  rw [show (SO n d a).device = d from rfl, write_eq h hB hm hb hf]
  simp only [Option.bind_some]
  by_cases e : (writeD d k b).1 = 0
  · rw [decide_eq_true e, if_neg (by decide), if_pos e]
    rfl
  · rw [decide_eq_false e, if_pos (by decide), if_neg e]
    rfl
theorem written_dev {m : Nat} {B k : Int} {b : List Int} {d : Dev} {a : AA} (h : DevOk m B d) (hb : Bytes b) : DevOk m (B + 9) (writtenS d a k b).2.2.1 ∧ (writtenS d a k b).2.2.2 = a := by
  have := write_dev (line := k) h hb
  unfold writtenS
  split <;> exact ⟨this, rfl⟩
theorem make_eq {fu n m : Nat} {B : Int} {b : List Int} {d : Dev} {a : AA} (h : DevOk m B d) (hB : B + 9 < 9223372036854775807) (hm : m ≤ 100000) (hb : Bytes b) (hf : 2000 < fu) (ha : AOk n a) (hn : n ≤ 90000) (hfn : n + 64 < fu) : shadow_Store_Make.f fu (SO n d a) b = some ((makeS n d a b).1, (makeS n d a b).2.1, SO n (makeS n d a b).2.2.1 (makeS n d a b).2.2.2) := by
  unfold shadow_Store_Make.f makeS
  by_cases e : b.length = 64
  · rw [decide_eq_true (show (b.length : Int) = 64 by omega), if_neg (by decide), if_pos e, show (SO n d a).blocks = a.of n from rfl, take_eq hn hfn ha]
    simp only [Option.bind_some]
    by_cases e2 : (a.take n).2.1 = 0
    · rw [decide_eq_true e2, if_neg (by decide), if_pos e2, show (⟨(SO n d a).device, (a.take n).2.2.of n⟩ : S_shadow_Store) = SO n d (a.take n).2.2 from rfl, written_eq h hB hm hb hf]
      rfl
    · rw [decide_eq_false e2, if_pos (by decide), if_neg e2]
      rfl
  · rw [decide_eq_false (show ¬ (b.length : Int) = 64 by omega), if_pos (by decide), if_neg e]
theorem make_ok {n m : Nat} {B : Int} {b : List Int} {d : Dev} {a : AA} (h : DevOk m B d) (hb : Bytes b) (ha : AOk n a) : DevOk m (B + 9) (makeS n d a b).2.2.1 ∧ AOk n (makeS n d a b).2.2.2 := by
  have ht := take_ok ha
  unfold makeS
  split
  · split
    · obtain ⟨h1, h2⟩ := written_dev (k := (a.take n).1) (a := (a.take n).2.2) h hb
      rw [h2]
      exact ⟨h1, ht⟩
    · exact ⟨h.up (by omega), ht⟩
  · exact ⟨h.up (by omega), ha⟩
theorem turn_eq {fu n m : Nat} {B k : Int} {b : List Int} {d : Dev} {a : AA} (h : DevOk m B d) (hB : B + 9 < 9223372036854775807) (hm : m ≤ 100000) (hb : Bytes b) (hf : 2000 < fu) (ha : AOk n a) (hn : n ≤ 90000) (hfn : n + 64 < fu) : shadow_Store_Turn.f fu (SO n d a) k b = some ((turnS n d a k b).1, (turnS n d a k b).2.1, SO n (turnS n d a k b).2.2.1 (turnS n d a k b).2.2.2) := by
  unfold shadow_Store_Turn.f turnS
  by_cases e : b.length = 64
  · rw [decide_eq_true (show (b.length : Int) = 64 by omega), if_neg (by decide), show (SO n d a).blocks = a.of n from rfl, works_eq hn hfn ha]
    simp only [Option.bind_some]
    rw [has_eq (by omega)]
    simp only [Option.bind_some]
    cases hh : hasI n a.w k
    · rw [Bool.not_false, if_pos rfl, if_neg (fun q => by simp at q)]
    · rw [Bool.not_true, if_neg (by decide), if_pos ⟨e, rfl⟩, own_eq hn]
      simp only [Option.bind_some]
      cases ho : a.own n k
      · rw [if_neg (by decide), if_neg (by decide), make_eq h hB hm hb hf ha hn hfn]
        simp only [Option.bind_some]
        obtain ⟨m1, m2⟩ := make_ok (n := n) h hb ha
        by_cases e2 : (makeS n d a b).2.1 = 0
        · rw [decide_eq_true e2, if_neg (by decide), if_pos e2, show (SO n (makeS n d a b).2.2.1 (makeS n d a b).2.2.2).blocks = (makeS n d a b).2.2.2.of n from rfl, give_eq hn hfn m2]
          rfl
        · rw [decide_eq_false e2, if_pos (by decide), if_neg e2]
      · rw [if_pos rfl, if_pos rfl, written_eq h hB hm hb hf]
        rfl
  · rw [decide_eq_false (show ¬ (b.length : Int) = 64 by omega), if_pos (by decide), if_neg (fun q => e q.1)]
theorem drop_eq {fu n : Nat} {k : Int} {d : Dev} {a : AA} (ha : AOk n a) (hn : n ≤ 90000) (hfn : n + 64 < fu) : shadow_Store_Drop.f fu (SO n d a) k = some ((a.give n k).1, SO n d (a.give n k).2) := by
  unfold shadow_Store_Drop.f
  rw [show (SO n d a).blocks = a.of n from rfl, give_eq hn hfn ha]
  rfl
theorem sget_eq {fu n m : Nat} {B k : Int} {d : Dev} {a : AA} (h : DevOk m B d) (hm : m ≤ 100000) (hf : 2000 < fu) : shadow_Store_Get.f fu (SO n d a) k = some (readD d k) := by
  unfold shadow_Store_Get.f
  rw [show (SO n d a).device = d from rfl, read_dev h hm hf]
  rfl
structure Clean (d : Dev) : Prop where
  off : d.off = false
  arm : d.armed = false
  pl : d.plan.list = []
theorem tick_clean {d : Dev} (h : Clean d) : tick d = ⟨d.cells, d.plan, false, false, d.left, d.steps + 1⟩ := by
  have hp : pick d.plan = -1 := by simp [pick, h.pl]
  have hn : nextP d.plan = d.plan := by simp [nextP, h.pl]
  unfold tick
  rw [hp, hn, evict_no _ (by decide), h.arm, h.off]
  rfl
theorem clean_with {d : Dev} {cs : List Cell} (h : Clean d) : Clean (tick (withC d cs)) ∧ (tick (withC d cs)).cells = cs := by
  have h' : Clean (withC d cs) := ⟨h.off, h.arm, h.pl⟩
  rw [tick_clean h']
  exact ⟨⟨rfl, rfl, h.pl⟩, rfl⟩
theorem putC_ix {cs : List Cell} {k w : Int} {i : Nat} (hi : i < cs.length) : ix (putC k w cs) (i : Int) = if (i : Int) = k then ⟨(ix cs (i : Int)).lasts, w, (ix cs (i : Int)).sent, (ix cs (i : Int)).flushed⟩ else ix cs (i : Int) := by
  have hl : i < (putC k w cs).length := by simpa [putC] using hi
  rw [ix_nat hl, ix_nat hi]
  simp only [putC, List.getElem_mapIdx]
theorem sendL_ix {cs : List Cell} {k : Int} {i : Nat} (hi : i < cs.length) : ix (sendL k cs) (i : Int) = if 8 * k ≤ (i : Int) ∧ (i : Int) < 8 * k + 8 then sendC (ix cs (i : Int)) else ix cs (i : Int) := by
  have hl : i < (sendL k cs).length := by simpa [sendL] using hi
  rw [ix_nat hl, ix_nat hi]
  simp only [sendL, List.getElem_mapIdx]
theorem put_clean : ∀ {ws : List Int} {k : Nat} {d : Dev}, Clean d → k + ws.length ≤ d.cells.length → (putAll d (k : Int) ws).1 = 0 ∧ Clean (putAll d (k : Int) ws).2 ∧ (putAll d (k : Int) ws).2.cells.length = d.cells.length ∧
    ∀ i : Nat, i < d.cells.length → ix (putAll d (k : Int) ws).2.cells (i : Int) = if k ≤ i ∧ i < k + ws.length then ⟨(ix d.cells (i : Int)).lasts, ix ws ((i - k : Nat) : Int), (ix d.cells (i : Int)).sent, (ix d.cells (i : Int)).flushed⟩ else ix d.cells (i : Int)
  | [], k, d, h, hk => ⟨rfl, h, rfl, fun i hi => by
    have : ¬ (k ≤ i ∧ i < k + ([] : List Int).length) := fun q => by have h1 := q.1; have h2 := q.2; simp only [List.length_nil] at h2; omega
    rw [if_neg this]
    rfl⟩
  | w :: ws, k, d, h, hk => by
    have hk : k + (ws.length + 1) ≤ d.cells.length := hk
    have hm : mayI d.off (k : Int) (d.cells.length : Int) = 0 := may_zero.2 ⟨h.off, by omega, by omega⟩
    have hs : storeD d (k : Int) w = (0, tick (withC d (putC (k : Int) w d.cells))) := by
      unfold storeD
      rw [if_pos hm]
    obtain ⟨c1, c2⟩ := clean_with (cs := putC (k : Int) w d.cells) h
    have hl : (putC (k : Int) w d.cells).length = d.cells.length := by simp [putC]
    obtain ⟨i1, i2, i3, i4⟩ := put_clean (ws := ws) (k := k + 1) c1 (by rw [c2, hl]; omega)
    have e : putAll d (k : Int) (w :: ws) = putAll (tick (withC d (putC (k : Int) w d.cells))) ((k + 1 : Nat) : Int) ws := by
      conv => lhs; unfold putAll
      rw [hs]
      simp only [if_true]
      rfl
    rw [e]
    rw [c2, hl] at i3 i4
    refine ⟨i1, i2, i3, fun i hi => ?_⟩
    rw [i4 i hi, putC_ix hi]
    by_cases e1 : i = k
    · subst e1
      have e9 : i ≤ i ∧ i < i + (w :: ws).length := ⟨Nat.le_refl _, by simp only [List.length_cons]; omega⟩
      rw [if_neg (by omega), if_pos rfl, if_pos e9, Nat.sub_self]
      rfl
    · rw [if_neg (show ¬ ((i : Int) = (k : Int)) by omega)]
      by_cases e2 : k + 1 ≤ i ∧ i < k + 1 + ws.length
      · rw [if_pos e2, if_pos (by simp only [List.length_cons]; omega)]
        obtain ⟨p, hp⟩ : ∃ p, i - k = p + 1 := ⟨i - k - 1, by omega⟩
        have hp2 : i - (k + 1) = p := by omega
        have e5 : ix (w :: ws) ((p + 1 : Nat) : Int) = ix ws (p : Int) := by
          unfold ix
          rw [Int.toNat_natCast, Int.toNat_natCast]
          rfl
        rw [hp, hp2, e5]
      · rw [if_neg e2, if_neg (by simp only [List.length_cons]; omega)]
theorem write_clean {d : Dev} {line : Nat} {b : List Int} (h : Clean d) (hi : 8 * line + 8 ≤ d.cells.length) (hb : b.length = 64) : (writeD d (line : Int) b).1 = 0 ∧ Clean (writeD d (line : Int) b).2 ∧ (writeD d (line : Int) b).2.cells.length = d.cells.length ∧
    ∀ i : Nat, i < d.cells.length → ix (writeD d (line : Int) b).2.cells (i : Int) = if i / 8 = line then ⟨(ix d.cells (i : Int)).lasts, ix (wordsU b 8) ((i - 8 * line : Nat) : Int), ix (wordsU b 8) ((i - 8 * line : Nat) : Int), true⟩ else ix d.cells (i : Int) := by
  have hin : inL d (line : Int) := ⟨by omega, by omega⟩
  obtain ⟨p1, p2, p3, p4⟩ := put_clean (ws := wordsU b 8) (k := 8 * line) h (by rw [wordsU_len]; exact hi)
  have ek : 8 * (line : Int) + 0 = ((8 * line : Nat) : Int) := by omega
  have hw : writeD d (line : Int) b = flushD (putAll d ((8 * line : Nat) : Int) (wordsU b 8)).2 (line : Int) := by
    unfold writeD
    rw [if_pos ⟨hin, hb⟩]
    unfold sendD
    rw [ek, if_pos p1]
  generalize putAll d ((8 * line : Nat) : Int) (wordsU b 8) = D at *
  have hm : mayI D.2.off (line : Int) ((D.2.cells.length / 8 : Nat) : Int) = 0 := may_zero.2 ⟨p2.off, by omega, by rw [p3]; omega⟩
  have hfl : flushD D.2 (line : Int) = (0, tick (withC D.2 (sendL (line : Int) D.2.cells))) := by
    unfold flushD
    rw [if_pos hm]
  obtain ⟨c1, c2⟩ := clean_with (cs := sendL (line : Int) D.2.cells) p2
  rw [hw, hfl]
  refine ⟨rfl, c1, by rw [c2]; simpa [sendL] using p3, fun i hi' => ?_⟩
  rw [c2, sendL_ix (by rw [p3]; exact hi'), p4 i hi', wordsU_len]
  by_cases e : i / 8 = line
  · rw [if_pos (by omega), if_pos (by omega), if_pos e]
    rfl
  · rw [if_neg (by omega), if_neg (by omega), if_neg e]
theorem wordsU_octs {b : List Int} (hb : Bytes b) (hl : b.length = 64) : octs (wordsU b 8) = b := by
  rw [octs_words hb 8 (by omega), List.take_of_length_le (by omega)]
theorem read_clean {d : Dev} {line : Nat} (h : Clean d) (hi : 8 * line + 8 ≤ d.cells.length) : readD d (line : Int) = (octs (lineC d (line : Int)), 0) := by
  unfold readD
  rw [if_pos (show inL d (line : Int) from ⟨by omega, by omega⟩), h.off, if_neg (by decide)]
theorem line_congr {d e : Dev} {k : Nat} (h : ∀ i : Nat, i < 8 → ix d.cells ((8 * k + i : Nat) : Int) = ix e.cells ((8 * k + i : Nat) : Int)) : lineC d (k : Int) = lineC e (k : Int) := by
  unfold lineC
  apply List.map_congr_left
  intro i hi
  have := h i (List.mem_range.1 hi)
  rw [show 8 * (k : Int) + (i : Int) = ((8 * k + i : Nat) : Int) by omega, this]
theorem line_written {d : Dev} {line : Nat} {b : List Int} (h : Clean d) (hi : 8 * line + 8 ≤ d.cells.length) (hb : Bytes b) (hl : b.length = 64) : octs (lineC (writeD d (line : Int) b).2 (line : Int)) = b := by
  obtain ⟨_, _, _, hw⟩ := write_clean h hi hl
  have : lineC (writeD d (line : Int) b).2 (line : Int) = wordsU b 8 := by
    apply List.ext_getElem (by simp [lineC, wordsU_len])
    intro i h1 h2
    have hi8 : i < 8 := by simpa [lineC] using h1
    simp only [lineC, List.getElem_map, List.getElem_range]
    rw [show 8 * (line : Int) + (i : Int) = ((8 * line + i : Nat) : Int) by omega, hw _ (by omega), if_pos (by omega), show 8 * line + i - 8 * line = i by omega]
    exact ix_nat h2
  rw [this, wordsU_octs hb hl]
abbrev FU : Nat := 200000
def ini (n : Nat) : Nat → Bool := addF n (fun _ => false) [0, 1]
def nul (n : Nat) : Nat → Bool := addF n (fun _ => false) []
def A0 (n : Nat) (r : Int) : AA := ⟨r, ini n, nul n, ini n, ini n⟩
theorem ini_low (n : Nat) : Low n (ini n) := addF_low fun k h => by cases h
theorem nul_low (n : Nat) : Low n (nul n) := addF_low fun k h => by cases h
theorem A0_ok {n : Nat} {r : Int} (hr : 0 ≤ r ∧ r ≤ 1000) : AOk n (A0 n r) := ⟨ini_low n, nul_low n, ini_low n, ini_low n, hr⟩
theorem made_eq {fu n : Nat} {r : Int} (hn : n ≤ 3072) (hf : n + 2000 < fu) (hr : 0 ≤ r ∧ r ≤ 1000) : rickyardlaw19_Made.f fu (n : Int) r = some (some (SO n (newD (8 * n)) (A0 n r)), some (newD (8 * n)), some ((A0 n r).of n)) := by
  unfold rickyardlaw19_Made.f
  rw [new_eq (by omega)]
  simp only [Option.bind_some, Option.elim_some]
  rw [of_eq (l := [0, 1]) hn (by decide) (by simp; omega), of_eq (l := []) hn (by decide) (by simp; omega)]
  simp only [Option.bind_some]
  rw [anew_eq (by omega) (by omega) (addF_low fun k h => by cases h) (addF_low fun k h => by cases h) hr.1]
  simp only [Option.bind_some, Option.elim_some]
  have ha := A0_ok (n := n) hr
  unfold shadow_New.f
  rw [show (⟨r, addF n (fun _ => false) [0, 1], addF n (fun _ => false) [], addF n (fun _ => false) [0, 1], addF n (fun _ => false) [0, 1]⟩ : AA) = A0 n r from rfl, works_eq (by omega) (by omega) ha]
  have hl : (newD (8 * n)).cells.length = 8 * n := by simp [newD]
  simp only [Option.bind_some, bits_Set_Size.f]
  rw [lines_eq (by omega), hl]
  simp only [Option.bind_some]
  rw [show (setOf n (A0 n r).w).size = (n : Int) from rfl, decide_eq_false (show ¬ ((n : Int) > ((8 * n / 8 : Nat) : Int)) by omega), if_neg (by decide)]
  rfl
theorem newD_clean (n : Nat) : Clean (newD n) := ⟨rfl, rfl, rfl⟩
structure SOk (n : Nat) (B : Int) (d : Dev) (a : AA) : Prop where
  dev : DevOk (8 * n) B d
  cl : Clean d
  al : AOk n a
theorem SOk.up {n : Nat} {B C : Int} {d : Dev} {a : AA} (h : SOk n B d a) (hc : B ≤ C) : SOk n C d a := ⟨h.dev.up hc, h.cl, h.al⟩
theorem SOk.len {n : Nat} {B : Int} {d : Dev} {a : AA} (h : SOk n B d a) : d.cells.length = 8 * n := h.dev.len
theorem writtenS_clean {d : Dev} {a : AA} {line : Nat} {b : List Int} (h : Clean d) (hi : 8 * line + 8 ≤ d.cells.length) (hb : b.length = 64) : writtenS d a (line : Int) b = ((line : Int), 0, (writeD d (line : Int) b).2, a) := by
  unfold writtenS
  rw [if_pos (write_clean h hi hb).1]
def ln (d : Dev) (j : Nat) : List Int := octs (lineC d (j : Int))
theorem octs_byt (ws : List Int) : Bytes (octs ws) := by
  intro x hx
  unfold octs at hx
  obtain ⟨w, _, hw⟩ := List.mem_flatMap.1 hx
  exact lay_bytes _ _ x hw
theorem ln_write {n : Nat} {B : Int} {d : Dev} {a : AA} {k : Nat} {b : List Int} (h : SOk n B d a) (hk : k < n) (hb : Bytes b) (hl : b.length = 64) :
    ln (writeD d (k : Int) b).2 k = b ∧ ∀ j, j < n → j ≠ k → ln (writeD d (k : Int) b).2 j = ln d j := by
  have hlen := h.len
  refine ⟨line_written h.cl (by omega) hb hl, fun j hj hne => ?_⟩
  unfold ln
  rw [line_congr fun i hi => ?_]
  rw [(write_clean (line := k) h.cl (by omega) hl).2.2.2 _ (by omega), if_neg (by omega)]
structure Wr (n : Nat) (B : Int) (d : Dev) (a : AA) (k : Nat) (b : List Int) (d' : Dev) (a' : AA) : Prop where
  so : SOk n (B + 9) d' a'
  lt : k < n
  new : ln d' k = b
  old : ∀ j, j < n → j ≠ k → ln d' j = ln d j
  m : a'.m = a.m
  c : a'.c = a.c
  e : a'.e = a.e
  r : a'.r = a.r
theorem put_w {n k j : Nat} {a : AA} (hk : k < n) : (a.put n k).w j = true ↔ a.w j = true ∨ j = k := by
  show addF n a.w [(k : Int)] j = true ↔ _
  unfold addF
  simp only [Bool.or_eq_true, Bool.and_eq_true, decide_eq_true_eq, List.mem_singleton]
  constructor
  · rintro (h | ⟨_, h⟩)
    · exact .inl h
    · exact .inr (by omega)
  · rintro (h | rfl)
    · exact .inl h
    · exact .inr ⟨hk, rfl⟩
theorem cut_w {k j : Nat} {a : AA} : (a.cut (k : Int)).w j = true ↔ a.w j = true ∧ j ≠ k := by
  show dropF a.w [(k : Int)] j = true ↔ _
  unfold dropF
  simp only [Bool.and_eq_true, Bool.not_eq_true', decide_eq_false_iff_not, List.mem_singleton]
  constructor
  · rintro ⟨h, h2⟩
    exact ⟨h, by omega⟩
  · rintro ⟨h, h2⟩
    exact ⟨h, by omega⟩
theorem make_line {n : Nat} {B : Int} {d : Dev} {a : AA} {b : List Int} (h : SOk n B d a) (hb : Bytes b) (hl : b.length = 64) (hr : a.r = 0) (hf : (a.free n).length ≠ 0) :
    ∃ (k : Nat) (d' : Dev), makeS n d a b = ((k : Int), 0, d', a.put n k) ∧ a.held k = false ∧ Wr n B d a k b d' (a.put n k) := by
  obtain ⟨l1, l2, l3⟩ := least_ok hf
  have ht := take_ok h.al
  have e : a.take n = ((a.least n : Int), 0, a.put n (a.least n)) := by
    unfold AA.take
    rw [if_neg (by rw [hr]; omega)]
  rw [e] at ht
  refine ⟨a.least n, (writeD d (a.least n : Int) b).2, ?_, l2, ?_⟩
  · unfold makeS
    rw [if_pos hl, e]
    simp only [if_true]
    exact writtenS_clean (line := a.least n) h.cl (by have := h.len; omega) hl
  · obtain ⟨s1, s2⟩ := ln_write h l1 hb hl
    exact ⟨⟨write_dev h.dev hb, (write_clean (line := a.least n) h.cl (by have := h.len; omega) hl).2.1, ht⟩, l1, s1, s2, rfl, rfl, rfl, rfl⟩
theorem has_w {n k : Nat} {f : Nat → Bool} (hk : k < n) : hasI n f (k : Int) = f k := by
  unfold hasI
  rw [decide_eq_true (show (0 : Int) ≤ (k : Int) by omega), decide_eq_true (show (k : Int) < (n : Int) by omega), Int.toNat_natCast]
  rfl
theorem give_line {n k : Nat} {a : AA} (hk : k < n) (hw : a.w k = true) : a.give n (k : Int) = (0, a.cut (k : Int)) := by
  unfold AA.give
  rw [has_w hk, if_pos hw]
theorem turn_line {n : Nat} {B : Int} {d : Dev} {a : AA} {b : List Int} {k : Nat} (h : SOk n B d a) (hb : Bytes b) (hl : b.length = 64) (hr : a.r = 0) (hf : (a.free n).length ≠ 0) (hk : k < n) (hw : a.w k = true) :
    ∃ (k' : Nat) (d' : Dev) (a' : AA), turnS n d a (k : Int) b = ((k' : Int), 0, d', a') ∧ Wr n B d a k' b d' a' ∧ (∀ j, a'.w j = true ↔ (a.w j = true ∧ j ≠ k) ∨ j = k') ∧ (k' = k ∧ a.m k = false ∨ k' ≠ k ∧ a.held k' = false) := by
  unfold turnS
  rw [if_pos ⟨hl, by rw [has_w hk]; exact hw⟩]
  unfold AA.own
  rw [has_w hk, has_w hk, hw]
  cases hm : a.m k with
  | false =>
    rw [if_pos (by rfl)]
    obtain ⟨s1, s2⟩ := ln_write h hk hb hl
    refine ⟨k, _, _, writtenS_clean (line := k) h.cl (by have := h.len; omega) hl, ⟨⟨write_dev h.dev hb, (write_clean (line := k) h.cl (by have := h.len; omega) hl).2.1, h.al⟩, hk, s1, s2, rfl, rfl, rfl, rfl⟩, fun j => ?_, .inl ⟨rfl, rfl⟩⟩
    by_cases e : j = k
    · subst e
      simp [hw]
    · simp [e]
  | true =>
    rw [if_neg (by decide)]
    obtain ⟨k', d', e1, e2, W⟩ := make_line h hb hl hr hf
    have hne : k' ≠ k := fun e => by
      unfold AA.held at e2
      rw [e, hw] at e2
      simp at e2
    have hw' : (a.put n k').w k = true := (put_w W.lt).2 (.inl hw)
    rw [e1, if_pos rfl]
    simp only
    rw [give_line hk hw']
    refine ⟨k', d', (a.put n k').cut (k : Int), rfl, ⟨⟨W.so.dev, W.so.cl, ?_⟩, W.lt, W.new, W.old, rfl, rfl, rfl, rfl⟩, fun j => ?_, .inr ⟨hne, e2⟩⟩
    · have := give_ok (k := (k : Int)) W.so.al
      rw [give_line hk hw'] at this
      exact this
    · rw [cut_w, put_w W.lt]
      constructor
      · rintro ⟨h1 | h1, h2⟩
        · exact .inl ⟨h1, h2⟩
        · exact .inr h1
      · rintro (⟨h1, h2⟩ | rfl)
        · exact ⟨.inl h1, h2⟩
        · exact ⟨.inr rfl, hne⟩
theorem cnt_or (f g : Nat → Bool) (n : Nat) : cnt (fun k => f k || g k) n ≤ cnt f n + cnt g n := by
  unfold cnt
  induction List.range n with
  | nil => simp
  | cons x l ih =>
    simp only [List.filter_cons]
    cases f x <;> cases g x <;> simp <;> omega
theorem cnt_mono {f g : Nat → Bool} {n : Nat} (h : ∀ k, k < n → f k = true → g k = true) : cnt f n ≤ cnt g n := by
  unfold cnt
  have : ∀ l : List Nat, (∀ k ∈ l, k < n) → (l.filter f).length ≤ (l.filter g).length := by
    intro l
    induction l with
    | nil => simp
    | cons x l ih =>
      intro hl
      have i := ih fun k hk => hl k (List.mem_cons_of_mem _ hk)
      have hx := h x (hl x List.mem_cons_self)
      simp only [List.filter_cons]
      cases hf : f x with
      | false => cases g x <;> simp <;> omega
      | true => rw [hx hf]; simp; omega
  exact this _ fun k hk => List.mem_range.1 hk
theorem cnt_one (x n : Nat) : cnt (fun k => decide (k = x)) n ≤ 1 := by
  induction n with
  | zero => simp [cnt]
  | succ n ih =>
    unfold cnt at ih ⊢
    rw [List.range_succ, List.filter_append, List.length_append]
    by_cases e : n = x
    · subst e
      have : ((List.range n).filter fun k => decide (k = n)) = [] := List.filter_eq_nil_iff.2 fun k hk => by have := List.mem_range.1 hk; simp; omega
      rw [this]
      simp
    · have : ([n].filter fun k => decide (k = x)) = [] := by simp [e]
      rw [this]
      simpa using ih
theorem cnt_mem : ∀ (l : List Nat) (n : Nat), cnt (fun k => decide (k ∈ l)) n ≤ l.length
  | [], n => by simp [cnt]
  | x :: l, n => by
    have h1 := cnt_or (fun k => decide (k = x)) (fun k => decide (k ∈ l)) n
    have h2 := cnt_one x n
    have h3 := cnt_mem l n
    have h4 : cnt (fun k => decide (k ∈ x :: l)) n ≤ cnt (fun k => decide (k = x) || decide (k ∈ l)) n := cnt_mono fun k _ h => by simpa using h
    rw [List.length_cons]
    omega
theorem free_ex {n : Nat} {a : AA} (l : List Nat) (M : Nat) (hw : ∀ j, a.w j = true → j ∈ l) (hc : ∀ j, a.c j = true ∨ a.e j = true → j ∈ [0, 1]) (hm : cnt a.m n ≤ M) (hn : l.length + 2 + M < n) : (a.free n).length ≠ 0 := by
  have h0 := cnt_not a.held n
  have h1 : cnt a.held n ≤ cnt (fun k => decide (k ∈ l) || (decide (k ∈ [0, 1]) || a.m k)) n := cnt_mono fun k _ h => by
    unfold AA.held at h
    simp only [Bool.or_eq_true] at h
    simp only [Bool.or_eq_true, decide_eq_true_eq]
    rcases h with ((h | h) | h) | h
    · exact .inl (hw k h)
    · exact .inr (.inl (hc k (.inl h)))
    · exact .inr (.inl (hc k (.inr h)))
    · exact .inr (.inr h)
  have h2 := cnt_or (fun k => decide (k ∈ l)) (fun k => decide (k ∈ [0, 1]) || a.m k) n
  have h3 := cnt_or (fun k => decide (k ∈ [0, 1])) a.m n
  have h4 := cnt_mem l n
  have h5 := cnt_mem [0, 1] n
  simp only [List.length_cons, List.length_nil] at h5
  have : (a.free n).length = ((List.range n).filter fun k => !a.held k).length := rfl
  omega
abbrev Ls := S_dir_listed
def nm (x : Ls) : List Int := rn x.q.Name
def qOf (b : List Int) : S_api_Queue := queueOf (b.drop 8) (ix b 5).toNat
def dOf (b : List Int) : List Int := dirOf (b.drop 8) (ix b 5).toNat
def lastOk (out : List Ls) (q : S_api_Queue) : Prop := out = [] ∨ cmpL (rn ((ix out ((out.length - 1 : Nat) : Int)).q.Name)) (rn q.Name) < 0
instance (out : List Ls) (q : S_api_Queue) : Decidable (lastOk out q) := inferInstanceAs (Decidable (_ ∨ _))
def rdL (g : Int → List Int × Int) : List Int → List Ls → List Ls × Int
  | [], out => (out, 0)
  | at_ :: r, out => if (g at_).2 ≠ 0 then ([], (g at_).2) else if GetQ (g at_).1 ∧ lastOk out (qOf (g at_).1) then rdL g r (out ++ [⟨qOf (g at_).1, at_⟩]) else ([], 31)
def readP (g : Int → List Int × Int) (k : Int) : List Ls × Int :=
  if k = 0 then ([], 0) else if (g k).2 ≠ 0 then ([], (g k).2) else if GetD (g k).1 then rdL g (dOf (g k).1) [] else ([], 31)
theorem getd_bytes (d : Dev) (k : Int) : Bytes (readD d k).1 ∧ (readD d k).1.length ≤ 64 := by
  unfold readD
  split
  · split
    · exact ⟨by intro x hx; simp at hx, by simp⟩
    · refine ⟨octs_byt _, ?_⟩
      rw [octs_len]
      simp [lineC]
  · exact ⟨by intro x hx; simp at hx, by simp⟩
theorem getQ_name {b : List Int} (h : GetQ b) : NameOk (qOf b).Name ∧ (qOf b).Name.length ≤ 24 := by
  refine ⟨h.2.2.2.1.1, ?_⟩
  unfold qOf queueOf
  simp only [List.length_map]
  unfold part
  have := h.2.2.1
  rw [List.length_take]
  omega
theorem read_from {fu n m : Nat} {B : Int} {d : Dev} {a : AA} {t5 : S_api_Dir × Bool} (hfu : 3000 < fu) (h : DevOk m B d) (hm : m ≤ 100000) (hl : t5.1.Queues.length ≤ 16) :
    ∀ (k i : Nat) (out : List Ls), i ≤ t5.1.Queues.length → t5.1.Queues.length - i < k → out.length ≤ i → (∀ x ∈ out, x.q.Name.length ≤ 24) →
    (loopM (dir_read.s0 fu (SO n d a) t5) k (out, (i : Int))).bind (fun e9 => match e9 with | Sum.inl p => some p | Sum.inr x11 => some (x11, 0)) = some (rdL (readD d) (t5.1.Queues.drop i) out)
  | 0, i, out, _, h2, _, _ => by omega
  | k + 1, i, out, h1, h2, h3, h4 => by
    have hu : loopM (dir_read.s0 fu (SO n d a) t5) (k + 1) (out, (i : Int)) = (match dir_read.s0 fu (SO n d a) t5 (out, (i : Int)) with | none => none | some (.inl e) => some e | some (.inr s') => loopM (dir_read.s0 fu (SO n d a) t5) k s') := by
      conv => lhs; unfold loopM
      generalize dir_read.s0 fu (SO n d a) t5 (out, (i : Int)) = q
      rcases q with _ | _ | _ <;> rfl
    rw [hu]
    generalize hqs : t5.1.Queues = qs at *
    by_cases e : i < qs.length
    · have c0 : (i : Int) < (qs.length : Int) := by omega
      have c1 : 0 ≤ (i : Int) ∧ (i : Int) < (qs.length : Int) := by omega
      have w3 : IntKind.i64.wrap ((i : Int) + 1) = ((i + 1 : Nat) : Int) := by rw [w64 (by omega) (by omega)]; omega
      rw [List.drop_eq_getElem_cons e]
      generalize hat : qs[i] = at_
      obtain ⟨gb, gl⟩ := getd_bytes d at_
      have hgq : label_GetQueue.f fu (readD d at_).1 = some (if GetQ (readD d at_).1 then (qOf (readD d at_).1, true) else (noQ, false)) := queueGet_eq (by omega) gb (by omega)
      have hst : dir_read.s0 fu (SO n d a) t5 (out, (i : Int)) = if (readD d at_).2 ≠ 0 then some (.inl (.inl ([], (readD d at_).2))) else if GetQ (readD d at_).1 ∧ lastOk out (qOf (readD d at_).1) then some (.inr (out ++ [⟨qOf (readD d at_).1, at_⟩], ((i + 1 : Nat) : Int))) else some (.inl (.inl ([], 31))) := by
        unfold dir_read.s0
        simp only [hqs]
        rw [decide_eq_true c0, if_pos rfl, if_pos c1, ix_nat e, hat, sget_eq h hm (by omega), Option.bind_some]
        by_cases e1 : (readD d at_).2 = 0
        · rw [decide_eq_true e1, if_neg (by decide), if_neg (by simpa using e1), hgq, Option.bind_some]
          by_cases e2 : GetQ (readD d at_).1
          · have hn := getQ_name e2
            have hlim : out.length + ([(⟨qOf (readD d at_).1, at_⟩ : Ls)] : List Ls).length ≤ LIM := lim_of' (by simp; omega)
            rw [if_pos e2]
            simp only
            rw [if_neg (by decide)]
            by_cases e3 : out = []
            · rw [decide_eq_false (show ¬ ((out.length : Int) > 0) by rw [e3]; simp), if_neg (by decide), if_pos (show GetQ (readD d at_).1 ∧ lastOk out (qOf (readD d at_).1) from ⟨e2, .inl e3⟩), w3]
              exact if_pos hlim
            · have hp : 0 < out.length := List.length_pos_iff.2 e3
              have w4 : IntKind.i64.wrap ((out.length : Int) - 1) = ((out.length - 1 : Nat) : Int) := by rw [w64 (by omega) (by omega)]; omega
              have c3 : 0 ≤ ((out.length - 1 : Nat) : Int) ∧ ((out.length - 1 : Nat) : Int) < (out.length : Int) := by omega
              have hl1 : (ix out ((out.length - 1 : Nat) : Int)).q.Name.length ≤ 24 := by
                rw [ix_nat (show out.length - 1 < out.length by omega)]
                exact h4 _ (List.getElem_mem _)
              rw [decide_eq_true (show (out.length : Int) > 0 by omega), if_pos rfl, w4, if_pos c3, compare_eq (by omega) (by omega) (show (qOf (readD d at_).1).Name.length ≤ 300 by omega), Option.bind_some, w3]
              by_cases e4 : cmpL (rn (ix out ((out.length - 1 : Nat) : Int)).q.Name) (rn (qOf (readD d at_).1).Name) < 0
              · rw [decide_eq_false (show ¬ (cmpL (rn (ix out ((out.length - 1 : Nat) : Int)).q.Name) (rn (qOf (readD d at_).1).Name) ≥ 0) by omega), if_neg (by decide), if_pos (show GetQ (readD d at_).1 ∧ lastOk out (qOf (readD d at_).1) from ⟨e2, .inr e4⟩)]
                exact if_pos hlim
              · have hno : ¬ (GetQ (readD d at_).1 ∧ lastOk out (qOf (readD d at_).1)) := by
                  rintro ⟨_, hx | hx⟩
                  · exact e3 hx
                  · exact e4 hx
                rw [decide_eq_true (show cmpL (rn (ix out ((out.length - 1 : Nat) : Int)).q.Name) (rn (qOf (readD d at_).1).Name) ≥ 0 by omega), if_pos rfl, if_neg hno]
          · have hno : ¬ (GetQ (readD d at_).1 ∧ lastOk out (qOf (readD d at_).1)) := fun x => e2 x.1
            rw [if_neg hno, if_neg e2]
            rfl
        · rw [decide_eq_false e1, if_pos (by decide), if_pos (by simpa using e1)]
      rw [hst]
      conv => rhs; unfold rdL
      by_cases e1 : (readD d at_).2 ≠ 0
      · rw [if_pos e1, if_pos e1]
        rfl
      · rw [if_neg e1, if_neg e1]
        by_cases e2 : GetQ (readD d at_).1 ∧ lastOk out (qOf (readD d at_).1)
        · rw [if_pos e2, if_pos e2]
          have := read_from (fu := fu) (n := n) (a := a) (t5 := t5) hfu h hm (by rw [hqs]; omega) k (i + 1) (out ++ [⟨qOf (readD d at_).1, at_⟩]) (by rw [hqs]; omega) (by rw [hqs]; omega) (by simp; omega) (fun x hx => by
            rcases List.mem_append.1 hx with hx | hx
            · exact h4 x hx
            · rw [List.mem_singleton.1 hx]
              exact (getQ_name e2.1).2)
          rw [hqs] at this
          exact this
        · rw [if_neg e2, if_neg e2]
          rfl
    · have c0 : ¬ ((i : Int) < (qs.length : Int)) := by omega
      have hst : dir_read.s0 fu (SO n d a) t5 (out, (i : Int)) = some (.inl (.inr out)) := by
        unfold dir_read.s0
        simp only [hqs]
        rw [decide_eq_false c0, if_neg (by decide)]
      rw [hst, List.drop_of_length_le (show qs.length ≤ i by omega)]
      rfl
theorem getD_len {b : List Int} (h : GetD b) : (dOf b).length ≤ 16 := h.2.2.2.1.1.2
theorem readP_eq {fu n m : Nat} {B : Int} {d : Dev} {a : AA} (hfu : 3000 < fu) (h : DevOk m B d) (hm : m ≤ 100000) (k : Int) : dir_read.f fu (SO n d a) k = some (readP (readD d) k) := by
  unfold dir_read.f readP
  by_cases e : k = 0
  · rw [decide_eq_true e, if_pos rfl, if_pos e]
  · rw [decide_eq_false e, if_neg (by decide), if_neg e, sget_eq h hm (by omega), Option.bind_some]
    obtain ⟨gb, gl⟩ := getd_bytes d k
    by_cases e1 : (readD d k).2 = 0
    · rw [decide_eq_true e1, if_neg (by decide), if_neg (by simpa using e1), dirGet_eq gb (by omega) (by omega), Option.bind_some]
      by_cases e2 : GetD (readD d k).1
      · rw [if_pos e2, if_pos e2]
        have := read_from (fu := fu) (n := n) (a := a) (t5 := ((⟨dOf (readD d k).1⟩ : S_api_Dir), true)) hfu h hm (getD_len e2) fu 0 [] (by omega) (by have := getD_len e2; show (dOf (readD d k).1).length - 0 < fu; omega) (by simp) (fun x hx => by simp at hx)
        exact this
      · rw [if_neg e2, if_neg e2]
        rfl
    · rw [decide_eq_false e1, if_pos (by decide), if_pos (by simpa using e1)]
def queB (q : S_api_Queue) : List Int := sealed (summed 5 (q.Name.length : Int) (queueE q))
def dirB (l : List Int) : List Int := sealed (summed 6 (l.length : Int) (rowE l l.length))
theorem queB_len {q : S_api_Queue} (hs : q.Name.length ≤ 300) (h : QueueOk q) : (queB q).length = 64 := (queueGet_put (fu := 400) (Nat.le_refl _) hs h).2
theorem queB_bytes {q : S_api_Queue} (hs : q.Name.length ≤ 300) (h : QueueOk q) : Bytes (queB q) := by
  have := h.len hs
  exact sealed_bytes (summed_bytes (by omega) (by omega) (queueE_bytes q))
theorem queB_get {q : S_api_Queue} (hs : q.Name.length ≤ 300) (h : QueueOk q) : GetQ (queB q) ∧ qOf (queB q) = q := by
  have h1 := (queueGet_put (fu := 400) (Nat.le_refl _) hs h).1
  have h2 := queueGet_eq (fu := 400) (Nat.le_refl _) (queB_bytes hs h) (by rw [queB_len hs h]; omega)
  unfold queB at h2 ⊢
  rw [h1] at h2
  have h2 := Option.some.inj h2
  split at h2
  · rename_i hg
    exact ⟨hg, (Prod.ext_iff.1 h2).1.symm⟩
  · exact absurd (show true = false from (Prod.ext_iff.1 h2).2) (by decide)
theorem dirB_len {l : List Int} (h : DirOk l) : (dirB l).length = 64 := (dirGet_put (fu := 400) h (by omega)).2
theorem dirB_bytes {l : List Int} (h : DirOk l) : Bytes (dirB l) := by
  have := h.1
  exact sealed_bytes (summed_bytes (by omega) (by omega) (rowE_bytes _ _))
theorem dirB_get {l : List Int} (h : DirOk l) : GetD (dirB l) ∧ dOf (dirB l) = l := by
  have h1 := (dirGet_put (fu := 400) h (by omega)).1
  have h2 := dirGet_eq (fu := 400) (dirB_bytes h) (by rw [dirB_len h]; omega) (by omega)
  unfold dirB at h2 ⊢
  rw [h1] at h2
  have h2 := Option.some.inj h2
  split at h2
  · rename_i hg
    refine ⟨hg, ?_⟩
    have := (Prod.ext_iff.1 h2).1
    injection this with this
    exact this.symm
  · exact absurd (show true = false from (Prod.ext_iff.1 h2).2) (by decide)
def Sorted (L : List Ls) : Prop := L.Pairwise fun x y => cmpL (nm x) (nm y) < 0
theorem rdL_ok {g : Int → List Int × Int} : ∀ (L2 L1 : List Ls), Sorted (L1 ++ L2) → (∀ x ∈ L2, g x.at_ = (queB x.q, 0) ∧ QueueOk x.q ∧ x.q.Name.length ≤ 300) → rdL g (L2.map (·.at_)) L1 = (L1 ++ L2, 0)
  | [], L1, _, _ => by simp [rdL]
  | x :: L2, L1, hs, h => by
    obtain ⟨h1, h2, h3⟩ := h x List.mem_cons_self
    obtain ⟨g1, g2⟩ := queB_get h3 h2
    rw [List.map_cons]
    unfold rdL
    rw [h1, if_neg (by simp)]
    have hl : lastOk L1 (qOf (queB x.q)) := by
      rw [g2]
      by_cases e : L1 = []
      · exact .inl e
      · right
        have hp : 0 < L1.length := List.length_pos_iff.2 e
        rw [ix_nat (show L1.length - 1 < L1.length by omega)]
        unfold Sorted at hs
        rw [List.pairwise_append] at hs
        exact hs.2.2 _ (List.getElem_mem _) x List.mem_cons_self
    rw [if_pos ⟨g1, hl⟩]
    simp only [g2]
    have := rdL_ok L2 (L1 ++ [x]) (by rw [List.append_assoc]; exact hs) fun y hy => h y (List.mem_cons_of_mem _ hy)
    rw [List.append_assoc] at this
    exact this
theorem list_eq' {fu n m : Nat} {B : Int} {d : Dev} {a : AA} {k : Int} {L : List Ls} {e : Int} (hfu : 3000 < fu) (h : DevOk m B d) (hm : m ≤ 100000) (hr : readP (readD d) k = (L, e)) (hL : L.length ≤ 100) : dir_List.f fu (SO n d a) k = some (L.map (·.q), e) := by
  unfold dir_List.f
  rw [readP_eq hfu h hm, Option.bind_some, hr]
  have : loopM (dir_List.s0 fu (L, e)) fu (([] : List S_api_Queue), 0) = some (L.map (·.q)) := by
    refine loopM_run (S := fun j => ((L.take j).map (·.q), (j : Int))) L.length (by simp) (fun j hj => ?_) ?_ (by omega)
    · have w3 : IntKind.i64.wrap ((j : Int) + 1) = ((j + 1 : Nat) : Int) := by rw [w64 (by omega) (by omega)]; omega
      unfold dir_List.s0
      rw [decide_eq_true (show (j : Int) < (L.length : Int) by omega), if_pos rfl, if_pos (show 0 ≤ (j : Int) ∧ (j : Int) < (L.length : Int) by omega), if_pos (lim_of' (by simp; omega)), w3]
      simp only [ix_nat hj, List.take_add_one, List.getElem?_eq_getElem hj, Option.toList_some, List.map_append, List.map_cons, List.map_nil]
    · unfold dir_List.s0
      simp
  rw [this]
  rfl
def cAt (L : List Ls) (s : List UInt8) (i : Nat) : Int := cmpL (nm (ix L (i : Int))) (rn s)
theorem cAt_mono {L : List Ls} (hs : Sorted L) {s : List UInt8} {p q : Nat} (hp : p < L.length) (hq : q < p) (h : cAt L s p < 0) : cAt L s q < 0 := by
  unfold cAt at h ⊢
  rw [ix_nat hp] at h
  rw [ix_nat (by omega)]
  exact cmpL_trans (List.pairwise_iff_getElem.1 hs q p (by omega) hp hq) h
theorem shr1 (x : Nat) : shR .u64 (x : Int) 1 = ((x / 2 : Nat) : Int) := by
  unfold shR
  show Int.fdiv (x : Int) (2 ^ min ((1 : Int).toNat) 64) = _
  rw [show (2 : Int) ^ min ((1 : Int).toNat) 64 = 2 from by decide, Int.fdiv_eq_ediv_of_nonneg _ (by decide)]
  omega
theorem search_from {fu : Nat} (hfu : 3000 < fu) {L : List Ls} {s : List UInt8} (hl : L.length ≤ 100) (hn : ∀ x ∈ L, x.q.Name.length ≤ 300) (hs : s.length ≤ 300) (hS : Sorted L) : ∀ (k i j : Nat), i ≤ j → j ≤ L.length → j - i < k → (∀ q, q < i → cAt L s q < 0) → (∀ q, j ≤ q → q < L.length → 0 ≤ cAt L s q) →
    ∃ p : Nat, loopM (slices_BinarySearchFunc_dir_place_1.s0 fu L s) k ((i : Int), (j : Int)) = some (p : Int) ∧ p ≤ L.length ∧ (∀ q, q < p → cAt L s q < 0) ∧ (∀ q, p ≤ q → q < L.length → 0 ≤ cAt L s q)
  | 0, i, j, _, _, h, _, _ => by omega
  | k + 1, i, j, h1, h2, h3, h4, h5 => by
    have hu : loopM (slices_BinarySearchFunc_dir_place_1.s0 fu L s) (k + 1) ((i : Int), (j : Int)) = (match slices_BinarySearchFunc_dir_place_1.s0 fu L s ((i : Int), (j : Int)) with | none => none | some (.inl e) => some e | some (.inr s') => loopM (slices_BinarySearchFunc_dir_place_1.s0 fu L s) k s') := by
      conv => lhs; unfold loopM
      generalize slices_BinarySearchFunc_dir_place_1.s0 fu L s ((i : Int), (j : Int)) = q
      rcases q with _ | _ | _ <;> rfl
    rw [hu]
    by_cases e : i < j
    · have hmid : IntKind.i64.wrap (shR .u64 (IntKind.u64.wrap (IntKind.i64.wrap ((i : Int) + (j : Int)))) 1) = (((i + j) / 2 : Nat) : Int) := by
        rw [w64 (n := (i : Int) + (j : Int)) (by omega) (by omega), wu64 (by omega) (by omega), show (i : Int) + (j : Int) = ((i + j : Nat) : Int) by omega, shr1, w64 (by omega) (by omega)]
      have hm1 : (i + j) / 2 < j := by omega
      have hm2 : i ≤ (i + j) / 2 := by omega
      generalize hmm : (i + j) / 2 = m at hmid hm1 hm2
      have hml : m < L.length := by omega
      have w3 : IntKind.i64.wrap ((m : Int) + 1) = ((m + 1 : Nat) : Int) := by rw [w64 (by omega) (by omega)]; omega
      have hc : dir_place_1.f fu (ix L (m : Int)) s = some (cAt L s m) := by
        unfold dir_place_1.f
        rw [compare_eq (by omega) (by rw [ix_nat hml]; exact hn _ (List.getElem_mem _)) hs]
        rfl
      have hst : slices_BinarySearchFunc_dir_place_1.s0 fu L s ((i : Int), (j : Int)) = if cAt L s m < 0 then some (.inr (((m + 1 : Nat) : Int), (j : Int))) else some (.inr ((i : Int), (m : Int))) := by
        unfold slices_BinarySearchFunc_dir_place_1.s0
        simp only [hmid]
        rw [decide_eq_true (show (i : Int) < (j : Int) by omega), if_pos rfl, if_pos (show 0 ≤ (m : Int) ∧ (m : Int) < (L.length : Int) by omega), hc, Option.bind_some, w3]
        by_cases q : cAt L s m < 0
        · rw [decide_eq_true q, if_pos rfl, if_pos q]
          rfl
        · rw [decide_eq_false q, if_neg (by decide), if_neg q]
          rfl
      rw [hst]
      by_cases q : cAt L s m < 0
      · rw [if_pos q]
        exact search_from hfu hl hn hs hS k (m + 1) j (by omega) h2 (by omega) (fun x hx => by
          rcases Nat.lt_or_ge x m with y | y
          · exact cAt_mono hS hml y q
          · rw [show x = m by omega]
            exact q) h5
      · rw [if_neg q]
        refine search_from hfu hl hn hs hS k i m hm2 (by omega) (by omega) h4 (fun x hx hx2 => ?_)
        rcases Nat.eq_or_lt_of_le hx with y | y
        · rw [← y]
          omega
        · have := mt (cAt_mono (s := s) hS hx2 y) q
          omega
    · refine ⟨i, ?_, by omega, h4, fun q hq hq2 => h5 q (by omega) hq2⟩
      have hst : slices_BinarySearchFunc_dir_place_1.s0 fu L s ((i : Int), (j : Int)) = some (.inl (i : Int)) := by
        unfold slices_BinarySearchFunc_dir_place_1.s0
        rw [decide_eq_false (show ¬ (i : Int) < (j : Int) by omega), if_neg (by decide)]
      rw [hst]
theorem place_eq {fu : Nat} (hfu : 3000 < fu) {L : List Ls} {s : List UInt8} (hl : L.length ≤ 100) (hn : ∀ x ∈ L, x.q.Name.length ≤ 300) (hs : s.length ≤ 300) (hS : Sorted L) :
    ∃ p : Nat, dir_place.f fu L s = some ((p : Int), decide (p < L.length ∧ cAt L s p = 0)) ∧ p ≤ L.length ∧ (∀ q, q < p → cAt L s q < 0) ∧ (∀ q, p ≤ q → q < L.length → 0 ≤ cAt L s q) := by
  obtain ⟨p, h1, h2, h3, h4⟩ := search_from hfu hl hn hs hS fu 0 L.length (by omega) (by omega) (by omega) (fun q hq => by omega) (fun q h1 h2 => by omega)
  refine ⟨p, ?_, h2, h3, h4⟩
  unfold dir_place.f slices_BinarySearchFunc_dir_place_1.f
  have e : ((0 : Nat) : Int) = 0 := rfl
  rw [e] at h1
  rw [h1, Option.bind_some]
  by_cases q : p < L.length
  · have hc : dir_place_1.f fu (ix L (p : Int)) s = some (cAt L s p) := by
      unfold dir_place_1.f
      rw [compare_eq (by omega) (by rw [ix_nat q]; exact hn _ (List.getElem_mem _)) hs]
      rfl
    rw [decide_eq_true (show (p : Int) < (L.length : Int) by omega), if_pos rfl, if_pos (show 0 ≤ (p : Int) ∧ (p : Int) < (L.length : Int) by omega), hc]
    simp [q]
  · rw [decide_eq_false (show ¬ (p : Int) < (L.length : Int) by omega), if_neg (by decide)]
    simp [q]
theorem dirOk_iff {l : List Int} : DirOk l ↔ (1 ≤ l.length ∧ l.length ≤ 16) ∧ (∀ x ∈ l, numOk x) ∧ l.Nodup := by
  unfold DirOk
  constructor
  · rintro ⟨h1, h2⟩
    refine ⟨h1, fun x hx => ?_, ?_⟩
    · obtain ⟨j, hj, rfl⟩ := List.getElem_of_mem hx
      have := (h2 j hj).1
      rwa [ix_nat hj] at this
    · rw [List.nodup_iff_pairwise_ne, List.pairwise_iff_getElem]
      intro i j hi hj hij e
      have := (h2 j hj).2
      rw [ix_nat hj] at this
      exact this (List.mem_take_iff_getElem.2 ⟨i, by omega, e⟩)
  · rintro ⟨h1, h2, h3⟩
    refine ⟨h1, fun j hj => ⟨?_, ?_⟩⟩
    · rw [ix_nat hj]
      exact h2 _ (List.getElem_mem _)
    · rw [ix_nat hj]
      intro hm
      obtain ⟨i, hi, e⟩ := List.mem_take_iff_getElem.1 hm
      rw [List.nodup_iff_pairwise_ne, List.pairwise_iff_getElem] at h3
      exact h3 i j (by omega) hj (by omega) e
def ats (L : List Ls) : List Int := L.map (·.at_)
structure MS (n : Nat) (B : Int) (M : Nat) (d : Dev) (a : AA) (k : Nat) (L : List Ls) : Prop where
  so : SOk n B d a
  r : a.r = 0
  q : ∀ x ∈ L, ∃ j : Nat, x.at_ = (j : Int) ∧ j < n ∧ ln d j = queB x.q ∧ QueueOk x.q ∧ x.q.Name.length ≤ 300
  ok : L ≠ [] → DirOk (ats L)
  so' : Sorted L
  kn : k ≠ 0 → 2 ≤ k ∧ k < n
  w : ∀ j : Nat, a.w j = true ↔ j = 0 ∨ j = 1 ∨ (k ≠ 0 ∧ j = k) ∨ (j : Int) ∈ ats L
  kd : k ≠ 0 → (k : Int) ∉ ats L
  ce : ∀ j, a.c j = true ∨ a.e j = true → j ∈ [0, 1]
  m : cnt a.m n ≤ M
structure DS (n : Nat) (B : Int) (M : Nat) (d : Dev) (a : AA) (k : Nat) (L : List Ls) : Prop extends MS n B M d a k L where
  dir : (k = 0 ∧ L = []) ∨ (k ≠ 0 ∧ L ≠ [] ∧ ln d k = dirB (ats L))
def Keep (n : Nat) (a : AA) (d d' : Dev) : Prop := ∀ j, j < n → a.m j = true → ln d' j = ln d j
theorem MS.len {n : Nat} {B : Int} {M : Nat} {d : Dev} {a : AA} {k : Nat} {L : List Ls} (h : MS n B M d a k L) : L.length ≤ 16 := by
  by_cases e : L = []
  · subst e; simp
  · have := (h.ok e).1.2
    simpa [ats] using this
theorem MS.names {n : Nat} {B : Int} {M : Nat} {d : Dev} {a : AA} {k : Nat} {L : List Ls} (h : MS n B M d a k L) : ∀ x ∈ L, x.q.Name.length ≤ 300 := fun x hx => by
  obtain ⟨_, _, _, _, _, h⟩ := h.q x hx
  exact h
theorem MS.free {n : Nat} {B : Int} {M : Nat} {d : Dev} {a : AA} {k : Nat} {L : List Ls} (h : MS n B M d a k L) (hn : 21 + M < n) : (a.free n).length ≠ 0 := by
  refine free_ex ([0, 1, k] ++ (ats L).map Int.toNat) M (fun j hj => ?_) h.ce h.m ?_
  · rcases (h.w j).1 hj with e | e | ⟨_, e⟩ | e
    · simp [e]
    · simp [e]
    · simp [e]
    · rw [List.mem_append]
      right
      exact List.mem_map.2 ⟨(j : Int), e, by simp⟩
  · have := h.len
    simp [ats]
    omega
theorem readD_ln {n : Nat} {B : Int} {d : Dev} {a : AA} (h : SOk n B d a) {j : Nat} (hj : j < n) : readD d (j : Int) = (ln d j, 0) := read_clean h.cl (by have := h.len; omega)
theorem DS.read {n : Nat} {B : Int} {M : Nat} {d : Dev} {a : AA} {k : Nat} {L : List Ls} (h : DS n B M d a k L) : readP (readD d) (k : Int) = (L, 0) := by
  unfold readP
  rcases h.dir with ⟨rfl, rfl⟩ | ⟨h1, h2, h3⟩
  · rfl
  · have hk := h.kn h1
    obtain ⟨g1, g2⟩ := dirB_get (h.ok h2)
    rw [if_neg (by omega), readD_ln h.so hk.2, h3, if_neg (by simp), if_pos g1, g2]
    refine rdL_ok L [] h.so' fun x hx => ?_
    obtain ⟨j, e1, e2, e3, e4, e5⟩ := h.q x hx
    rw [e1, readD_ln h.so e2, e3]
    exact ⟨rfl, e4, e5⟩
theorem MS.up {n : Nat} {B C : Int} {M : Nat} {d : Dev} {a : AA} {k : Nat} {L : List Ls} (h : MS n B M d a k L) (hc : B ≤ C) : MS n C M d a k L := ⟨h.so.up hc, h.r, h.q, h.ok, h.so', h.kn, h.w, h.kd, h.ce, h.m⟩
theorem DS.up {n : Nat} {B C : Int} {M : Nat} {d : Dev} {a : AA} {k : Nat} {L : List Ls} (h : DS n B M d a k L) (hc : B ≤ C) : DS n C M d a k L := ⟨h.toMS.up hc, h.dir⟩
theorem held_w {a : AA} {j k : Nat} (h : a.held k = false) (hj : a.w j = true) : j ≠ k := fun e => by
  unfold AA.held at h
  rw [← e, hj] at h
  simp at h
theorem held_m {a : AA} {j k : Nat} (h : a.held k = false) (hj : a.m j = true) : j ≠ k := fun e => by
  unfold AA.held at h
  rw [← e, hj] at h
  simp at h
theorem layloop {fu : Nat} (hfu : 3000 < fu) {L : List Ls} (hL : L.length ≤ 16) : loopM (dir_lay.s0 fu L) fu (0, ([] : List Int)) = some (ats L) := by
  refine loopM_run (S := fun j => ((j : Int), ats (L.take j))) L.length (by simp [ats]) (fun j hj => ?_) ?_ (by omega)
  · have w3 : IntKind.i64.wrap ((j : Int) + 1) = ((j + 1 : Nat) : Int) := by rw [w64 (by omega) (by omega)]; omega
    unfold dir_lay.s0
    rw [decide_eq_true (show (j : Int) < (L.length : Int) by omega), if_pos rfl, if_pos (show 0 ≤ (j : Int) ∧ (j : Int) < (L.length : Int) by omega), if_pos (lim_of' (by simp [ats]; omega)), w3]
    simp only [ix_nat hj, List.take_add_one, List.getElem?_eq_getElem hj, Option.toList_some, ats, List.map_append, List.map_cons, List.map_nil]
  · unfold dir_lay.s0
    simp
theorem lay_ok {fu n : Nat} {B : Int} {M : Nat} {d : Dev} {a : AA} {k : Nat} {L : List Ls} (hfu : 3000 + n < fu) (h : MS n B M d a k L) (hB : B + 9 < 9223372036854775807) (hn : 21 + M < n ∧ n ≤ 3072) (h0 : L = [] → k ≠ 0) :
    ∃ (k' : Nat) (d' : Dev) (a' : AA), dir_lay.f fu (SO n d a) (k : Int) L = some ((k' : Int), 0, SO n d' a') ∧ DS n (B + 9) M d' a' k' L ∧ a'.m = a.m ∧ Keep n a d d' := by
  unfold dir_lay.f
  have hL := h.len
  by_cases e : L = []
  · subst e
    have hk := h.kn (h0 rfl)
    have hw : a.w k = true := (h.w k).2 (.inr (.inr (.inl ⟨h0 rfl, rfl⟩)))
    rw [decide_eq_true (show ((([] : List Ls).length : Nat) : Int) = 0 by rfl), if_pos rfl, drop_eq h.so.al (by omega) (by omega), give_line hk.2 hw, Option.bind_some]
    refine ⟨0, d, a.cut (k : Int), rfl, ⟨⟨⟨h.so.dev.up (by omega), h.so.cl, ?_⟩, h.r, fun x hx => by simp at hx, fun x => absurd rfl x, List.Pairwise.nil, fun x => absurd rfl x, fun j => ?_, fun x => absurd rfl x, h.ce, h.m⟩, .inl ⟨rfl, rfl⟩⟩, rfl, fun j _ _ => rfl⟩
    · have := give_ok (k := (k : Int)) h.so.al
      rw [give_line hk.2 hw] at this
      exact this
    · rw [cut_w, h.w j]
      constructor
      · rintro ⟨e | e | ⟨_, e⟩ | e, h2⟩
        · exact .inl e
        · exact .inr (.inl e)
        · exact absurd e h2
        · simp [ats] at e
      · rintro (e | e | ⟨e, _⟩ | e)
        · exact ⟨.inl e, by omega⟩
        · exact ⟨.inr (.inl e), by omega⟩
        · exact absurd rfl e
        · simp [ats] at e
  · have hok := h.ok e
    have hp := List.length_pos_iff.2 e
    have hal : (ats L).length = L.length := by simp [ats]
    rw [decide_eq_false (show ¬ ((L.length : Int) = 0) by omega), if_neg (by decide), layloop (by omega) hL, Option.bind_some, dirPut_eq (by omega), Option.bind_some, if_pos hok]
    simp only
    rw [if_neg (by decide)]
    have hmem : ∀ {x : Ls}, x ∈ L → ∀ {j : Nat}, x.at_ = (j : Int) → a.w j = true := fun {x} hx {j} hj => (h.w j).2 (.inr (.inr (.inr (by rw [← hj]; exact List.mem_map_of_mem hx))))
    by_cases e0 : k = 0
    · subst e0
      obtain ⟨k', d', e1, e2, W⟩ := make_line (b := dirB (ats L)) h.so (dirB_bytes hok) (dirB_len hok) h.r (h.free hn.1)
      have w0 := held_w e2 ((h.w 0).2 (.inl rfl))
      have w1 := held_w e2 ((h.w 1).2 (.inr (.inl rfl)))
      rw [decide_eq_true (show ((0 : Nat) : Int) = 0 by rfl), if_pos rfl, show sealed (summed 6 ((ats L).length : Int) (rowE (ats L) (ats L).length)) = dirB (ats L) from rfl, make_eq h.so.dev hB (by omega) (dirB_bytes hok) (by omega) h.so.al (by omega) (by omega), e1, Option.bind_some]
      have hnk : (k' : Int) ∉ ats L := fun hx => by
        obtain ⟨x, hx, hxe⟩ := List.mem_map.1 hx
        exact held_w e2 (hmem hx hxe) rfl
      refine ⟨k', d', a.put n k', rfl, ⟨⟨W.so, h.r, fun x hx => ?_, fun _ => hok, h.so', fun _ => ⟨by omega, W.lt⟩, fun j => ?_, fun _ => hnk, h.ce, h.m⟩, .inr ⟨by omega, e, W.new⟩⟩, rfl, fun j hj hm => W.old j hj (held_m e2 hm)⟩
      · obtain ⟨j, f1, f2, f3, f4, f5⟩ := h.q x hx
        exact ⟨j, f1, f2, by rw [W.old j f2 (held_w e2 (hmem hx f1)), f3], f4, f5⟩
      · rw [put_w W.lt, h.w j]
        constructor
        · rintro ((f | f | ⟨f, _⟩ | f) | f)
          · exact .inl f
          · exact .inr (.inl f)
          · exact absurd rfl f
          · exact .inr (.inr (.inr f))
          · exact .inr (.inr (.inl ⟨by omega, f⟩))
        · rintro (f | f | ⟨_, f⟩ | f)
          · exact .inl (.inl f)
          · exact .inl (.inr (.inl f))
          · exact .inr f
          · exact .inl (.inr (.inr (.inr f)))
    · have hk := h.kn e0
      have hw : a.w k = true := (h.w k).2 (.inr (.inr (.inl ⟨e0, rfl⟩)))
      obtain ⟨k', d', a', e1, W, hw', hor⟩ := turn_line (b := dirB (ats L)) h.so (dirB_bytes hok) (dirB_len hok) h.r (h.free hn.1) hk.2 hw
      have w0 : k' ≠ 0 := by
        rcases hor with ⟨f, _⟩ | ⟨_, f⟩
        · omega
        · exact fun g => held_w f ((h.w 0).2 (.inl rfl)) g.symm
      have w1 : k' ≠ 1 := by
        rcases hor with ⟨f, _⟩ | ⟨_, f⟩
        · omega
        · exact fun g => held_w f ((h.w 1).2 (.inr (.inl rfl))) g.symm
      have hnk : (k' : Int) ∉ ats L := fun hx => by
        rcases hor with ⟨f, _⟩ | ⟨_, f⟩
        · rw [f] at hx
          exact h.kd e0 hx
        · obtain ⟨x, hx, hxe⟩ := List.mem_map.1 hx
          exact held_w f (hmem hx hxe) rfl
      have hne : ∀ {x : Ls}, x ∈ L → ∀ {j : Nat}, x.at_ = (j : Int) → j ≠ k' := fun {x} hx {j} hj g => hnk (by rw [← g, ← hj]; exact List.mem_map_of_mem hx)
      rw [decide_eq_false (show ¬ ((k : Int) = 0) by omega), if_neg (by decide), show sealed (summed 6 ((ats L).length : Int) (rowE (ats L) (ats L).length)) = dirB (ats L) from rfl, turn_eq h.so.dev hB (by omega) (dirB_bytes hok) (by omega) h.so.al (by omega) (by omega), e1, Option.bind_some]
      refine ⟨k', d', a', rfl, ⟨⟨W.so, W.r.trans h.r, fun x hx => ?_, fun _ => hok, h.so', fun _ => ⟨by omega, W.lt⟩, fun j => ?_, fun _ => hnk, by rw [W.c, W.e]; exact h.ce, by rw [W.m]; exact h.m⟩, .inr ⟨by omega, e, W.new⟩⟩, W.m, fun j hj hm => W.old j hj fun g => ?_⟩
      · obtain ⟨j, f1, f2, f3, f4, f5⟩ := h.q x hx
        exact ⟨j, f1, f2, by rw [W.old j f2 (hne hx f1), f3], f4, f5⟩
      · rw [hw' j, h.w j]
        constructor
        · rintro (⟨f | f | ⟨_, f⟩ | f, f2⟩ | f)
          · exact .inl f
          · exact .inr (.inl f)
          · exact absurd f f2
          · exact .inr (.inr (.inr f))
          · exact .inr (.inr (.inl ⟨w0, f⟩))
        · rintro (f | f | ⟨_, f⟩ | f)
          · exact .inl ⟨.inl f, by omega⟩
          · exact .inl ⟨.inr (.inl f), by omega⟩
          · exact .inr f
          · refine .inl ⟨.inr (.inr (.inr f)), fun g => ?_⟩
            rw [g] at f
            exact h.kd e0 f
      · rcases hor with ⟨f, f2⟩ | ⟨_, f⟩
        · rw [g, f, f2] at hm
          cases hm
        · exact held_m f hm g
def inL' (L : List Ls) (s : List UInt8) : Prop := ∃ x ∈ L, x.q.Name = s
theorem cAt_zero {L : List Ls} {s : List UInt8} {p : Nat} (hn : ∀ x ∈ L, x.q.Name.length ≤ 300 ∧ NameOk x.q.Name) (hs : s.length ≤ 300) (hp : p < L.length) : cAt L s p = 0 ↔ L[p].q.Name = s := by
  unfold cAt nm
  rw [ix_nat hp]
  have hx := hn _ (List.getElem_mem hp)
  constructor
  · intro h
    exact name_same hx.1 hs hx.2 (cmpL_zero h)
  · intro h
    rw [h]
    exact cmpL_self _
structure At' (L : List Ls) (s : List UInt8) (p : Nat) : Prop where
  le : p ≤ L.length
  lo : ∀ q, q < p → cAt L s q < 0
  hi : ∀ q, p ≤ q → q < L.length → 0 ≤ cAt L s q
theorem At'.found {L : List Ls} {s : List UInt8} {p : Nat} (h : At' L s p) (hS : Sorted L) (hn : ∀ x ∈ L, x.q.Name.length ≤ 300 ∧ NameOk x.q.Name) (hs : s.length ≤ 300) : (p < L.length ∧ cAt L s p = 0) ↔ inL' L s := by
  constructor
  · rintro ⟨h1, h2⟩
    exact ⟨L[p], List.getElem_mem h1, (cAt_zero hn hs h1).1 h2⟩
  · rintro ⟨x, hx, e⟩
    obtain ⟨i, hi, rfl⟩ := List.getElem_of_mem hx
    have h0 := (cAt_zero hn hs hi).2 e
    have h1 : p ≤ i := by
      rcases Nat.lt_or_ge i p with q | q
      · have := h.lo i q
        omega
      · exact q
    rcases Nat.eq_or_lt_of_le h1 with q | q
    · subst q
      exact ⟨hi, h0⟩
    · have h2 := h.hi p (Nat.le_refl _) (by omega)
      have h3 := List.pairwise_iff_getElem.1 hS p i (by omega) hi q
      unfold cAt at h0 h2
      rw [ix_nat (by omega)] at h0 h2
      rw [← cmpL_zero h0] at h2
      omega
theorem At'.ins {L : List Ls} {x : Ls} {p : Nat} (h : At' L x.q.Name p) (hS : Sorted L) (hno : ∀ q, p ≤ q → q < L.length → cAt L x.q.Name q ≠ 0) : Sorted (L.take p ++ x :: L.drop p) := by
  unfold Sorted at hS ⊢
  have hlt : ∀ y ∈ L.take p, cmpL (nm y) (nm x) < 0 := fun y hy => by
    obtain ⟨i, hi, e⟩ := List.mem_take_iff_getElem.1 hy
    have := h.lo i (by omega)
    unfold cAt at this
    rw [ix_nat (by omega)] at this
    rw [← e]
    exact this
  have hgt : ∀ y ∈ L.drop p, cmpL (nm x) (nm y) < 0 := fun y hy => by
    obtain ⟨i, hi, e⟩ := List.getElem_of_mem hy
    rw [List.getElem_drop] at e
    rw [List.length_drop] at hi
    have h1 := h.hi (p + i) (by omega) (by omega)
    have h2 := hno (p + i) (by omega) (by omega)
    unfold cAt at h1 h2
    rw [ix_nat (show p + i < L.length by omega), e] at h1 h2
    have := cmpL_swap (nm y) (nm x)
    unfold nm at this h1 h2 ⊢
    omega
  rw [List.pairwise_append]
  refine ⟨hS.sublist (List.take_sublist _ _), List.pairwise_cons.2 ⟨hgt, hS.sublist (List.drop_sublist _ _)⟩, fun y hy z hz => ?_⟩
  rcases List.mem_cons.1 hz with rfl | hz
  · exact hlt y hy
  · exact cmpL_trans (hlt y hy) (hgt z hz)
theorem MS.nameOk {n : Nat} {B : Int} {M : Nat} {d : Dev} {a : AA} {k : Nat} {L : List Ls} (h : MS n B M d a k L) : ∀ x ∈ L, x.q.Name.length ≤ 300 ∧ NameOk x.q.Name := fun x hx => by
  obtain ⟨_, _, _, _, h1, h⟩ := h.q x hx
  exact ⟨h, h1.1⟩
theorem MS.place {fu n : Nat} {B : Int} {M : Nat} {d : Dev} {a : AA} {k : Nat} {L : List Ls} (hfu : 3000 < fu) (h : MS n B M d a k L) {s : List UInt8} (hs : s.length ≤ 300) :
    ∃ p : Nat, dir_place.f fu L s = some ((p : Int), decide (p < L.length ∧ cAt L s p = 0)) ∧ At' L s p := by
  obtain ⟨p, h1, h2, h3, h4⟩ := place_eq hfu (L := L) (s := s) (by have := h.len; omega) h.names hs h.so'
  exact ⟨p, h1, h2, h3, h4⟩
def newQ (s : List UInt8) : S_api_Queue := ⟨s, 0, Arr.rep 12 (0 : Int)⟩
theorem newQ_ok {s : List UInt8} : QueueOk (newQ s) ↔ NameOk s := by
  unfold QueueOk newQ
  constructor
  · exact fun h => h.1
  · refine fun h => ⟨h, ⟨Int.le_refl _, by show (0 : Int) ≤ 4095; decide⟩, fun i hi => ?_⟩
    unfold rootOk
    have : ((0 : Int).toNat / 2 ^ i % 2) = 0 := by simp
    rw [this]
    refine ⟨fun _ => ?_, fun e => by omega⟩
    have e : (Arr.rep 12 (0 : Int)).l = List.replicate 12 0 := rfl
    show ix (Arr.rep 12 (0 : Int)).l (i : Int) = 0
    rw [e, ix_nat (by simpa using hi), List.getElem_replicate]
theorem add_ok {fu n : Nat} {B : Int} {M : Nat} {d : Dev} {a : AA} {k : Nat} {L : List Ls} {s : List UInt8} (hfu : 3000 + n < fu) (h : DS n B M d a k L) (hB : B + 18 < 9223372036854775807) (hn : 21 + M < n ∧ n ≤ 3072) (hs : s.length ≤ 300) :
    (¬ NameOk s ∧ dir_Add.f fu (SO n d a) (k : Int) s = some (0, 14, SO n d a)) ∨ (NameOk s ∧ inL' L s ∧ dir_Add.f fu (SO n d a) (k : Int) s = some (0, 16, SO n d a)) ∨ (NameOk s ∧ ¬ inL' L s ∧ L.length = 16 ∧ dir_Add.f fu (SO n d a) (k : Int) s = some (0, 20, SO n d a)) ∨
    (NameOk s ∧ ¬ inL' L s ∧ L.length < 16 ∧ ∃ (p k' : Nat) (at_ : Int) (d' : Dev) (a' : AA), dir_Add.f fu (SO n d a) (k : Int) s = some ((k' : Int), 0, SO n d' a') ∧ At' L s p ∧ DS n (B + 18) M d' a' k' (L.take p ++ ⟨newQ s, at_⟩ :: L.drop p) ∧ a'.m = a.m ∧ Keep n a d d') := by
  have hrd : dir_read.f fu (SO n d a) (k : Int) = some (L, 0) := by rw [readP_eq (by omega) h.so.dev (by omega), h.read]
  obtain ⟨p, hp, hat⟩ := h.toMS.place (fu := fu) (by omega) hs
  have hL := h.len
  unfold dir_Add.f
  rw [hrd]
  simp only [Option.bind_some, decide_true, Bool.not_true, Bool.false_eq_true, if_false]
  rw [show (⟨s, (0 : Int), (Arr.rep 12 (0 : Int))⟩ : S_api_Queue) = newQ s from rfl, queuePut_eq (by omega) hs, Option.bind_some]
  by_cases e1 : NameOk s
  · have hq := newQ_ok.2 e1
    rw [if_pos hq, hp]
    simp only [Option.bind_some, Bool.not_true, Bool.false_eq_true, if_false]
    rw [show sealed (summed 5 ((newQ s).Name.length : Int) (queueE (newQ s))) = queB (newQ s) from rfl]
    have hfd := hat.found h.so' h.nameOk hs
    by_cases e2 : p < L.length ∧ cAt L s p = 0
    · rw [decide_eq_true e2, if_pos rfl]
      exact .inr (.inl ⟨e1, hfd.1 e2, rfl⟩)
    · have hno := mt hfd.2 e2
      rw [decide_eq_false e2, if_neg (by decide)]
      by_cases e3 : L.length = 16
      · rw [decide_eq_true (show (L.length : Int) = 16 by omega), if_pos rfl]
        exact .inr (.inr (.inl ⟨e1, hno, e3, rfl⟩))
      · refine .inr (.inr (.inr ⟨e1, hno, by omega, ?_⟩))
        obtain ⟨j, d1, f1, f2, W⟩ := make_line (b := queB (newQ s)) h.so (queB_bytes hs hq) (queB_len hs hq) h.r (h.toMS.free hn.1)
        rw [decide_eq_false (show ¬ ((L.length : Int) = 16) by omega), if_neg (by decide), make_eq h.so.dev (by omega) (by omega) (queB_bytes hs hq) (by omega) h.so.al (by omega) (by omega), f1]
        simp only [Option.bind_some, decide_true, Bool.not_true, Bool.false_eq_true, if_false]
        have hins : slices_Insert.f fu L (p : Int) [(⟨newQ s, (j : Int)⟩ : Ls)] = some (L.take p ++ ⟨newQ s, (j : Int)⟩ :: L.drop p) := by
          unfold slices_Insert.f
          rw [if_pos ⟨⟨by omega, by have := hat.le; omega⟩, rfl, lim_of' (by omega)⟩, Int.toNat_natCast]
          rfl
        rw [hins, Option.bind_some]
        have w0 := held_w f2 ((h.w 0).2 (.inl rfl))
        have w1 := held_w f2 ((h.w 1).2 (.inr (.inl rfl)))
        have hmem : ∀ {x : Ls}, x ∈ L → ∀ {j : Nat}, x.at_ = (j : Int) → a.w j = true := fun {x} hx {j} hj => (h.w j).2 (.inr (.inr (.inr (by rw [← hj]; exact List.mem_map_of_mem hx))))
        have hjn : (j : Int) ∉ ats L := fun hx => by
          obtain ⟨x, hx, hxe⟩ := List.mem_map.1 hx
          exact held_w f2 (hmem hx hxe) rfl
        have hmL : ∀ {x : Ls}, x ∈ L.take p ++ ⟨newQ s, (j : Int)⟩ :: L.drop p ↔ x = ⟨newQ s, (j : Int)⟩ ∨ x ∈ L := fun {x} => by
          conv => rhs; rw [← List.take_append_drop p L]
          simp only [List.mem_append, List.mem_cons]
          constructor
          · rintro (g | g | g)
            · exact .inr (.inl g)
            · exact .inl g
            · exact .inr (.inr g)
          · rintro (g | g | g)
            · exact .inr (.inl g)
            · exact .inl g
            · exact .inr (.inr g)
        have hma : ∀ {i : Int}, i ∈ ats (L.take p ++ ⟨newQ s, (j : Int)⟩ :: L.drop p) ↔ i = (j : Int) ∨ i ∈ ats L := fun {i} => by
          unfold ats
          rw [List.mem_map, List.mem_map]
          constructor
          · rintro ⟨x, hx, e⟩
            rcases hmL.1 hx with rfl | hx
            · exact .inl e.symm
            · exact .inr ⟨x, hx, e⟩
          · rintro (e | ⟨x, hx, e⟩)
            · exact ⟨_, hmL.2 (.inl rfl), e.symm⟩
            · exact ⟨x, hmL.2 (.inr hx), e⟩
        have hMS : MS n (B + 9) M d1 (a.put n j) k (L.take p ++ ⟨newQ s, (j : Int)⟩ :: L.drop p) := by
          refine ⟨W.so, h.r, fun x hx => ?_, fun _ => ?_, hat.ins (x := ⟨newQ s, (j : Int)⟩) h.so' (fun q hq hq2 => ?_), h.kn, fun i => ?_, fun hk hx => ?_, h.ce, h.m⟩
          · rcases hmL.1 hx with rfl | hx
            · exact ⟨j, rfl, W.lt, W.new, hq, hs⟩
            · obtain ⟨i, g1, g2, g3, g4, g5⟩ := h.q x hx
              exact ⟨i, g1, g2, by rw [W.old i g2 (held_w f2 (hmem hx g1)), g3], g4, g5⟩
          · rw [dirOk_iff]
            have hlen : (ats (L.take p ++ ⟨newQ s, (j : Int)⟩ :: L.drop p)).length = L.length + 1 := by
              have := hat.le
              simp [ats]
              omega
            have hperm : (ats (L.take p ++ ⟨newQ s, (j : Int)⟩ :: L.drop p)).Nodup := by
              have hnd : (ats L).Nodup := by
                by_cases q : L = []
                · subst q; simp [ats]
                · exact (dirOk_iff.1 (h.ok q)).2.2
              unfold ats at hnd hjn ⊢
              have e : (L.take p ++ (⟨newQ s, (j : Int)⟩ : Ls) :: L.drop p).Perm ((⟨newQ s, (j : Int)⟩ : Ls) :: L) := by
                have := List.perm_middle (a := (⟨newQ s, (j : Int)⟩ : Ls)) (l₁ := L.take p) (l₂ := L.drop p)
                rwa [List.take_append_drop] at this
              rw [(e.map _).nodup_iff]
              exact List.nodup_cons.2 ⟨hjn, hnd⟩
            refine ⟨⟨by omega, by omega⟩, fun x hx => ?_, hperm⟩
            rcases hma.1 hx with rfl | hx
            · unfold numOk
              have := W.lt
              omega
            · have : L ≠ [] := fun q => by subst q; simp [ats] at hx
              exact (dirOk_iff.1 (h.ok this)).2.1 x hx
          · intro g
            exact hno ⟨L[q], List.getElem_mem hq2, (cAt_zero h.nameOk hs hq2).1 g⟩
          · rw [put_w W.lt, h.w i, hma]
            constructor
            · rintro ((g | g | g | g) | g)
              · exact .inl g
              · exact .inr (.inl g)
              · exact .inr (.inr (.inl g))
              · exact .inr (.inr (.inr (.inr g)))
              · exact .inr (.inr (.inr (.inl (by omega))))
            · rintro (g | g | g | g | g)
              · exact .inl (.inl g)
              · exact .inl (.inr (.inl g))
              · exact .inl (.inr (.inr (.inl g)))
              · exact .inr (by omega)
              · exact .inl (.inr (.inr (.inr g)))
          · rcases hma.1 hx with g | g
            · exact held_w f2 ((h.w k).2 (.inr (.inr (.inl ⟨hk, rfl⟩)))) (by omega)
            · exact h.kd hk g
        obtain ⟨k', d', a', g1, g2, g3, g4⟩ := lay_ok hfu hMS (by omega) hn (fun q => by simp at q)
        rw [g1]
        refine ⟨p, k', (j : Int), d', a', rfl, hat, g2.up (by omega), g3, fun i hi hm => ?_⟩
        rw [g4 i hi hm, W.old i hi (held_m f2 hm)]
  · rw [if_neg (mt newQ_ok.1 e1)]
    exact .inl ⟨e1, rfl⟩
theorem MS.rest {n : Nat} {B : Int} {M : Nat} {d : Dev} {a : AA} {k : Nat} {L : List Ls} (h : MS n B M d a k L) {p : Nat} (hp : p < L.length) {j : Nat} (hj : L[p].at_ = (j : Int)) : MS n B M d (a.cut (j : Int)) k (L.take p ++ L.drop (p + 1)) := by
  have hmL : ∀ {x : Ls}, x ∈ L ↔ x = L[p] ∨ x ∈ L.take p ++ L.drop (p + 1) := fun {x} => by
    have e : L = L.take p ++ (L[p] :: L.drop (p + 1)) := by rw [← List.drop_eq_getElem_cons hp, List.take_append_drop]
    conv => lhs; rw [e]
    simp only [List.mem_append, List.mem_cons]
    constructor
    · rintro (g | g | g)
      · exact .inr (.inl g)
      · exact .inl g
      · exact .inr (.inr g)
    · rintro (g | g | g)
      · exact .inr (.inl g)
      · exact .inl g
      · exact .inr (.inr g)
  have hsub : (L.take p ++ L.drop (p + 1)).Sublist L := by
    have e : L = L.take p ++ (L[p] :: L.drop (p + 1)) := by rw [← List.drop_eq_getElem_cons hp, List.take_append_drop]
    conv => rhs; rw [e]
    exact (List.Sublist.refl _).append (List.sublist_cons_self _ _)
  have hok := dirOk_iff.1 (h.ok (fun e => by subst e; simp at hp))
  have hjL : (j : Int) ∈ ats L := by rw [← hj]; exact List.mem_map_of_mem (List.getElem_mem hp)
  have hjw : a.w j = true := (h.w j).2 (.inr (.inr (.inr hjL)))
  have hj2 := hok.2.1 _ hjL
  unfold numOk at hj2
  have hjn : (j : Int) ∉ ats (L.take p ++ L.drop (p + 1)) := fun hx => by
    have hnd := hok.2.2
    have e : L = L.take p ++ (L[p] :: L.drop (p + 1)) := by rw [← List.drop_eq_getElem_cons hp, List.take_append_drop]
    unfold ats at hnd hx
    rw [e, (List.perm_middle.map _).nodup_iff] at hnd
    rw [List.map_cons, List.nodup_cons] at hnd
    rw [← hj] at hx
    exact hnd.1 hx
  have hma : ∀ {i : Int}, i ∈ ats L ↔ i = (j : Int) ∨ i ∈ ats (L.take p ++ L.drop (p + 1)) := fun {i} => by
    unfold ats
    rw [List.mem_map, List.mem_map]
    constructor
    · rintro ⟨x, hx, e⟩
      rcases hmL.1 hx with rfl | hx
      · exact .inl (by rw [← e, hj])
      · exact .inr ⟨x, hx, e⟩
    · rintro (e | ⟨x, hx, e⟩)
      · exact ⟨_, hmL.2 (.inl rfl), by rw [hj, e]⟩
      · exact ⟨x, hmL.2 (.inr hx), e⟩
  have hjlt : j < n := h.so.al.w j hjw
  refine ⟨⟨h.so.dev, h.so.cl, ?_⟩, h.r, fun x hx => h.q x (hsub.subset hx), fun hne => ?_, h.so'.sublist hsub, h.kn, fun i => ?_, fun hk hx => h.kd hk (hma.2 (.inr hx)), h.ce, h.m⟩
  · have := give_ok (k := (j : Int)) h.so.al
    rw [give_line hjlt hjw] at this
    exact this
  · refine dirOk_iff.2 ⟨⟨?_, ?_⟩, fun x hx => hok.2.1 x (hma.2 (.inr hx)), hok.2.2.sublist (hsub.map _)⟩
    · have := List.length_pos_iff.2 hne
      simp only [ats, List.length_map]
      omega
    · have := hok.1.2
      have := hsub.length_le
      simp only [ats, List.length_map] at *
      omega
  · rw [cut_w, h.w i, hma]
    constructor
    · rintro ⟨g | g | g | g | g, g2⟩
      · exact .inl g
      · exact .inr (.inl g)
      · exact .inr (.inr (.inl g))
      · exact absurd g (by omega)
      · exact .inr (.inr (.inr g))
    · rintro (g | g | g | g)
      · exact ⟨.inl g, by omega⟩
      · exact ⟨.inr (.inl g), by omega⟩
      · refine ⟨.inr (.inr (.inl g)), fun e => h.kd g.1 ?_⟩
        rw [← g.2, e]
        exact hjL
      · refine ⟨.inr (.inr (.inr (.inr g))), fun e => hjn ?_⟩
        rw [← e]
        exact g
theorem remove_ok {fu n : Nat} {B : Int} {M : Nat} {d : Dev} {a : AA} {k : Nat} {L : List Ls} {s : List UInt8} (hfu : 3000 + n < fu) (h : DS n B M d a k L) (hB : B + 18 < 9223372036854775807) (hn : 21 + M < n ∧ n ≤ 3072) (hs : s.length ≤ 300) :
    (¬ inL' L s ∧ dir_Remove.f fu (SO n d a) (k : Int) s = some (0, 15, SO n d a)) ∨ ∃ (p : Nat) (hp : p < L.length), L[p].q.Name = s ∧ At' L s p ∧ ((L[p].q.Count ≠ 0 ∧ dir_Remove.f fu (SO n d a) (k : Int) s = some (0, 19, SO n d a)) ∨
      (L[p].q.Count = 0 ∧ ∃ (k' : Nat) (d' : Dev) (a' : AA), dir_Remove.f fu (SO n d a) (k : Int) s = some ((k' : Int), 0, SO n d' a') ∧ DS n (B + 18) M d' a' k' (L.take p ++ L.drop (p + 1)) ∧ a'.m = a.m ∧ Keep n a d d')) := by
  have hrd : dir_read.f fu (SO n d a) (k : Int) = some (L, 0) := by rw [readP_eq (by omega) h.so.dev (by omega), h.read]
  obtain ⟨p, hp, hat⟩ := h.toMS.place (fu := fu) (by omega) hs
  have hL := h.len
  have hfd := hat.found h.so' h.nameOk hs
  unfold dir_Remove.f
  rw [hrd]
  simp only [Option.bind_some, decide_true, Bool.not_true, Bool.false_eq_true, if_false]
  rw [hp]
  simp only [Option.bind_some]
  by_cases e2 : p < L.length ∧ cAt L s p = 0
  · have hpl := e2.1
    rw [decide_eq_true e2]
    simp only [Bool.not_true, Bool.false_eq_true, if_false]
    refine .inr ⟨p, hpl, (cAt_zero h.nameOk hs hpl).1 e2.2, hat, ?_⟩
    have c1 : 0 ≤ (p : Int) ∧ (p : Int) < (L.length : Int) := by omega
    rw [if_pos c1, if_pos c1, ix_nat hpl]
    by_cases e3 : L[p].q.Count = 0
    · right
      refine ⟨e3, ?_⟩
      obtain ⟨j, f1, f2, f3, f4, f5⟩ := h.q _ (List.getElem_mem hpl)
      have hjw : a.w j = true := (h.w j).2 (.inr (.inr (.inr (by rw [← f1]; exact List.mem_map_of_mem (List.getElem_mem hpl)))))
      have w3 : IntKind.i64.wrap ((p : Int) + 1) = (p : Int) + 1 := w64 (by omega) (by omega)
      have hdel : slices_Delete.f fu L (p : Int) ((p : Int) + 1) = some (L.take p ++ L.drop (p + 1)) := by
        unfold slices_Delete.f
        rw [if_pos ⟨c1, rfl, by have : (16 : Nat) ≤ LIM := by decide
                                omega⟩, Int.toNat_natCast]
      rw [decide_eq_true e3]
      simp only [Bool.not_true, Bool.false_eq_true, if_false]
      rw [f1, drop_eq h.so.al (by omega) (by omega), give_line f2 hjw]
      simp only [Option.bind_some, decide_true, Bool.not_true, Bool.false_eq_true, if_false]
      rw [w3, hdel, Option.bind_some]
      have hne : L ≠ [] := fun e => by subst e; simp at hpl
      obtain ⟨k', d', a', g1, g2, g3, g4⟩ := lay_ok hfu (h.toMS.rest hpl f1) (by omega) hn (fun _ => by
        rcases h.dir with ⟨_, q⟩ | ⟨q, _⟩
        · exact absurd q hne
        · exact q)
      rw [g1]
      exact ⟨k', d', a', rfl, g2.up (by omega), g3, g4⟩
    · left
      refine ⟨e3, ?_⟩
      rw [decide_eq_false e3]
      rfl
  · left
    rw [decide_eq_false e2]
    exact ⟨mt hfd.2 e2, rfl⟩
theorem find_ok {fu n : Nat} {B : Int} {M : Nat} {d : Dev} {a : AA} {k : Nat} {L : List Ls} {s : List UInt8} (hfu : 3000 + n < fu) (h : DS n B M d a k L) (hn : n ≤ 3072) (hs : s.length ≤ 300) :
    (¬ inL' L s ∧ dir_Find.f fu (SO n d a) (k : Int) s = some (newQ [], 15)) ∨ ∃ (p : Nat) (hp : p < L.length), L[p].q.Name = s ∧ At' L s p ∧ dir_Find.f fu (SO n d a) (k : Int) s = some (L[p].q, 0) := by
  have hrd : dir_read.f fu (SO n d a) (k : Int) = some (L, 0) := by rw [readP_eq (by omega) h.so.dev (by omega), h.read]
  obtain ⟨p, hp, hat⟩ := h.toMS.place (fu := fu) (by omega) hs
  have hL := h.len
  have hfd := hat.found h.so' h.nameOk hs
  unfold dir_Find.f
  rw [hrd]
  simp only [Option.bind_some, decide_true, Bool.not_true, Bool.false_eq_true, if_false]
  rw [hp]
  simp only [Option.bind_some]
  by_cases e2 : p < L.length ∧ cAt L s p = 0
  · have hpl := e2.1
    rw [decide_eq_true e2]
    simp only [Bool.not_true, Bool.false_eq_true, if_false]
    refine .inr ⟨p, hpl, (cAt_zero h.nameOk hs hpl).1 e2.2, hat, ?_⟩
    rw [if_pos (show 0 ≤ (p : Int) ∧ (p : Int) < (L.length : Int) by omega), ix_nat hpl]
  · left
    rw [decide_eq_false e2]
    exact ⟨mt hfd.2 e2, rfl⟩
theorem MS.join {n : Nat} {B C : Int} {M : Nat} {d d1 : Dev} {a a1 : AA} {k : Nat} {L1 L2 : List Ls} (h : MS n B M d a k (L1 ++ L2)) (y : Ls) (j : Nat) (hy : y.at_ = (j : Int)) (so : SOk n C d1 a1) (hn : n ≤ 3072)
    (hr : a1.r = a.r) (hm : a1.m = a.m) (hc : a1.c = a.c) (he : a1.e = a.e) (hw : ∀ i, a1.w i = true ↔ a.w i = true ∨ i = j) (hj : a.w j ≠ true) (hjn : 2 ≤ j ∧ j < n) (hnew : ln d1 j = queB y.q) (hold : ∀ i, i < n → i ≠ j → ln d1 i = ln d i)
    (hq : QueueOk y.q) (hs : y.q.Name.length ≤ 300) (hS : Sorted (L1 ++ y :: L2)) (hlen : (L1 ++ L2).length < 16) : MS n C M d1 a1 k (L1 ++ y :: L2) := by
  have hmem : ∀ {x : Ls}, x ∈ L1 ++ L2 → ∀ {i : Nat}, x.at_ = (i : Int) → a.w i = true := fun {x} hx {i} hi => (h.w i).2 (.inr (.inr (.inr (by rw [← hi]; exact List.mem_map_of_mem hx))))
  have hjL : (j : Int) ∉ ats (L1 ++ L2) := fun hx => by
    obtain ⟨x, hx, hxe⟩ := List.mem_map.1 hx
    exact hj (hmem hx hxe)
  have hmL : ∀ {x : Ls}, x ∈ L1 ++ y :: L2 ↔ x = y ∨ x ∈ L1 ++ L2 := fun {x} => by
    simp only [List.mem_append, List.mem_cons]
    constructor
    · rintro (g | g | g)
      · exact .inr (.inl g)
      · exact .inl g
      · exact .inr (.inr g)
    · rintro (g | g | g)
      · exact .inr (.inl g)
      · exact .inl g
      · exact .inr (.inr g)
  have hma : ∀ {i : Int}, i ∈ ats (L1 ++ y :: L2) ↔ i = (j : Int) ∨ i ∈ ats (L1 ++ L2) := fun {i} => by
    unfold ats
    rw [List.mem_map, List.mem_map]
    constructor
    · rintro ⟨x, hx, e⟩
      rcases hmL.1 hx with rfl | hx
      · exact .inl (by rw [← e, hy])
      · exact .inr ⟨x, hx, e⟩
    · rintro (e | ⟨x, hx, e⟩)
      · exact ⟨_, hmL.2 (.inl rfl), by rw [hy, e]⟩
      · exact ⟨x, hmL.2 (.inr hx), e⟩
  refine ⟨so, hr.trans h.r, fun x hx => ?_, fun _ => ?_, hS, h.kn, fun i => ?_, fun hk hx => ?_, by rw [hc, he]; exact h.ce, by rw [hm]; exact h.m⟩
  · rcases hmL.1 hx with rfl | hx
    · exact ⟨j, hy, hjn.2, hnew, hq, hs⟩
    · obtain ⟨i, g1, g2, g3, g4, g5⟩ := h.q x hx
      refine ⟨i, g1, g2, ?_, g4, g5⟩
      rw [hold i g2 fun e => ?_, g3]
      rw [e] at g1
      exact hj (hmem hx g1)
  · rw [dirOk_iff]
    have hl : (ats (L1 ++ y :: L2)).length = (L1 ++ L2).length + 1 := by
      simp [ats]
      omega
    have hnd : (ats (L1 ++ L2)).Nodup := by
      by_cases q : L1 ++ L2 = []
      · rw [q]; simp [ats]
      · exact (dirOk_iff.1 (h.ok q)).2.2
    refine ⟨⟨by omega, by omega⟩, fun x hx => ?_, ?_⟩
    · rcases hma.1 hx with rfl | hx
      · unfold numOk
        omega
      · have : L1 ++ L2 ≠ [] := fun q => by rw [q] at hx; simp [ats] at hx
        exact (dirOk_iff.1 (h.ok this)).2.1 x hx
    · unfold ats at hnd hjL ⊢
      rw [((List.perm_middle (a := y) (l₁ := L1) (l₂ := L2)).map _).nodup_iff, List.map_cons, hy]
      exact List.nodup_cons.2 ⟨hjL, hnd⟩
  · rw [hw i, h.w i, hma]
    constructor
    · rintro ((g | g | g | g) | g)
      · exact .inl g
      · exact .inr (.inl g)
      · exact .inr (.inr (.inl g))
      · exact .inr (.inr (.inr (.inr g)))
      · exact .inr (.inr (.inr (.inl (by omega))))
    · rintro (g | g | g | g | g)
      · exact .inl (.inl g)
      · exact .inl (.inr (.inl g))
      · exact .inl (.inr (.inr (.inl g)))
      · exact .inr (by omega)
      · exact .inl (.inr (.inr (.inr g)))
  · rcases hma.1 hx with g | g
    · have e : k = j := by omega
      exact hj (by rw [← e]; exact (h.w k).2 (.inr (.inr (.inl ⟨hk, rfl⟩))))
    · exact h.kd hk g
theorem lay_ats {fu : Nat} (hfu : 3000 < fu) {S : S_shadow_Store} {k : Int} {La Lb : List Ls} (h : ats La = ats Lb) (hl : La.length ≤ 16) : dir_lay.f fu S k La = dir_lay.f fu S k Lb := by
  have e : La.length = Lb.length := by
    have := congrArg List.length h
    simpa [ats] using this
  unfold dir_lay.f
  rw [layloop hfu hl, layloop hfu (by omega), e, h]
theorem sorted_nm {La Lb : List Ls} (h : La.map nm = Lb.map nm) (hS : Sorted La) : Sorted Lb := by
  unfold Sorted at hS ⊢
  have h1 : (La.map nm).Pairwise fun x y => cmpL x y < 0 := List.pairwise_map.2 hS
  rw [h] at h1
  exact List.pairwise_map.1 h1
theorem updR_at {L : List Ls} {p : Nat} (hp : p < L.length) (f : Ls → Ls) : updR L (p : Int) f = L.take p ++ f L[p] :: L.drop (p + 1) := by
  unfold updR
  rw [Int.toNat_natCast, ix_nat hp, List.set_eq_take_append_cons_drop, if_pos hp]
theorem set_ok {fu n : Nat} {B : Int} {M : Nat} {d : Dev} {a : AA} {k : Nat} {L : List Ls} {q : S_api_Queue} (hfu : 3000 + n < fu) (h : DS n B M d a k L) (hB : B + 18 < 9223372036854775807) (hn : 21 + M < n ∧ n ≤ 3072) (hs : q.Name.length ≤ 300) :
    (¬ inL' L q.Name ∧ dir_Set.f fu (SO n d a) (k : Int) q = some (0, 15, SO n d a)) ∨ ∃ (p : Nat) (hp : p < L.length), L[p].q.Name = q.Name ∧ At' L q.Name p ∧ ((¬ QueueOk q ∧ dir_Set.f fu (SO n d a) (k : Int) q = some (0, 2, SO n d a)) ∨
      (QueueOk q ∧ ∃ (k' : Nat) (d' : Dev) (a' : AA) (at_ : Int), dir_Set.f fu (SO n d a) (k : Int) q = some ((k' : Int), 0, SO n d' a') ∧ DS n (B + 18) M d' a' k' (L.take p ++ ⟨q, at_⟩ :: L.drop (p + 1)) ∧ a'.m = a.m ∧ Keep n a d d')) := by
  have hrd : dir_read.f fu (SO n d a) (k : Int) = some (L, 0) := by rw [readP_eq (by omega) h.so.dev (by omega), h.read]
  obtain ⟨p, hp, hat⟩ := h.toMS.place (fu := fu) (by omega) hs
  have hL := h.len
  have hfd := hat.found h.so' h.nameOk hs
  unfold dir_Set.f
  rw [hrd]
  simp only [Option.bind_some, decide_true, Bool.not_true, Bool.false_eq_true, if_false]
  rw [hp]
  simp only [Option.bind_some]
  by_cases e2 : p < L.length ∧ cAt L q.Name p = 0
  · have hpl := e2.1
    have hpn := (cAt_zero h.nameOk hs hpl).1 e2.2
    rw [decide_eq_true e2]
    simp only [Bool.not_true, Bool.false_eq_true, if_false]
    refine .inr ⟨p, hpl, hpn, hat, ?_⟩
    have c1 : 0 ≤ (p : Int) ∧ (p : Int) < (L.length : Int) := by omega
    rw [queuePut_eq (by omega) hs, Option.bind_some]
    by_cases e3 : QueueOk q
    · right
      refine ⟨e3, ?_⟩
      rw [if_pos e3]
      simp only [Bool.not_true, Bool.false_eq_true, if_false]
      rw [show sealed (summed 5 (q.Name.length : Int) (queueE q)) = queB q from rfl]
      obtain ⟨j, f1, f2, f3, f4, f5⟩ := h.q _ (List.getElem_mem hpl)
      have hjL : (j : Int) ∈ ats L := by rw [← f1]; exact List.mem_map_of_mem (List.getElem_mem hpl)
      have hjw : a.w j = true := (h.w j).2 (.inr (.inr (.inr hjL)))
      have hj2 := (dirOk_iff.1 (h.ok (fun e => by subst e; simp at hpl))).2.1 _ hjL
      unfold numOk at hj2
      obtain ⟨j', d1, a1, g1, W, hw', hor⟩ := turn_line (b := queB q) h.so (queB_bytes hs e3) (queB_len hs e3) h.r (h.toMS.free hn.1) f2 hjw
      have hj0 : 2 ≤ j' := by
        rcases hor with ⟨g, _⟩ | ⟨_, g⟩
        · omega
        · have w0 := held_w g ((h.w 0).2 (.inl rfl))
          have w1 := held_w g ((h.w 1).2 (.inr (.inl rfl)))
          omega
      have hLp : L = L.take p ++ L[p] :: L.drop (p + 1) := by rw [← List.drop_eq_getElem_cons hpl, List.take_append_drop]
      have hS : Sorted (L.take p ++ ⟨q, (j' : Int)⟩ :: L.drop (p + 1)) := by
        refine sorted_nm (La := L) ?_ h.so'
        conv => lhs; rw [hLp]
        rw [List.map_append, List.map_append, List.map_cons, List.map_cons]
        unfold nm
        rw [hpn]
      have hcut : (a.cut (j : Int)).w j' ≠ true := fun g => by
        rw [cut_w] at g
        rcases hor with ⟨g2, _⟩ | ⟨_, g2⟩
        · exact g.2 g2
        · exact held_w g2 g.1 rfl
      have hMS : MS n (B + 9) M d1 a1 k (L.take p ++ ⟨q, (j' : Int)⟩ :: L.drop (p + 1)) := by
        refine (h.toMS.rest hpl f1).join ⟨q, (j' : Int)⟩ j' rfl W.so hn.2 W.r W.m W.c W.e (fun i => ?_) hcut ⟨hj0, W.lt⟩ W.new W.old e3 hs hS ?_
        · rw [hw' i, cut_w]
        · rw [List.length_append, List.length_take, List.length_drop]
          omega
      have hkp : Keep n a d d1 := fun i hi hm => W.old i hi fun g => by
        rcases hor with ⟨g2, g3⟩ | ⟨_, g2⟩
        · rw [g, g2, g3] at hm
          cases hm
        · exact held_m g2 hm g
      simp only [if_pos c1, ix_nat hpl, f1]
      rw [turn_eq h.so.dev (by omega) (by omega) (queB_bytes hs e3) (by omega) h.so.al (by omega) (by omega), g1]
      simp only [Option.bind_some, decide_true, Bool.not_true, Bool.false_eq_true, if_false]
      have hats : ats (L.take p ++ (⟨q, (j' : Int)⟩ : Ls) :: L.drop (p + 1)) = ats (L.take p ++ (⟨L[p].q, (j' : Int)⟩ : Ls) :: L.drop (p + 1)) := by simp [ats]
      by_cases e4 : (j' : Int) = (j : Int)
      · rw [decide_eq_true e4]
        simp only [if_true]
        refine ⟨k, d1, a1, (j' : Int), rfl, ⟨hMS.up (by omega), ?_⟩, W.m, hkp⟩
        rcases h.dir with ⟨_, g⟩ | ⟨g1, g2, g3⟩
        · rw [g] at hpl
          simp at hpl
        · refine .inr ⟨g1, by simp, ?_⟩
          have hk := h.kn g1
          have hkj : k ≠ j' := fun e => h.kd g1 (by rw [e, e4]; exact hjL)
          have hsp : ats L = ats (L.take p ++ (⟨q, (j' : Int)⟩ : Ls) :: L.drop (p + 1)) := by
            rw [hats]
            have e5 : ats L = ats (L.take p ++ L[p] :: L.drop (p + 1)) := congrArg ats hLp
            rw [e5]
            unfold ats
            rw [List.map_append, List.map_cons, List.map_append, List.map_cons, f1, e4]
          rw [W.old k hk.2 hkj, g3, hsp]
      · rw [decide_eq_false e4]
        simp only [Bool.false_eq_true, if_false]
        obtain ⟨k', d2, a2, g1', g2, g3, g4⟩ := lay_ok hfu hMS (by omega) hn (fun e => by simp at e)
        rw [updR_at hpl, ← lay_ats (La := L.take p ++ (⟨q, (j' : Int)⟩ : Ls) :: L.drop (p + 1)) (by omega) hats hMS.len, g1']
        refine ⟨k', d2, a2, (j' : Int), rfl, g2.up (by omega), g3.trans W.m, fun i hi hm => ?_⟩
        rw [g4 i hi (by rw [W.m]; exact hm), hkp i hi hm]
    · left
      refine ⟨e3, ?_⟩
      rw [if_neg e3]
      rfl
  · left
    rw [decide_eq_false e2]
    exact ⟨mt hfd.2 e2, rfl⟩
end Go.Proofs.YtdifnahlheogdaaGreatDoor.Pure
namespace Go.Proofs.YtdifnahlheogdaaGreatDoor
open Go Go.Xw Go.Yw
end Go.Proofs.YtdifnahlheogdaaGreatDoor
namespace Go.Proofs.YtdifnahlheogdaaGreatDoor.Pure
open Go Go.Xw Go.Yw
theorem rcmp_from {fu : Nat} {l m : List Int} (hl : l.length ≤ 900) (hm : m.length ≤ 900) : ∀ (k i : Nat), i ≤ l.length → i ≤ m.length → l.length - i < k →
    (loopM (rickyardref04_Compare.s0 fu l m) k (i : Int)).bind (fun e6 => match e6 with | Sum.inl p => some p | Sum.inr x8 => (if (decide ((List.length l : Int) < (List.length m : Int))) = true then some ((-1)) else (if (decide ((List.length l : Int) > (List.length m : Int))) = true then some (1) else some (0)))) = some (cmpL (l.drop i) (m.drop i))
  | 0, i, _, _, h => by omega
  | k + 1, i, h1, h2, h3 => by
    have hu : loopM (rickyardref04_Compare.s0 fu l m) (k + 1) (i : Int) = (match rickyardref04_Compare.s0 fu l m (i : Int) with | none => none | some (.inl e) => some e | some (.inr s') => loopM (rickyardref04_Compare.s0 fu l m) k s') := by
      conv => lhs; unfold loopM
      generalize rickyardref04_Compare.s0 fu l m (i : Int) = q
      rcases q with _ | _ | _ <;> rfl
    rw [hu]
    by_cases e1 : i < l.length
    · have c0 : (i : Int) < (l.length : Int) := by omega
      have c1 : 0 ≤ (i : Int) ∧ (i : Int) < (l.length : Int) := by omega
      rw [List.drop_eq_getElem_cons e1]
      by_cases e2 : i < m.length
      · have c2 : (i : Int) < (m.length : Int) := by omega
        have c3 : 0 ≤ (i : Int) ∧ (i : Int) < (m.length : Int) := by omega
        have w3 : IntKind.i64.wrap ((i : Int) + 1) = ((i + 1 : Nat) : Int) := by rw [w64 (by omega) (by omega)]; omega
        have hst : rickyardref04_Compare.s0 fu l m (i : Int) = if l[i] < m[i] then some (.inl (.inl (-1))) else if m[i] < l[i] then some (.inl (.inl 1)) else some (.inr ((i + 1 : Nat) : Int)) := by
          unfold rickyardref04_Compare.s0
          simp only [decide_eq_true c0, decide_eq_true c2, if_true, if_pos c1, if_pos c3, ix_nat e1, ix_nat e2, w3]
          by_cases q1 : l[i] < m[i]
          · rw [decide_eq_true q1, if_pos rfl, if_pos q1]
          · rw [decide_eq_false q1, if_neg (by decide), if_neg q1]
            by_cases q2 : m[i] < l[i]
            · rw [decide_eq_true (show l[i] > m[i] from q2), if_pos rfl, if_pos q2]
            · rw [decide_eq_false (show ¬ l[i] > m[i] from q2), if_neg (by decide), if_neg q2]
        rw [hst, List.drop_eq_getElem_cons e2]
        conv => rhs; unfold cmpL
        by_cases q1 : l[i] < m[i]
        · rw [if_pos q1, if_pos q1]
          rfl
        · rw [if_neg q1, if_neg q1]
          by_cases q2 : m[i] < l[i]
          · rw [if_pos q2, if_pos q2]
            rfl
          · rw [if_neg q2, if_neg q2]
            exact rcmp_from hl hm k (i + 1) (by omega) (by omega) (by omega)
      · have c2 : ¬ ((i : Int) < (m.length : Int)) := by omega
        have hst : rickyardref04_Compare.s0 fu l m (i : Int) = some (.inl (.inr ())) := by
          unfold rickyardref04_Compare.s0
          rw [decide_eq_true c0, if_pos rfl, decide_eq_false c2, if_neg (by decide)]
        rw [hst, List.drop_of_length_le (show m.length ≤ i by omega)]
        simp only [Option.bind_some]
        rw [decide_eq_false (show ¬ (l.length : Int) < (m.length : Int) by omega), if_neg (by decide), decide_eq_true (show (l.length : Int) > (m.length : Int) by omega), if_pos rfl]
        rfl
    · have c0 : ¬ ((i : Int) < (l.length : Int)) := by omega
      have hst : rickyardref04_Compare.s0 fu l m (i : Int) = some (.inl (.inr ())) := by
        unfold rickyardref04_Compare.s0
        rw [decide_eq_false c0, if_neg (by decide)]
      rw [hst, List.drop_of_length_le (show l.length ≤ i by omega)]
      simp only [Option.bind_some]
      by_cases e2 : i < m.length
      · rw [decide_eq_true (show (l.length : Int) < (m.length : Int) by omega), if_pos rfl, List.drop_eq_getElem_cons e2]
        rfl
      · rw [decide_eq_false (show ¬ (l.length : Int) < (m.length : Int) by omega), if_neg (by decide), decide_eq_false (show ¬ (l.length : Int) > (m.length : Int) by omega), if_neg (by decide), List.drop_of_length_le (show m.length ≤ i by omega)]
        rfl
theorem rcompare_eq {fu : Nat} (hfu : 1000 ≤ fu) {s t : List UInt8} (hs : s.length ≤ 300) (ht : t.length ≤ 300) : rickyardref04_Compare.f fu s t = some (cmpL (rn s) (rn t)) := by
  unfold rickyardref04_Compare.f
  have h1 := rn_len hs
  have h2 := rn_len ht
  rw [rrunes_eq (by omega) hs, Option.bind_some, rrunes_eq (by omega) ht, Option.bind_some]
  have := rcmp_from (fu := fu) (l := rn s) (m := rn t) (by omega) (by omega) fu 0 (by omega) (by omega) (by omega)
  rw [List.drop_zero, List.drop_zero] at this
  exact this
theorem ixq_map {L : List Ls} {i : Nat} (h : i < L.length) : ix (L.map (fun x : Ls => x.q)) (i : Int) = (ix L (i : Int)).q := by
  rw [ix_nat (by simpa using h), ix_nat h, List.getElem_map]
theorem same_eq {fu : Nat} {l : List S_api_Queue} (hl : l.length ≤ 1000) (hf : 1000 < fu) : rickyardref25_Same.f fu l l = some true := by
  unfold rickyardref25_Same.f
  rw [decide_eq_true rfl]
  simp only [Bool.not_true, Bool.false_eq_true, if_false]
  have : loopM (rickyardref25_Same.s0 fu l l) fu 0 = some (Sum.inr ()) := by
    refine loopM_run (S := fun j => (j : Int)) l.length rfl (fun j hj => ?_) ?_ (by omega)
    · have w3 : IntKind.i64.wrap ((j : Int) + 1) = ((j + 1 : Nat) : Int) := by rw [w64 (by omega) (by omega)]; omega
      have c1 : 0 ≤ (j : Int) ∧ (j : Int) < (l.length : Int) := by omega
      unfold rickyardref25_Same.s0
      rw [decide_eq_true c1.2, if_pos rfl, if_pos c1, if_pos c1, decide_eq_true rfl, w3]
      rfl
    · unfold rickyardref25_Same.s0
      rw [decide_eq_false (by omega), if_neg (by decide)]
  rw [this]
  rfl
theorem at_found {fu : Nat} {L : List Ls} {s : List UInt8} {p : Nat} (hl : L.length ≤ 100) (hf : 1000 < fu) (hp : p < L.length) (hn : L[p].q.Name = s) (hlo : ∀ i (h : i < L.length), i < p → L[i].q.Name ≠ s) : rickyardref25_At.f fu (L.map (fun x : Ls => x.q)) s = some (p : Int) := by
  unfold rickyardref25_At.f
  have hml : (L.map (fun x : Ls => x.q)).length = L.length := by simp
  have : loopM (rickyardref25_At.s0 fu (L.map (fun x : Ls => x.q)) s) fu 0 = some (Sum.inl (p : Int)) := by
    refine loopM_run (S := fun j => (j : Int)) p rfl (fun j hj => ?_) ?_ (by omega)
    · have hjl : j < L.length := by omega
      have w3 : IntKind.i64.wrap ((j : Int) + 1) = ((j + 1 : Nat) : Int) := by rw [w64 (by omega) (by omega)]; omega
      unfold rickyardref25_At.s0
      rw [hml, decide_eq_true (show (j : Int) < (L.length : Int) by omega), if_pos rfl, if_pos (show 0 ≤ (j : Int) ∧ (j : Int) < (L.length : Int) by omega), ixq_map hjl, ix_nat hjl, decide_eq_false (hlo j hjl hj), if_neg (by decide), w3]
    · unfold rickyardref25_At.s0
      rw [hml, decide_eq_true (show (p : Int) < (L.length : Int) by omega), if_pos rfl, if_pos (show 0 ≤ (p : Int) ∧ (p : Int) < (L.length : Int) by omega), ixq_map hp, ix_nat hp, decide_eq_true hn, if_pos rfl]
  rw [this]
  rfl
theorem at_no {fu : Nat} {L : List Ls} {s : List UInt8} (hl : L.length ≤ 100) (hf : 1000 < fu) (hno : ¬ inL' L s) : rickyardref25_At.f fu (L.map (fun x : Ls => x.q)) s = some (-1) := by
  unfold rickyardref25_At.f
  have hml : (L.map (fun x : Ls => x.q)).length = L.length := by simp
  have : loopM (rickyardref25_At.s0 fu (L.map (fun x : Ls => x.q)) s) fu 0 = some (Sum.inr ()) := by
    refine loopM_run (S := fun j => (j : Int)) L.length rfl (fun j hj => ?_) ?_ (by omega)
    · have w3 : IntKind.i64.wrap ((j : Int) + 1) = ((j + 1 : Nat) : Int) := by rw [w64 (by omega) (by omega)]; omega
      unfold rickyardref25_At.s0
      rw [hml, decide_eq_true (show (j : Int) < (L.length : Int) by omega), if_pos rfl, if_pos (show 0 ≤ (j : Int) ∧ (j : Int) < (L.length : Int) by omega), ixq_map hj, ix_nat hj, decide_eq_false (fun h => hno ⟨_, List.getElem_mem hj, h⟩), if_neg (by decide), w3]
    · unfold rickyardref25_At.s0
      rw [hml, decide_eq_false (by omega), if_neg (by decide)]
  rw [this]
  rfl
theorem radd_eq {fu : Nat} {L : List Ls} {y : Ls} {p : Nat} (hl : L.length ≤ 100) (hf : 1000 < fu) (hn : ∀ x ∈ L, x.q.Name.length ≤ 300) (hy : y.q.Name.length ≤ 300) (hat : At' L y.q.Name p) (hno : ∀ i, p ≤ i → i < L.length → cAt L y.q.Name i ≠ 0) :
    rickyardref25_Add.f fu (L.map (fun x : Ls => x.q)) y.q = some ((L.take p ++ y :: L.drop p).map (fun x : Ls => x.q)) := by
  have hml : (L.map (fun x : Ls => x.q)).length = L.length := by simp
  have hp := hat.le
  unfold rickyardref25_Add.f
  have hc : ∀ i, i < L.length → rickyardref04_Compare.f fu y.q.Name ((ix (L.map (fun x : Ls => x.q)) (i : Int)).Name) = some (- cAt L y.q.Name i) := fun i hi => by
    rw [ixq_map hi, rcompare_eq (by omega) hy (by rw [ix_nat hi]; exact hn _ (List.getElem_mem _)), cmpL_swap]
    rfl
  have hloop : loopM (rickyardref25_Add.s0 fu (L.map (fun x : Ls => x.q)) y.q) fu ((L.map (fun x : Ls => x.q)).length : Int) = some (p : Int) := by
    refine loopM_run (S := fun j => ((L.length - j : Nat) : Int)) (L.length - p) (by rw [hml]; rfl) (fun j hj => ?_) ?_ (by omega)
    · have w3 : IntKind.i64.wrap (((L.length - j : Nat) : Int) - 1) = ((L.length - (j + 1) : Nat) : Int) := by rw [w64 (by omega) (by omega)]; omega
      unfold rickyardref25_Add.s0
      have h1 := hat.hi (L.length - (j + 1)) (by omega) (by omega)
      have h2 := hno (L.length - (j + 1)) (by omega) (by omega)
      rw [decide_eq_true (show ((L.length - j : Nat) : Int) > 0 by omega), if_pos rfl, w3, hml, if_pos (by omega), hc _ (by omega), Option.bind_some, decide_eq_true (show - cAt L y.q.Name (L.length - (j + 1)) < 0 by omega), if_pos rfl]
    · rw [show L.length - (L.length - p) = p by omega]
      unfold rickyardref25_Add.s0
      by_cases e : p = 0
      · rw [e]
        rfl
      · have w3 : IntKind.i64.wrap ((p : Int) - 1) = ((p - 1 : Nat) : Int) := by rw [w64 (by omega) (by omega)]; omega
        have h1 := hat.lo (p - 1) (by omega)
        rw [decide_eq_true (show (p : Int) > 0 by omega), if_pos rfl, w3, hml, if_pos (by omega), hc _ (by omega), Option.bind_some, decide_eq_false (show ¬ (- cAt L y.q.Name (p - 1) < 0) by omega), if_neg (by decide)]
  rw [hloop, Option.bind_some, hml, if_pos (by omega)]
  have e1 : cut (L.map (fun x : Ls => x.q)) 0 (p : Int) = (L.take p).map (fun x : Ls => x.q) := by
    unfold cut
    rw [Int.toNat_natCast, ← List.map_take]
    rfl
  have e2 : cut (L.map (fun x : Ls => x.q)) (p : Int) (L.length : Int) = (L.drop p).map (fun x : Ls => x.q) := by
    unfold cut
    rw [Int.toNat_natCast, Int.toNat_natCast, ← List.map_take, ← List.map_drop, List.take_length]
  have l1 : (L.take p).length ≤ 100 := by rw [List.length_take]; omega
  have l2 : (L.drop p).length ≤ 100 := by rw [List.length_drop]; omega
  rw [e1, e2, if_pos (lim_of' (by simp; omega)), if_pos (lim_of' (by simp; omega)), if_pos (by omega), if_pos (lim_of' (by simp; omega))]
  simp
theorem rwithout_eq {fu : Nat} {L : List Ls} {p : Nat} (hl : L.length ≤ 100) (hp : p < L.length) : rickyardref25_Without.f fu (L.map (fun x : Ls => x.q)) (p : Int) = some ((L.take p ++ L.drop (p + 1)).map (fun x : Ls => x.q)) := by
  have hml : (L.map (fun x : Ls => x.q)).length = L.length := by simp
  have w3 : IntKind.i64.wrap ((p : Int) + 1) = ((p + 1 : Nat) : Int) := by rw [w64 (by omega) (by omega)]; omega
  unfold rickyardref25_Without.f
  have e1 : cut (L.map (fun x : Ls => x.q)) 0 (p : Int) = (L.take p).map (fun x : Ls => x.q) := by
    unfold cut
    rw [Int.toNat_natCast, ← List.map_take]
    rfl
  have e2 : cut (L.map (fun x : Ls => x.q)) ((p + 1 : Nat) : Int) (L.length : Int) = (L.drop (p + 1)).map (fun x : Ls => x.q) := by
    unfold cut
    rw [Int.toNat_natCast, Int.toNat_natCast, ← List.map_take, ← List.map_drop, List.take_length]
  have l1 : (L.take p).length ≤ 100 := by rw [List.length_take]; omega
  have l2 : (L.drop (p + 1)).length ≤ 100 := by rw [List.length_drop]; omega
  rw [hml, w3, e1, e2, if_pos (by omega), if_pos (lim_of' (by simp; omega)), if_pos (by omega), if_pos (lim_of' (by simp; omega))]
  simp
abbrev qsOf (L : List Ls) : List S_api_Queue := L.map (fun x : Ls => x.q)
theorem qsOf_len (L : List Ls) : (qsOf L).length = L.length := by simp [qsOf]
theorem at_here {fu : Nat} {L : List Ls} {s : List UInt8} {p : Nat} (hl : L.length ≤ 100) (hf : 1000 < fu) (hN : ∀ x ∈ L, x.q.Name.length ≤ 300 ∧ NameOk x.q.Name) (hs : s.length ≤ 300) (hp : p < L.length) (hn : L[p].q.Name = s) (hat : At' L s p) : rickyardref25_At.f fu (qsOf L) s = some (p : Int) := by
  refine at_found hl hf hp hn fun i hi hip e => ?_
  have h1 := hat.lo i hip
  have h2 := (cAt_zero hN hs hi).2 e
  omega
theorem actd_ok {fu n : Nat} {B : Int} {M : Nat} {d : Dev} {a : AA} {k : Nat} {L : List Ls} {x : S_rickyardlaw25_Act} (hfu : 3000 + n < fu) (h : DS n B M d a k L) (hB : B + 18 < 9223372036854775807) (hn : 21 + M < n ∧ n ≤ 3072) (hs : x.Q.Name.length ≤ 300) (hk : 0 ≤ x.Kind ∧ x.Kind ≤ 255) :
    ∃ (k' : Nat) (d' : Dev) (a' : AA) (L' : List Ls), rickyardlaw25_do.f fu (SO n d a) (k : Int) (qsOf L) x = some ((k' : Int), qsOf L', true, SO n d' a') ∧ DS n (B + 18) M d' a' k' L' ∧ a'.m = a.m ∧ Keep n a d d' := by
  have hL := h.toMS.len
  have hN := h.toMS.nameOk
  have keep0 : Keep n a d d := fun _ _ _ => rfl
  have hml := qsOf_len L
  have he : Int.tmod x.Kind 4 = x.Kind % 4 := Int.tmod_eq_emod_of_nonneg hk.1
  have hno : ¬ inL' L x.Q.Name → rickyardref25_At.f fu (qsOf L) x.Q.Name = some (-1) := fun q => at_no (by omega) (by omega) q
  have hyes : ∀ {p : Nat} (hp : p < L.length), L[p].q.Name = x.Q.Name → At' L x.Q.Name p → rickyardref25_At.f fu (qsOf L) x.Q.Name = some (p : Int) := fun hp q1 q2 => at_here (by omega) (by omega) hN hs hp q1 q2
  unfold rickyardlaw25_do.f
  rw [he]
  rcases (show x.Kind % 4 = 0 ∨ x.Kind % 4 = 1 ∨ x.Kind % 4 = 2 ∨ x.Kind % 4 = 3 by omega) with e | e | e | e
  · -- Add
    rw [e]
    rcases add_ok (s := x.Q.Name) hfu h hB hn hs with ⟨q1, q⟩ | ⟨q1, q2, q⟩ | ⟨q1, q2, q3, q⟩ | ⟨q1, q2, q3, p, k', at_, d', a', q, hat, hD, hm, hkp⟩
    · obtain ⟨t, ht⟩ : ∃ t, rickyardref25_At.f fu (qsOf L) x.Q.Name = some t := by
        obtain ⟨p, _, hat⟩ := h.toMS.place (fu := fu) (by omega) hs
        by_cases w : inL' L x.Q.Name
        · have := (hat.found h.so' hN hs).2 w
          exact ⟨_, hyes this.1 ((cAt_zero hN hs this.1).1 this.2) hat⟩
        · exact ⟨_, hno w⟩
      refine ⟨k, d, a, L, ?_, h.up (by omega), rfl, keep0⟩
      rw [ht]
      simp only [Option.bind_some, decide_true, if_true]
      rw [q, Option.bind_some, rname_eq (by omega) hs, decide_eq_false q1]
      rfl
    · obtain ⟨p, _, hat⟩ := h.toMS.place (fu := fu) (by omega) hs
      have w := (hat.found h.so' hN hs).2 q2
      refine ⟨k, d, a, L, ?_, h.up (by omega), rfl, keep0⟩
      rw [hyes w.1 ((cAt_zero hN hs w.1).1 w.2) hat]
      simp only [Option.bind_some, decide_true, if_true]
      rw [q, Option.bind_some, rname_eq (by omega) hs, decide_eq_true q1]
      simp only [Option.bind_some, Bool.not_true, Bool.false_eq_true, if_false]
      rw [decide_eq_true (show (p : Int) ≥ 0 by omega)]
      rfl
    · refine ⟨k, d, a, L, ?_, h.up (by omega), rfl, keep0⟩
      rw [hno q2]
      simp only [Option.bind_some, decide_true, if_true]
      rw [q, Option.bind_some, rname_eq (by omega) hs, decide_eq_true q1]
      simp only [Option.bind_some, Bool.not_true, Bool.false_eq_true, if_false]
      rw [decide_eq_false (show ¬ ((-1 : Int) ≥ 0) by omega), hml, decide_eq_true (show (L.length : Int) = 16 by omega)]
      rfl
    · refine ⟨k', d', a', _, ?_, hD, hm, hkp⟩
      rw [hno q2]
      simp only [Option.bind_some, decide_true, if_true]
      rw [q, Option.bind_some, rname_eq (by omega) hs, decide_eq_true q1]
      simp only [Option.bind_some, Bool.not_true, Bool.false_eq_true, if_false]
      rw [decide_eq_false (show ¬ ((-1 : Int) ≥ 0) by omega), hml, decide_eq_false (show ¬ (L.length : Int) = 16 by omega)]
      simp only [Option.bind_some, Bool.not_true, Bool.false_eq_true, if_false, decide_true]
      have := radd_eq (fu := fu) (L := L) (y := ⟨newQ x.Q.Name, at_⟩) (p := p) (by omega) (by omega) (fun y hy => (hN y hy).1) hs hat (fun i hi hi2 g => q2 ⟨_, List.getElem_mem hi2, (cAt_zero hN hs hi2).1 g⟩)
      have this' : rickyardref25_Add.f fu (qsOf L) (⟨x.Q.Name, (0 : Int), (Arr.rep 12 (0 : Int))⟩ : S_api_Queue) = some (qsOf (L.take p ++ (⟨newQ x.Q.Name, at_⟩ : Ls) :: L.drop p)) := this
      rw [this']
      rfl
  · -- Set
    rw [e]
    rcases set_ok (q := x.Q) hfu h hB hn hs with ⟨q1, q⟩ | ⟨p, hp, q1, hat, ⟨q2, q⟩ | ⟨q2, k', d', a', at_, q, hD, hm, hkp⟩⟩
    · refine ⟨k, d, a, L, ?_, h.up (by omega), rfl, keep0⟩
      rw [hno q1]
      simp only [Option.bind_some, decide_true, if_true]
      rw [decide_eq_false (by decide), if_neg (by decide), q]
      rfl
    · refine ⟨k, d, a, L, ?_, h.up (by omega), rfl, keep0⟩
      rw [hyes hp q1 hat]
      simp only [Option.bind_some, decide_true, if_true]
      rw [decide_eq_false (by decide), if_neg (by decide), q, Option.bind_some, decide_eq_false (show ¬ ((p : Int) < 0) by omega), rqueueRight_eq (by omega) hs, decide_eq_false q2]
      rfl
    · refine ⟨k', d', a', _, ?_, hD, hm, hkp⟩
      rw [hyes hp q1 hat]
      simp only [Option.bind_some, decide_true, if_true]
      rw [decide_eq_false (by decide), if_neg (by decide), q, Option.bind_some, decide_eq_false (show ¬ ((p : Int) < 0) by omega), rqueueRight_eq (by omega) hs, decide_eq_true q2]
      simp only [Option.bind_some, Bool.not_true, Bool.false_eq_true, if_false, decide_true, List.nil_append]
      rw [if_pos (lim_of' (by simp; omega)), if_pos (by rw [hml]; omega), Int.toNat_natCast]
      have : List.set (qsOf L) p x.Q = qsOf (L.take p ++ (⟨x.Q, at_⟩ : Ls) :: L.drop (p + 1)) := by
        rw [List.set_eq_take_append_cons_drop, if_pos (by rw [hml]; exact hp)]
        simp [qsOf, List.map_take, List.map_drop]
      rw [this]
  · -- Remove
    rw [e]
    rcases remove_ok (s := x.Q.Name) hfu h hB hn hs with ⟨q1, q⟩ | ⟨p, hp, q1, hat, ⟨q2, q⟩ | ⟨q2, k', d', a', q, hD, hm, hkp⟩⟩
    · refine ⟨k, d, a, L, ?_, h.up (by omega), rfl, keep0⟩
      rw [hno q1]
      simp only [Option.bind_some, decide_true, if_true]
      rw [decide_eq_false (by decide), if_neg (by decide), decide_eq_false (by decide), if_neg (by decide), q]
      rfl
    · refine ⟨k, d, a, L, ?_, h.up (by omega), rfl, keep0⟩
      rw [hyes hp q1 hat]
      simp only [Option.bind_some, decide_true, if_true]
      rw [decide_eq_false (by decide), if_neg (by decide), decide_eq_false (by decide), if_neg (by decide), q, Option.bind_some, decide_eq_false (show ¬ ((p : Int) < 0) by omega)]
      simp only [Bool.false_eq_true, if_false]
      rw [if_pos (by rw [hml]; omega), ixq_map hp, ix_nat hp, decide_eq_false q2]
      rfl
    · refine ⟨k', d', a', _, ?_, hD, hm, hkp⟩
      rw [hyes hp q1 hat]
      simp only [Option.bind_some, decide_true, if_true]
      rw [decide_eq_false (by decide), if_neg (by decide), decide_eq_false (by decide), if_neg (by decide), q, Option.bind_some, decide_eq_false (show ¬ ((p : Int) < 0) by omega)]
      simp only [Bool.false_eq_true, if_false]
      rw [if_pos (by rw [hml]; omega), ixq_map hp, ix_nat hp, decide_eq_true q2]
      simp only [Option.bind_some, Bool.not_true, Bool.false_eq_true, if_false, decide_true]
      rw [rwithout_eq (by omega) hp]
      rfl
  · -- Find
    rw [e]
    rcases find_ok (s := x.Q.Name) hfu h hn.2 hs with ⟨q1, q⟩ | ⟨p, hp, q1, hat, q⟩
    · refine ⟨k, d, a, L, ?_, h.up (by omega), rfl, keep0⟩
      rw [hno q1]
      simp only [Option.bind_some, decide_true, if_true]
      rw [decide_eq_false (by decide), if_neg (by decide), decide_eq_false (by decide), if_neg (by decide), decide_eq_false (by decide), if_neg (by decide), q]
      rfl
    · refine ⟨k, d, a, L, ?_, h.up (by omega), rfl, keep0⟩
      rw [hyes hp q1 hat]
      simp only [Option.bind_some, decide_true, if_true]
      rw [decide_eq_false (by decide), if_neg (by decide), decide_eq_false (by decide), if_neg (by decide), decide_eq_false (by decide), if_neg (by decide), q, Option.bind_some, decide_eq_false (show ¬ ((p : Int) < 0) by omega)]
      simp only [Bool.false_eq_true, if_false, decide_true, if_true]
      rw [if_pos (by rw [hml]; omega), ixq_map hp, ix_nat hp, decide_eq_true rfl]
theorem small_ok {fu m : Nat} {acts : List S_rickyardlaw25_Act} (hm : m ≤ 1000) (hf : 1000 < fu) : ∃ b, rickyardlaw25_small.f fu acts (m : Int) = some b ∧ (b = true → acts.length ≤ m ∧ ∀ x ∈ acts, x.Q.Name.length ≤ 100) := by
  unfold rickyardlaw25_small.f
  by_cases e : (acts.length : Int) > (m : Int)
  · rw [decide_eq_true e, if_pos rfl]
    exact ⟨false, rfl, fun h => by cases h⟩
  · rw [decide_eq_false e, if_neg (by decide)]
    have hst : ∀ j : Nat, j < acts.length → rickyardlaw25_small.s0 fu acts (j : Int) = if (ix acts (j : Int)).Q.Name.length ≤ 100 then some (.inr ((j + 1 : Nat) : Int)) else some (.inl (.inl false)) := fun j hj => by
      have w3 : IntKind.i64.wrap ((j : Int) + 1) = ((j + 1 : Nat) : Int) := by rw [w64 (by omega) (by omega)]; omega
      unfold rickyardlaw25_small.s0
      rw [decide_eq_true (show (j : Int) < (acts.length : Int) by omega), if_pos rfl, if_pos (show 0 ≤ (j : Int) ∧ (j : Int) < (acts.length : Int) by omega), w3]
      by_cases q : (ix acts (j : Int)).Q.Name.length ≤ 100
      · rw [decide_eq_false (by omega), if_neg (by decide), if_pos q]
      · rw [decide_eq_true (by omega), if_pos rfl, if_neg q]
    by_cases q : ∀ j, j < acts.length → (ix acts (j : Int)).Q.Name.length ≤ 100
    · have : loopM (rickyardlaw25_small.s0 fu acts) fu 0 = some (.inr ()) := by
        refine loopM_run (S := fun j => (j : Int)) acts.length rfl (fun j hj => ?_) ?_ (by omega)
        · rw [hst j hj, if_pos (q j hj)]
        · unfold rickyardlaw25_small.s0
          rw [decide_eq_false (by omega), if_neg (by decide)]
      rw [this]
      refine ⟨true, rfl, fun _ => ⟨by omega, fun x hx => ?_⟩⟩
      obtain ⟨j, hj, rfl⟩ := List.getElem_of_mem hx
      have := q j hj
      rwa [ix_nat hj] at this
    · have : loopM (rickyardlaw25_small.s0 fu acts) fu 0 = some (.inl false) := by
        refine loopM_bad (S := fun j => (j : Int)) acts.length (fun j => (ix acts (j : Int)).Q.Name.length ≤ 100) rfl ?_ (fun j hj _ hg => by rw [hst j hj, if_pos hg]) (fun j hj _ hg => by rw [hst j hj, if_neg hg]) (by omega)
        refine Classical.byContradiction fun hx => q fun j hj => ?_
        refine Classical.byContradiction fun hg => hx ⟨j, hj, hg⟩
      rw [this]
      exact ⟨false, rfl, fun h => by cases h⟩
theorem loopM_iv {σ ε : Type} {step : σ → Option (Sum ε σ)} (I : Nat → σ → Prop) (Q : ε → Prop) (N : Nat) (h : ∀ j s, j < N → I j s → (∃ s', step s = some (.inr s') ∧ I (j + 1) s') ∨ ∃ e, step s = some (.inl e) ∧ Q e) (he : ∀ s, I N s → ∃ e, step s = some (.inl e) ∧ Q e) :
    ∀ (m j k : Nat) (s : σ), m + j = N → m < k → I j s → ∃ e, loopM step k s = some e ∧ Q e
  | 0, j, k + 1, s, hm, _, hI => by
    obtain ⟨e, h1, h2⟩ := he s (by rw [← hm, Nat.zero_add]; exact hI)
    refine ⟨e, ?_, h2⟩
    unfold loopM
    rw [h1]
  | m + 1, j, k + 1, s, hm, hk, hI => by
    rcases h j s (by omega) hI with ⟨s', h1, h2⟩ | ⟨e, h1, h2⟩
    · obtain ⟨e, g1, g2⟩ := loopM_iv I Q N h he m (j + 1) k s' (by omega) (by omega) h2
      refine ⟨e, ?_, g2⟩
      unfold loopM
      rw [h1]
      exact g1
    · refine ⟨e, ?_, h2⟩
      unfold loopM
      rw [h1]
theorem ini_iff {n j : Nat} (hn : 2 ≤ n) : ini n j = true ↔ j = 0 ∨ j = 1 := by
  unfold ini addF
  simp only [Bool.false_or, Bool.and_eq_true, decide_eq_true_eq, List.mem_cons, List.not_mem_nil, or_false]
  omega
theorem made_ds {n : Nat} (hn : 2 ≤ n) : DS n 0 2 (newD (8 * n)) (A0 n 0) 0 [] := by
  refine ⟨⟨⟨newD_ok _, newD_clean _, A0_ok (by decide)⟩, rfl, fun x hx => by simp at hx, fun h => absurd rfl h, List.Pairwise.nil, fun h => absurd rfl h, fun j => ?_, fun h => absurd rfl h, fun j hj => ?_, ?_⟩, .inl ⟨rfl, rfl⟩⟩
  · show ini n j = true ↔ _
    rw [ini_iff hn]
    simp [ats]
  · rcases hj with hj | hj
    · have := (ini_iff hn).1 hj
      simpa using this
    · have hj : nul n j = true := hj
      unfold nul addF at hj
      simp at hj
  · have h1 : cnt (ini n) n ≤ cnt (fun k => decide (k ∈ [0, 1])) n := cnt_mono fun k _ h => by
      have := (ini_iff hn).1 h
      simpa using this
    exact Nat.le_trans h1 (cnt_mem _ _)
theorem awake25 : rickyardlaw25_awake.f FU = some true := by decide +kernel
theorem cnt_dis {f g : Nat → Bool} {n : Nat} (h : ∀ k, k < n → f k = true → g k = false) : cnt (fun k => f k || g k) n = cnt f n + cnt g n := by
  unfold cnt
  have : ∀ l : List Nat, (∀ k ∈ l, k < n) → (l.filter fun k => f k || g k).length = (l.filter f).length + (l.filter g).length := by
    intro l
    induction l with
    | nil => simp
    | cons x l ih =>
      intro hl
      have i := ih fun k hk => hl k (List.mem_cons_of_mem _ hk)
      have hx := h x (hl x List.mem_cons_self)
      simp only [List.filter_cons]
      cases hf : f x with
      | false => cases g x <;> simp <;> omega
      | true => rw [hx hf]; simp; omega
  exact this _ fun k hk => List.mem_range.1 hk
theorem cnt_is {x n : Nat} (h : x < n) : cnt (fun k => decide (k = x)) n = 1 := by
  have h1 := cnt_one x n
  have h2 : 0 < cnt (fun k => decide (k = x)) n := List.length_pos_iff.2 fun e => by
    have : x ∈ (List.range n).filter fun k => decide (k = x) := List.mem_filter.2 ⟨List.mem_range.2 h, by simp⟩
    rw [e] at this
    simp at this
  omega
theorem cnt_list : ∀ {l : List Int} {n : Nat}, l.Nodup → (∀ x ∈ l, 0 ≤ x ∧ x < (n : Int)) → cnt (fun k => decide ((k : Int) ∈ l)) n = l.length
  | [], n, _, _ => by simp [cnt]
  | x :: l, n, hd, hb => by
    have hx := hb x List.mem_cons_self
    obtain ⟨j, rfl⟩ : ∃ j : Nat, x = (j : Int) := ⟨x.toNat, by omega⟩
    rw [List.nodup_cons] at hd
    have ih := cnt_list hd.2 fun y hy => hb y (List.mem_cons_of_mem _ hy)
    have e : cnt (fun k => decide ((k : Int) ∈ (j : Int) :: l)) n = cnt (fun k => decide (k = j) || decide ((k : Int) ∈ l)) n := cnt_congr fun k _ => by
      rw [Bool.eq_iff_iff]
      simp only [decide_eq_true_eq, Bool.or_eq_true, List.mem_cons, Int.natCast_inj]
    rw [e, cnt_dis (fun k _ hk => by
      have : k = j := of_decide_eq_true hk
      rw [this]
      exact decide_eq_false hd.1), cnt_is (by omega), ih, List.length_cons]
    omega
def Wl (k : Nat) (L : List Ls) : List Int := 0 :: 1 :: ((if k = 0 then [] else [(k : Int)]) ++ ats L)
theorem DS.works {n : Nat} {B : Int} {M : Nat} {d : Dev} {a : AA} {k : Nat} {L : List Ls} (h : DS n B M d a k L) (hn : 2 ≤ n) : cnt a.w n = (Wl k L).length := by
  have e : cnt a.w n = cnt (fun j => decide ((j : Int) ∈ Wl k L)) n := cnt_congr fun j _ => by
    rw [Bool.eq_iff_iff, h.w j, decide_eq_true_eq]
    unfold Wl
    simp only [List.mem_cons, List.mem_append]
    by_cases q : k = 0
    · rw [if_pos q]
      constructor
      · rintro (g | g | ⟨g, _⟩ | g)
        · exact .inl (by omega)
        · exact .inr (.inl (by omega))
        · exact absurd q g
        · exact .inr (.inr (.inr g))
      · rintro (g | g | g | g)
        · exact .inl (by omega)
        · exact .inr (.inl (by omega))
        · simp at g
        · exact .inr (.inr (.inr g))
    · rw [if_neg q, List.mem_singleton]
      constructor
      · rintro (g | g | ⟨_, g⟩ | g)
        · exact .inl (by omega)
        · exact .inr (.inl (by omega))
        · exact .inr (.inr (.inl (by omega)))
        · exact .inr (.inr (.inr g))
      · rintro (g | g | g | g)
        · exact .inl (by omega)
        · exact .inr (.inl (by omega))
        · exact .inr (.inr (.inl ⟨q, by omega⟩))
        · exact .inr (.inr (.inr g))
  have hat : ∀ x ∈ ats L, 2 ≤ x ∧ x < (n : Int) := fun x hx => by
    obtain ⟨y, hy, rfl⟩ := List.mem_map.1 hx
    obtain ⟨j, f1, f2, _⟩ := h.q y hy
    have hne : L ≠ [] := fun e => by subst e; simp at hy
    have := (dirOk_iff.1 (h.ok hne)).2.1 _ hx
    unfold numOk at this
    omega
  have hnd : (ats L).Nodup := by
    by_cases q : L = []
    · subst q; simp [ats]
    · exact (dirOk_iff.1 (h.ok q)).2.2
  have hk : ∀ x ∈ (if k = 0 then [] else [(k : Int)]) ++ ats L, 2 ≤ x ∧ x < (n : Int) := fun x hx => by
    rcases List.mem_append.1 hx with g | g
    · by_cases q : k = 0
      · rw [if_pos q] at g
        simp at g
      · rw [if_neg q, List.mem_singleton] at g
        have := h.kn q
        omega
    · exact hat x g
  have hnd2 : ((if k = 0 then [] else [(k : Int)]) ++ ats L).Nodup := by
    by_cases q : k = 0
    · rw [if_pos q, List.nil_append]
      exact hnd
    · rw [if_neg q]
      exact List.nodup_cons.2 ⟨h.kd q, hnd⟩
  rw [e]
  refine cnt_list (List.nodup_cons.2 ⟨fun g => ?_, List.nodup_cons.2 ⟨fun g => ?_, hnd2⟩⟩) fun x hx => ?_
  · rcases List.mem_cons.1 g with g | g
    · exact absurd g (by decide)
    · have := hk _ g
      omega
  · have := hk _ g
    omega
  · rcases List.mem_cons.1 hx with rfl | hx
    · omega
    · rcases List.mem_cons.1 hx with rfl | hx
      · omega
      · have := hk x hx
        omega
theorem DS.wide {n : Nat} {B : Int} {M M' : Nat} {d : Dev} {a : AA} {k : Nat} {L : List Ls} (h : DS n B M d a k L) (hM : M ≤ M') : DS n B M' d a k L := ⟨⟨h.so, h.r, h.q, h.ok, h.so', h.kn, h.w, h.kd, h.ce, Nat.le_trans h.m hM⟩, h.dir⟩
theorem Wl_le {n : Nat} {B : Int} {M : Nat} {d : Dev} {a : AA} {k : Nat} {L : List Ls} (h : DS n B M d a k L) : (Wl k L).length ≤ 19 := by
  have := h.toMS.len
  unfold Wl
  by_cases q : k = 0
  · rw [if_pos q]
    simp [ats]
    omega
  · rw [if_neg q]
    simp [ats]
    omega
theorem DS.mark {n : Nat} {B : Int} {M : Nat} {d : Dev} {a : AA} {k : Nat} {L : List Ls} (h : DS n B M d a k L) (hn : 2 ≤ n) : DS n B 19 d a.mark k L :=
  ⟨⟨⟨h.so.dev, h.so.cl, mark_ok h.so.al⟩, h.r, h.q, h.ok, h.so', h.kn, h.w, h.kd, h.ce, by
    show cnt a.w n ≤ 19
    rw [h.works hn]
    exact Wl_le h⟩, h.dir⟩
structure okA (x : S_rickyardlaw25_Act) : Prop where
  k : 0 ≤ x.Kind ∧ x.Kind ≤ 255
theorem okA_of {l : List S_rickyardlaw25_Act} (h : okv 9 (⟨.sl (.st .S_rickyardlaw25_Act), l⟩ : PV G.toSg)) : ∀ x ∈ l, okA x := by
  intro x hx
  have h1 := h.2 x hx
  have hk := h1 ⟨.int .u8, x.Kind⟩ (List.mem_cons_self)
  exact ⟨wf8.1 hk⟩
end Go.Proofs.YtdifnahlheogdaaGreatDoor.Pure
