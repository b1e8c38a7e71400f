/- Bits turned side by side in a block: the sum tells. -/
import Derived.Test.YtpdglhpohkkeiaaPBlock
set_option linter.unusedVariables false
set_option linter.unusedSimpArgs false
namespace Go.Proofs.Ytpdglhpohkkeiaa.Pure
open Go Go.Xw
def bit (c : Bool) : BitVec 32 := if c then 1#32 else 0#32
def feed (x : BitVec 32) : List Bool → BitVec 32
  | [] => x
  | c :: cs => feed (stp (x ^^^ bit c)) cs
theorem feed_append (x : BitVec 32) : ∀ (a b : List Bool), feed x (a ++ b) = feed (feed x a) b := by
  intro a
  induction a generalizing x with
  | nil => intro b; rfl
  | cons c a ih => intro b; exact ih _ b
theorem bit_xor (a b : Bool) : bit (a ^^ b) = bit a ^^^ bit b := by cases a <;> cases b <;> decide
theorem feed_xor : ∀ (a b : List Bool) (x y : BitVec 32), a.length = b.length → feed (x ^^^ y) (List.zipWith (fun p q => p ^^ q) a b) = feed x a ^^^ feed y b
  | [], [], x, y, _ => rfl
  | [], _ :: _, x, y, h => by simp at h
  | _ :: _, [], x, y, h => by simp at h
  | p :: a, q :: b, x, y, h => by
    simp only [List.zipWith_cons_cons, feed]
    rw [bit_xor, xor4, stp_xor]
    exact feed_xor a b _ _ (by simpa using h)
theorem stp_zero : stp 0#32 = 0#32 := by decide
theorem stps_zero : ∀ n, stps n 0#32 = 0#32
  | 0 => rfl
  | n + 1 => by
    unfold stps
    rw [stp_zero]
    exact stps_zero n
theorem feed_noughts : ∀ (n : Nat) (x : BitVec 32), feed x (List.replicate n false) = stps n x
  | 0, x => rfl
  | n + 1, x => by
    rw [List.replicate_succ]
    simp only [feed, bit, Bool.false_eq_true, if_false, BitVec.xor_zero]
    exact feed_noughts n _
/-- The lowest n bits of a number, fed one by one: as n steps over them all at once. -/
theorem feed_low : ∀ (n w : Nat) (x : BitVec 32), n ≤ 32 → w < 2 ^ n → feed x ((List.range n).map fun i => w.testBit i) = stps n (x ^^^ BitVec.ofNat 32 w)
  | 0, w, x, _, hw => by
    have : w = 0 := by omega
    subst this
    simp [feed, stps]
  | n + 1, w, x, hn, hw => by
    rw [List.range_succ_eq_map, List.map_cons, List.map_map]
    have hf : ((fun i => w.testBit i) ∘ Nat.succ) = fun i => (w / 2).testBit i := by
      funext i
      simp [Function.comp, Nat.testBit_succ]
    rw [hf]
    show feed (stp (x ^^^ bit (w.testBit 0))) ((List.range n).map fun i => (w / 2).testBit i) = stps n (stp (x ^^^ BitVec.ofNat 32 w))
    rw [feed_low n (w / 2) _ (by omega) (by rw [Nat.pow_succ] at hw; omega)]
    congr 1
    have e : BitVec.ofNat 32 w = bit (w.testBit 0) ^^^ (BitVec.ofNat 32 w &&& ~~~ 1#32) := by
      apply BitVec.eq_of_getLsbD_eq
      intro i hi
      rw [BitVec.getLsbD_xor, BitVec.getLsbD_and, BitVec.getLsbD_not, BitVec.getLsbD_ofNat]
      cases i with
      | zero =>
        unfold bit
        cases w.testBit 0 <;> simp
      | succ i =>
        have h1 : (bit (w.testBit 0)).getLsbD (i + 1) = false := by
          unfold bit
          cases w.testBit 0 <;> simp [BitVec.getLsbD_one]
        have h2 : (1#32).getLsbD (i + 1) = false := by simp [BitVec.getLsbD_one]
        rw [h1, h2]
        simp [hi]
    have hz : (BitVec.ofNat 32 w &&& ~~~ 1#32).getLsbD 0 = false := by
      rw [BitVec.getLsbD_and, BitVec.getLsbD_not]
      simp
    have key : stp (x ^^^ BitVec.ofNat 32 w) = stp (x ^^^ bit (w.testBit 0)) ^^^ ((BitVec.ofNat 32 w &&& ~~~ 1#32) >>> 1) := by
      conv => lhs; rw [e]
      rw [← BitVec.xor_assoc, stp_xor (x ^^^ bit (w.testBit 0)), stp_even hz]
    rw [key]
    congr 1
    apply BitVec.eq_of_getLsbD_eq
    intro i hi
    rw [BitVec.getLsbD_ushiftRight, BitVec.getLsbD_and, BitVec.getLsbD_not, BitVec.getLsbD_ofNat, BitVec.getLsbD_ofNat]
    have h2 : (1#32).getLsbD (1 + i) = false := by
      rw [Nat.add_comm]
      simp [BitVec.getLsbD_one]
    rw [h2, Nat.add_comm 1 i, Nat.testBit_succ]
    by_cases h : i + 1 < 32
    · simp [h, hi]
    · have : (w / 2).testBit i = false := by
        apply Nat.testBit_lt_two_pow
        have h31 : n ≤ i := by omega
        exact Nat.lt_of_lt_of_le (by rw [Nat.pow_succ] at hw; omega) (Nat.pow_le_pow_right (by decide) h31)
      simp [this]
def bitAt (l : List Int) (p : Nat) : Bool := (ix l ((p / 8 : Nat) : Int)).toNat.testBit (p % 8)
def bitsOf (l : List Int) : List Bool := (List.range (8 * l.length)).map (bitAt l)
theorem bitsOf_cons (c : Int) (l : List Int) : bitsOf (c :: l) = ((List.range 8).map fun i => c.toNat.testBit i) ++ bitsOf l := by
  unfold bitsOf
  rw [List.length_cons, show 8 * (l.length + 1) = 8 + 8 * l.length from by omega, List.range_add, List.map_append, List.map_map]
  congr 1
  apply List.map_congr_left
  intro i hi
  unfold bitAt
  simp only [Function.comp]
  rw [show (8 + i) / 8 = i / 8 + 1 from by omega, show (8 + i) % 8 = i % 8 from by omega]
  rfl
theorem regs_feed : ∀ (l : List Int) (x : BitVec 32), Bytes l → regs x l = feed x (bitsOf l)
  | [], x, _ => rfl
  | c :: l, x, h => by
    have hc := h c (by simp)
    rw [bitsOf_cons, feed_append, feed_low 8 c.toNat x (by decide) (by show c.toNat < 256; omega)]
    exact regs_feed l _ fun y hy => h y (by simp [hy])
/-- A pattern of up to 32 bits between noughts leaves a trace. -/
theorem trace {j w m : Nat} (hw : w < 2 ^ 32) (h0 : w ≠ 0) : feed 0#32 (List.replicate j false ++ (((List.range 32).map fun i => w.testBit i) ++ List.replicate m false)) ≠ 0#32 := by
  rw [feed_append, feed_append, feed_noughts j, stps_zero, feed_low 32 w _ (Nat.le_refl _) hw, feed_noughts, BitVec.zero_xor]
  intro h
  have h1 := stps_inj0 32 (stps_inj0 m h)
  have h2 := congrArg BitVec.toNat h1
  rw [BitVec.toNat_ofNat, Nat.mod_eq_of_lt hw] at h2
  exact h0 h2
theorem byte_ext {c d : Nat} (hc : c < 256) (hd : d < 256) (h : ∀ j, j < 8 → c.testBit j = d.testBit j) : c = d := by
  apply Nat.eq_of_testBit_eq
  intro j
  by_cases hj : j < 8
  · exact h j hj
  · have h8 : 256 ≤ 2 ^ j := by
      have := Nat.pow_le_pow_right (n := 2) (by decide) (by omega : 8 ≤ j)
      exact this
    rw [Nat.testBit_lt_two_pow (by omega), Nat.testBit_lt_two_pow (by omega)]
theorem ext_bits {a b : List Int} (ha : Bytes a) (hb : Bytes b) (hl : a.length = b.length) (h : ∀ p, p < 8 * a.length → bitAt a p = bitAt b p) : a = b := by
  apply List.ext_getElem hl
  intro i h1 h2
  have ca := ha _ (List.getElem_mem h1)
  have cb := hb _ (List.getElem_mem h2)
  have : a[i].toNat = b[i].toNat := by
    apply byte_ext (by omega) (by omega)
    intro j hj
    have := h (8 * i + j) (by omega)
    unfold bitAt at this
    rw [show (8 * i + j) / 8 = i from by omega, show (8 * i + j) % 8 = j from by omega, ix_nat h1, ix_nat h2] at this
    exact this
  omega
theorem bitAt_take {l : List Int} {n p : Nat} (h : p < 8 * n) (hn : n ≤ l.length) : bitAt (l.take n) p = bitAt l p := by
  unfold bitAt
  rw [ix_nat (by rw [List.length_take]; omega), ix_nat (by omega), List.getElem_take]
theorem bitAt_drop {l : List Int} {n p : Nat} (h : p < 8 * (l.length - n)) : bitAt (l.drop n) p = bitAt l (8 * n + p) := by
  unfold bitAt
  rw [show (8 * n + p) / 8 = n + p / 8 from by omega, show (8 * n + p) % 8 = p % 8 from by omega, ix_nat (by rw [List.length_drop]; omega), ix_nat (by omega), List.getElem_drop]
def pat (j w p : Nat) : Bool := decide (j ≤ p ∧ p < j + 32) && w.testBit (p - j)
theorem pat_list {j w m : Nat} : (List.range (j + (32 + m))).map (pat j w) = List.replicate j false ++ (((List.range 32).map fun i => w.testBit i) ++ List.replicate m false) := by
  apply List.ext_getElem
  · simp
  · intro i h1 h2
    simp only [List.length_map, List.length_range] at h1
    rw [List.getElem_map, List.getElem_range, List.getElem_append]
    split
    · rename_i h
      simp only [List.length_replicate] at h
      rw [List.getElem_replicate]
      unfold pat
      have : ¬ (j ≤ i ∧ i < j + 32) := by omega
      simp [this]
    · rename_i h
      simp only [List.length_replicate] at h
      rw [List.getElem_append]
      split
      · rename_i h3
        simp only [List.length_map, List.length_range, List.length_replicate] at h3
        rw [List.getElem_map, List.getElem_range]
        unfold pat
        have : j ≤ i ∧ i < j + 32 := by omega
        simp only [List.length_replicate, this, and_self, decide_true, Bool.true_and]
      · rename_i h3
        simp only [List.length_map, List.length_range, List.length_replicate] at h3
        rw [List.getElem_replicate]
        unfold pat
        have : ¬ (j ≤ i ∧ i < j + 32) := by omega
        simp [this]
theorem turned {b e : List Int} {k w : Nat} (hb : Bytes b) (he : Bytes e) (hbl : b.length = 64) (hel : e.length = 64) (hw : w < 2 ^ 32) (h0 : w ≠ 0) (hk : k = 0 ∨ 32 ≤ k ∧ k + 32 ≤ 512) (hbit : ∀ p, p < 512 → bitAt e p = (bitAt b p ^^ pat k w p)) (hi : Is b) : ¬ Is e := by
  intro hi2
  have i1 := ((is_iff hb hbl).1 hi.2.2).2
  have i2 := ((is_iff he hel).1 hi2.2.2).2
  have db : (b.drop 4).length = 60 := by rw [List.length_drop, hbl]
  have de : (e.drop 4).length = 60 := by rw [List.length_drop, hel]
  have tb : (b.take 4).length = 4 := by rw [List.length_take, hbl]; rfl
  have te : (e.take 4).length = 4 := by rw [List.length_take, hel]; rfl
  rcases hk with rfl | ⟨hk1, hk2⟩
  · have hd : e.drop 4 = b.drop 4 := by
      apply ext_bits (he.drop 4) (hb.drop 4) (by rw [de, db])
      intro p hp
      rw [de] at hp
      rw [bitAt_drop (by rw [hel]; omega), bitAt_drop (by rw [hbl]; omega), hbit _ (by omega)]
      have : pat 0 w (8 * 4 + p) = false := by
        unfold pat
        simp
        omega
      rw [this]
      simp
    have hn : num (e.take 4) = num (b.take 4) := by rw [i2, hd, ← i1]
    have ht : e.take 4 = b.take 4 := by
      have l1 := lay_num (he.take 4)
      have l2 := lay_num (hb.take 4)
      rw [te] at l1
      rw [tb] at l2
      rw [← l1, ← l2, hn]
    have heq : e = b := by rw [← List.take_append_drop 4 e, ← List.take_append_drop 4 b, ht, hd]
    apply h0
    apply Nat.eq_of_testBit_eq
    intro p
    rw [Nat.zero_testBit]
    by_cases hp : p < 32
    · have := hbit p (by omega)
      rw [heq] at this
      have hpat : pat 0 w p = w.testBit p := by
        unfold pat
        simp
        intro _
        omega
      rw [hpat] at this
      cases hx : w.testBit p
      · rfl
      · rw [hx] at this
        cases hy : bitAt b p <;> rw [hy] at this <;> simp at this
    · exact Nat.testBit_lt_two_pow (Nat.lt_of_lt_of_le hw (Nat.pow_le_pow_right (by decide) (by omega)))
  · obtain ⟨j, rfl⟩ : ∃ j, k = 32 + j := ⟨k - 32, by omega⟩
    have ht : e.take 4 = b.take 4 := by
      apply ext_bits (he.take 4) (hb.take 4) (by rw [te, tb])
      intro p hp
      rw [te] at hp
      rw [bitAt_take (by omega) (by omega), bitAt_take (by omega) (by omega), hbit _ (by omega)]
      have : pat (32 + j) w p = false := by
        unfold pat
        have : ¬ (32 + j ≤ p) := by omega
        simp [this]
      rw [this]
      simp
    have hbits : bitsOf (e.drop 4) = List.zipWith (fun p q => p ^^ q) (bitsOf (b.drop 4)) ((List.range (j + (32 + (448 - j)))).map (pat j w)) := by
      apply List.ext_getElem
      · simp [bitsOf, de, db]
        omega
      · intro p h1 h2
        simp only [bitsOf, List.length_map, List.length_range, de] at h1
        simp only [bitsOf, List.getElem_zipWith, List.getElem_map, List.getElem_range]
        rw [bitAt_drop (by rw [hel]; omega), bitAt_drop (by rw [hbl]; omega), hbit _ (by omega)]
        congr 1
        unfold pat
        rw [show 8 * 4 + p - (32 + j) = p - j from by omega]
        congr 1
        apply decide_eq_decide.2
        omega
    have hlen : (bitsOf (b.drop 4)).length = ((List.range (j + (32 + (448 - j)))).map (pat j w)).length := by
      simp [bitsOf, db]
      omega
    have hr : regs ones (e.drop 4) = regs ones (b.drop 4) ^^^ feed 0#32 ((List.range (j + (32 + (448 - j)))).map (pat j w)) := by
      rw [regs_feed _ _ (he.drop 4), regs_feed _ _ (hb.drop 4), hbits]
      have := feed_xor (bitsOf (b.drop 4)) ((List.range (j + (32 + (448 - j)))).map (pat j w)) ones 0#32 hlen
      rw [BitVec.xor_zero] at this
      exact this
    have hc : crc (e.drop 4) = crc (b.drop 4) := by
      apply BitVec.eq_of_toNat_eq
      rw [← i1, ← i2, ht]
    unfold crc at hc
    rw [hr, pat_list] at hc
    refine trace (j := j) (w := w) (m := 448 - j) hw h0 ?_
    generalize feed 0#32 _ = d at hc ⊢
    have h3 := congrArg (fun z => regs ones (b.drop 4) ^^^ (z ^^^ ones)) hc
    simp only [BitVec.xor_assoc] at h3
    rw [BitVec.xor_self, BitVec.xor_zero, BitVec.xor_zero, BitVec.xor_self, ← BitVec.xor_assoc, BitVec.xor_self, BitVec.zero_xor] at h3
    exact h3
theorem shl8 {r : Nat} (h : r < 8) : shL .u8 1 (r : Int) = ((2 ^ r : Nat) : Int) := by
  have h8 : 2 ^ r ≤ 128 := Nat.pow_le_pow_right (n := 2) (by decide) (by omega : r ≤ 7)
  unfold shL
  rw [Int.toNat_natCast, Nat.min_eq_left (by show r ≤ 8; omega), Int.one_mul]
  have : (2 : Int) ^ r = ((2 ^ r : Nat) : Int) := by rw [Int.natCast_pow]; rfl
  rw [this]
  generalize 2 ^ r = q at h8 ⊢
  exact wu8 (by omega) (by omega)
theorem xor8 {c d : Nat} (hc : c < 256) (hd : d < 256) : bXor .u8 (c : Int) (d : Int) = ((c ^^^ d : Nat) : Int) := by
  have hx : c ^^^ d < 2 ^ 8 := Nat.xor_lt_two_pow hc hd
  unfold bXor
  show IntKind.u8.wrap (((BitVec.ofInt 8 (c : Int) ^^^ BitVec.ofInt 8 (d : Int)).toNat : Nat) : Int) = _
  rw [BitVec.ofInt_natCast, BitVec.ofInt_natCast, BitVec.toNat_xor, BitVec.toNat_ofNat, BitVec.toNat_ofNat, Nat.mod_eq_of_lt hc, Nat.mod_eq_of_lt hd]
  exact wu8 (by omega) (by omega)
def flip (l : List Int) (p : Nat) : List Int := l.set (p / 8) (bXor .u8 (ix l ((p / 8 : Nat) : Int)) (shL .u8 1 ((p % 8 : Nat) : Int)))
theorem flip_len (l : List Int) (p : Nat) : (flip l p).length = l.length := by simp [flip]
theorem flip_val {l : List Int} (hb : Bytes l) {p : Nat} (hp : p < 8 * l.length) : ∃ c : Nat, c < 256 ∧ ix l ((p / 8 : Nat) : Int) = (c : Int) ∧ bXor .u8 (ix l ((p / 8 : Nat) : Int)) (shL .u8 1 ((p % 8 : Nat) : Int)) = ((c ^^^ 2 ^ (p % 8) : Nat) : Int) ∧ c ^^^ 2 ^ (p % 8) < 256 := by
  have h := ix_byte hb (p / 8) (by omega)
  have h8 : 2 ^ (p % 8) ≤ 128 := Nat.pow_le_pow_right (n := 2) (by decide) (by omega : p % 8 ≤ 7)
  refine ⟨(ix l ((p / 8 : Nat) : Int)).toNat, by omega, by omega, ?_, Nat.xor_lt_two_pow (n := 8) (by show _ < 256; omega) (by show _ < 256; omega)⟩
  rw [shl8 (by omega)]
  have := xor8 (c := (ix l ((p / 8 : Nat) : Int)).toNat) (d := 2 ^ (p % 8)) (by omega) (by omega)
  rwa [Int.toNat_of_nonneg h.1] at this
theorem flip_bytes {l : List Int} (hb : Bytes l) {p : Nat} (hp : p < 8 * l.length) : Bytes (flip l p) := by
  obtain ⟨c, h1, h2, h3, h4⟩ := flip_val hb hp
  intro x hx
  unfold flip at hx
  rw [h3] at hx
  rcases List.mem_or_eq_of_mem_set hx with h | rfl
  · exact hb x h
  · omega
theorem flip_bit {l : List Int} (hb : Bytes l) {p q : Nat} (hp : p < 8 * l.length) (hq : q < 8 * l.length) : bitAt (flip l p) q = (bitAt l q ^^ decide (q = p)) := by
  obtain ⟨c, h1, h2, h3, h4⟩ := flip_val hb hp
  unfold bitAt
  rw [ix_nat (by rw [flip_len]; omega), ix_nat (l := l) (j := q / 8) (by omega)]
  unfold flip
  rw [List.getElem_set]
  by_cases e : p / 8 = q / 8
  · rw [if_pos e, h3, Int.toNat_natCast, Nat.testBit_xor, Nat.testBit_two_pow]
    have hl : l[q / 8] = (c : Int) := by
      rw [← h2, ← ix_nat (l := l) (j := q / 8) (by omega), e]
    rw [hl, Int.toNat_natCast]
    congr 1
    apply decide_eq_decide.2
    omega
  · rw [if_neg e]
    have : ¬ q = p := fun h => e (by rw [h])
    simp [this]
/-- The first i bits of a pattern turned in, from place k on. -/
def flips (b : List Int) (k w : Nat) : Nat → List Int
  | 0 => b
  | i + 1 => if w.testBit i = true then flip (flips b k w i) (k + i) else flips b k w i
theorem flips_ok {b : List Int} {k w : Nat} (hb : Bytes b) : ∀ i, k + i ≤ 8 * b.length → Bytes (flips b k w i) ∧ (flips b k w i).length = b.length ∧ ∀ p, p < 8 * b.length → bitAt (flips b k w i) p = (bitAt b p ^^ (decide (k ≤ p ∧ p < k + i) && w.testBit (p - k)))
  | 0, _ => by
    refine ⟨hb, rfl, fun p hp => ?_⟩
    have : ¬ (k ≤ p ∧ p < k + 0) := by omega
    simp only [flips, this, decide_false, Bool.false_and, Bool.xor_false]
  | i + 1, h => by
    obtain ⟨h1, h2, h3⟩ := flips_ok (b := b) (k := k) (w := w) hb i (by omega)
    unfold flips
    by_cases hw : w.testBit i = true
    · rw [if_pos hw]
      refine ⟨flip_bytes h1 (by rw [h2]; omega), by rw [flip_len, h2], fun p hp => ?_⟩
      rw [flip_bit h1 (by rw [h2]; omega) (by rw [h2]; omega), h3 p hp, Bool.xor_assoc]
      congr 1
      by_cases e : p = k + i
      · subst e
        have a1 : ¬ (k ≤ k + i ∧ k + i < k + i) := by omega
        have a2 : k ≤ k + i ∧ k + i < k + (i + 1) := by omega
        rw [show k + i - k = i from by omega, hw]
        rw [decide_eq_false a1, decide_eq_true a2, decide_eq_true rfl]
        rfl
      · have a1 : (k ≤ p ∧ p < k + (i + 1)) ↔ (k ≤ p ∧ p < k + i) := by omega
        simp only [a1, e, decide_false, Bool.xor_false]
    · rw [if_neg hw]
      refine ⟨h1, h2, fun p hp => ?_⟩
      rw [h3 p hp]
      congr 1
      by_cases e : p = k + i
      · subst e
        have hf : w.testBit i = false := by simpa using hw
        rw [show k + i - k = i from by omega, hf]
        simp
      · have a1 : (k ≤ p ∧ p < k + (i + 1)) ↔ (k ≤ p ∧ p < k + i) := by omega
        simp only [a1]
end Go.Proofs.Ytpdglhpohkkeiaa.Pure
