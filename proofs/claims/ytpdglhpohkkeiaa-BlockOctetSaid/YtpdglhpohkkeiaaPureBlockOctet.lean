/- The pure statement of BlockOctet. -/
import Derived.Test.YtpdglhpohkkeiaaPBurst
import Derived.Test.YtpdglhpohkkeiaaPLaw07
import Derived.Test.YtpdglhpohkkeiaaOpen
import Derived.Test.YtpdglhpohkkeiaaFrickyardlaw07BlockOctet
set_option linter.unusedVariables false
set_option linter.unusedSimpArgs false
namespace Go.Proofs.Ytpdglhpohkkeiaa.Pure
open Go Go.Xw
theorem rest64 {fu : Nat} {a : Int} : rickyardref01_Rest.f fu a 64 = some (a % 64) := by
  unfold rickyardref01_Rest.f
  have e : Int.tmod a 64 = a % 64 ∨ Int.tmod a 64 = a % 64 - 64 ∧ a % 64 ≠ 0 := by
    rw [Int.tmod_eq_emod]
    split
    · left
      simp
    · right
      rename_i hd
      exact ⟨rfl, by omega⟩
  have w1 : IntKind.i64.wrap (Int.tmod a 64 + 64) = Int.tmod a 64 + 64 := w64 (by omega) (by omega)
  have e2 : Int.tmod (Int.tmod a 64 + 64) 64 = a % 64 := by
    rw [Int.tmod_eq_emod_of_nonneg (by omega)]
    omega
  simp [w1, e2]
theorem rest255 {fu : Nat} {a : Int} : rickyardref01_Rest.f fu a 255 = some (a % 255) := by
  unfold rickyardref01_Rest.f
  have e : Int.tmod a 255 = a % 255 ∨ Int.tmod a 255 = a % 255 - 255 ∧ a % 255 ≠ 0 := by
    rw [Int.tmod_eq_emod]
    split
    · left
      simp
    · right
      rename_i hd
      exact ⟨rfl, by omega⟩
  have w1 : IntKind.i64.wrap (Int.tmod a 255 + 255) = Int.tmod a 255 + 255 := w64 (by omega) (by omega)
  have e2 : Int.tmod (Int.tmod a 255 + 255) 255 = a % 255 := by
    rw [Int.tmod_eq_emod_of_nonneg (by omega)]
    omega
  simp [w1, e2]
/-- One octet turned by w. -/
def turn1 (b : List Int) (k w : Nat) : List Int := b.set k (bXor .u8 (ix b (k : Int)) (w : Int))
theorem turn1_ok {b : List Int} {k w : Nat} (hb : Bytes b) (hk : k < b.length) (hw : w < 256) : Bytes (turn1 b k w) ∧ (turn1 b k w).length = b.length ∧ turn1 (turn1 b k w) k w = b ∧ ∀ p, p < 8 * b.length → bitAt (turn1 b k w) p = (bitAt b p ^^ (decide (p / 8 = k) && w.testBit (p % 8))) := by
  have hc := ix_byte hb k hk
  obtain ⟨c, hcc⟩ : ∃ c : Nat, ix b (k : Int) = (c : Int) := ⟨(ix b (k : Int)).toNat, by omega⟩
  have hx : bXor .u8 (ix b (k : Int)) (w : Int) = ((c ^^^ w : Nat) : Int) := by
    rw [hcc]
    exact xor8 (by omega) hw
  have hlt : c ^^^ w < 2 ^ 8 := Nat.xor_lt_two_pow (by show c < 256; omega) hw
  have hg : b[k] = (c : Int) := by rw [← hcc, ix_nat hk]
  have ht : turn1 b k w = b.set k ((c ^^^ w : Nat) : Int) := by
    unfold turn1
    rw [hx]
  refine ⟨?_, by simp [turn1], ?_, ?_⟩
  · intro x hxm
    rw [ht] at hxm
    rcases List.mem_or_eq_of_mem_set hxm with h | rfl
    · exact hb x h
    · have : (2 : Nat) ^ 8 = 256 := rfl
      omega
  · rw [ht]
    unfold turn1
    have hk2 : k < (b.set k ((c ^^^ w : Nat) : Int)).length := by simpa using hk
    rw [ix_nat hk2, List.getElem_set_self, xor8 hlt hw, Nat.xor_assoc, Nat.xor_self, Nat.xor_zero, List.set_set, ← hg, List.set_getElem_self]
  · intro p hp
    rw [ht]
    unfold bitAt
    rw [ix_nat (by rw [List.length_set]; omega), ix_nat (l := b) (j := p / 8) (by omega), List.getElem_set]
    by_cases e : k = p / 8
    · subst e
      rw [if_pos rfl, hg, Int.toNat_natCast, Int.toNat_natCast, Nat.testBit_xor]
      simp
    · rw [if_neg e]
      have : ¬ p / 8 = k := fun h => e h.symm
      simp [this]
theorem octet_is {b : List Int} {k w : Nat} (hb : Bytes b) (hbl : b.length = 64) (hk : k < 64) (hw : w < 256) (h0 : w ≠ 0) (hi : Is b) : ¬ Is (turn1 b k w) := by
  obtain ⟨t1, t2, _, t3⟩ := turn1_ok (w := w) hb (by omega : k < b.length) hw
  obtain ⟨K, s, hK, hks, hs⟩ : ∃ K s : Nat, (K = 0 ∨ 32 ≤ K ∧ K + 32 ≤ 512) ∧ 8 * k = K + s ∧ s ≤ 24 := by
    by_cases h4 : k < 4
    · exact ⟨0, 8 * k, .inl rfl, by omega, by omega⟩
    · by_cases h60 : k ≤ 60
      · exact ⟨8 * k, 0, .inr (by omega), by omega, by omega⟩
      · exact ⟨480, 8 * k - 480, .inr (by omega), by omega, by omega⟩
  have hlt : w <<< s < 2 ^ 32 := by
    rw [Nat.shiftLeft_eq]
    have h1 : 2 ^ s ≤ 2 ^ 24 := Nat.pow_le_pow_right (by decide) hs
    have h2 : w * 2 ^ s ≤ 255 * 2 ^ 24 := Nat.mul_le_mul (by omega) h1
    exact Nat.lt_of_le_of_lt h2 (by decide)
  have hne : w <<< s ≠ 0 := by
    rw [Nat.shiftLeft_eq]
    have : 0 < 2 ^ s := Nat.pow_pos (by decide)
    exact Nat.mul_ne_zero h0 (by omega)
  refine turned (k := K) (w := w <<< s) hb t1 hbl (by rw [t2, hbl]) hlt hne hK ?_ hi
  intro p hp
  rw [t3 p (by omega)]
  congr 1
  unfold pat
  rw [Nat.testBit_shiftLeft]
  by_cases hin : p / 8 = k
  · have a1 : K ≤ p ∧ p < K + 32 := by omega
    have a2 : p - K ≥ s := by omega
    rw [show p - K - s = p % 8 from by omega, decide_eq_true hin, decide_eq_true a1, decide_eq_true a2]
    rfl
  · rw [decide_eq_false hin]
    by_cases a1 : K ≤ p ∧ p < K + 32
    · by_cases a2 : p - K ≥ s
      · have : w.testBit (p - K - s) = false := by
          apply Nat.testBit_lt_two_pow
          have h8 : 8 ≤ p - K - s := by omega
          exact Nat.lt_of_lt_of_le hw (Nat.pow_le_pow_right (n := 2) (by decide) h8)
        simp [this]
      · simp [a2]
    · simp [a1]
theorem BlockOctet : ∀ (a0 : Int) (a1 : Int) (a2 : Int), (Lit.int .u8 a0).wf = true → (Lit.int .u8 a1).wf = true → (Lit.int .i64 a2).wf = true → ∃ fu, rickyardlaw07_BlockOctet.f fu a0 a1 a2 = some true := by
  intro kind tag at_ hk ht ha
  refine ⟨400, ?_⟩
  have hk' := wf8.1 hk
  have ht' := wf8.1 ht
  have ha' := wf64.1 ha
  unfold rickyardlaw07_BlockOctet.f
  rw [awake07 (by decide : 100 < 400)]
  by_cases h0 : kind = 0
  · simp [h0]
  · have w1 : IntKind.i64.wrap kind = kind := w64 (by omega) (by omega)
    have w2 : IntKind.i64.wrap tag = tag := w64 (by omega) (by omega)
    have hbody : Bytes [98, 111, 100, 121] := by
      intro x hx
      simp only [List.mem_cons, List.not_mem_nil, or_false] at hx
      rcases hx with rfl | rfl | rfl | rfl <;> omega
    have hsb := sealed_bytes (summed_bytes (k := kind) (t := tag) hk' ht' hbody)
    have hsl := sealed_len (summed_len (k := kind) (t := tag) (body := [98, 111, 100, 121]) (by decide))
    have hsi : Is (sealed (summed kind tag [98, 111, 100, 121])) := is_sealed h0 (by decide)
    have hseal : block_Seal.f 400 kind tag [98, 111, 100, 121] = some (sealed (summed kind tag [98, 111, 100, 121]), true) := seal_eq hbody (by omega) ht' (by decide) (by decide)
    simp only [w1, w2, hseal, Option.bind_some, rest64, rest255]
    generalize sealed (summed kind tag [98, 111, 100, 121]) = b at hsb hsl hsi
    obtain ⟨k, hkk⟩ : ∃ k : Nat, at_ % 64 = (k : Int) := ⟨(at_ % 64).toNat, by omega⟩
    have hk64 : k < 64 := by omega
    generalize IntKind.i64.wrap (Int.tdiv at_ 64) = z
    obtain ⟨w, hww⟩ : ∃ w : Nat, 1 + z % 255 = (w : Int) := ⟨(1 + z % 255).toNat, by omega⟩
    have hw : w < 256 := by omega
    have hw0 : w ≠ 0 := by omega
    have w3 : IntKind.u8.wrap (IntKind.i64.wrap (1 + z % 255)) = (w : Int) := by
      rw [w64 (by omega) (by omega), wu8 (by omega) (by omega), hww]
    obtain ⟨t1, t2, t3, _⟩ := turn1_ok (w := w) hsb (by omega : k < b.length) hw
    have hne := octet_is hsb hsl hk64 hw hw0 hsi
    have e1 : List.set b (Int.toNat (k : Int)) (bXor .u8 (ix b (k : Int)) (w : Int)) = turn1 b k w := by
      rw [Int.toNat_natCast]
      rfl
    have e2 : List.set (turn1 b k w) (Int.toNat (k : Int)) (bXor .u8 (ix (turn1 b k w) (k : Int)) (w : Int)) = b := by
      rw [Int.toNat_natCast]
      exact t3
    have o1 : block_Open.f 400 (turn1 b k w) = some (0, 0, [], false) := by rw [open_eq t1 (by rw [t2, hsl]; decide) (by decide), if_neg hne]
    have o2 : block_Open.f 400 b = some (ix b 4, ix b 5, b.drop 8, true) := by rw [open_eq hsb (by rw [hsl]; decide) (by decide), if_pos hsi]
    have c1 : 0 ≤ (k : Int) ∧ (k : Int) < (b.length : Int) := by omega
    have c2 : 0 ≤ (k : Int) ∧ (k : Int) < ((turn1 b k w).length : Int) := by rw [t2]; omega
    simp only [hkk, w3, e1, e2, o1, o2, Option.bind_some]
    simp [h0, hsl, t2, hk64]
    omega
end Go.Proofs.Ytpdglhpohkkeiaa.Pure
