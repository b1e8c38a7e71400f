/- The pure statement of BlockTurned. -/
import Derived.Test.YtpdglhpohkkeiaaPBurst
import Derived.Test.YtpdglhpohkkeiaaPLaw07
import Derived.Test.YtpdglhpohkkeiaaOpen
import Derived.Test.YtpdglhpohkkeiaaFrickyardlaw07BlockTurned
set_option linter.unusedVariables false
set_option linter.unusedSimpArgs false
namespace Go.Proofs.Ytpdglhpohkkeiaa.Pure
open Go Go.Xw
theorem wf32 {n : Int} : (Lit.int .u32 n).wf = true ↔ 0 ≤ n ∧ n ≤ 4294967295 := by
  simp only [Lit.wf, IntKind.min, IntKind.max, IntKind.signed, IntKind.bits, Bool.and_eq_true, decide_eq_true_eq]
  simp
theorem arr_get {n : Nat} (a : Arr n Int) (i : Nat) (h : i < n) : Arr.get a (i : Int) ∈ a.l := by
  unfold Arr.get
  rw [ix_nat (by rw [a.h]; exact h)]
  exact List.getElem_mem _
theorem bit_test {w i : Nat} (hw : w < 2 ^ 32) (hi : i < 32) : decide (bAnd .u32 (shR .u32 (w : Int) (i : Int)) 1 = 1) = w.testBit i := by
  have e : (w : Int) = I32 (BitVec.ofNat 32 w) := by
    unfold I32
    rw [BitVec.toNat_ofNat, Nat.mod_eq_of_lt hw]
  have e1 : bAnd .u32 (I32 (BitVec.ofNat 32 w >>> i)) 1 = I32 (BitVec.ofNat 32 w >>> i &&& 1#32) := ba32 _ 1#32
  rw [e, sr32 _ i (by omega), e1]
  rw [Bool.eq_iff_iff, decide_eq_true_eq, lsb_and, BitVec.getLsbD_ushiftRight, BitVec.getLsbD_ofNat]
  simp [hi]
theorem BlockTurned : ∀ (a0 : Int) (a1 : Arr 56 Int) (a2 : Arr 2 Int), (Lit.int .u8 a0).wf = true → (∀ x ∈ a1.l, (Lit.int .u8 x).wf = true) → (∀ x ∈ a2.l, (Lit.int .u32 x).wf = true) → ∃ fu, rickyardlaw07_BlockTurned.f fu a0 a1 a2 = some true := by
  intro t body turn ht hbody hturn
  refine ⟨400, ?_⟩
  have ht' := wf8.1 ht
  have hb : Bytes body.l := bytes_of hbody
  have hat := wf32.1 (hturn _ (arr_get turn 0 (by decide)))
  have hwi := wf32.1 (hturn _ (arr_get turn 1 (by decide)))
  rw [show ((0 : Nat) : Int) = 0 from rfl] at hat
  rw [show ((1 : Nat) : Int) = 1 from rfl] at hwi
  unfold rickyardlaw07_BlockTurned.f
  rw [awake07 (by decide : 100 < 400)]
  by_cases h0 : Arr.get turn 1 = 0
  · simp [h0]
  · have w1 : IntKind.i64.wrap t = t := w64 (by omega) (by omega)
    have e1 : Int.tmod t 255 = t % 255 := Int.tmod_eq_emod_of_nonneg ht'.1
    have w2 : IntKind.i64.wrap (1 + t % 255) = 1 + t % 255 := w64 (by omega) (by omega)
    have w3 : IntKind.i64.wrap (Arr.get turn 0) = Arr.get turn 0 := w64 (by omega) (by omega)
    have e2 : Int.tmod (Arr.get turn 0) 8 = Arr.get turn 0 % 8 := Int.tmod_eq_emod_of_nonneg hat.1
    have e3 : Int.tmod (Arr.get turn 0) 449 = Arr.get turn 0 % 449 := Int.tmod_eq_emod_of_nonneg hat.1
    have w4 : IntKind.i64.wrap (32 + Arr.get turn 0 % 449) = 32 + Arr.get turn 0 % 449 := w64 (by omega) (by omega)
    have hl : body.l.length = 56 := body.h
    have hsb := sealed_bytes (summed_bytes (k := 1 + t % 255) (t := t) (by omega) ht' hb)
    have hsl := sealed_len (summed_len (k := 1 + t % 255) (t := t) (body := body.l) (by omega))
    have hsi : Is (sealed (summed (1 + t % 255) t body.l)) := is_sealed (by omega) (by omega)
    have hseal : block_Seal.f 400 (1 + t % 255) t body.l = some (sealed (summed (1 + t % 255) t body.l), true) := seal_eq hb (by omega) ht' (by omega) (by decide)
    simp only [w1, e1, w2, w3, e2, e3, w4, hseal, Option.bind_some]
    generalize sealed (summed (1 + t % 255) t body.l) = b at hsb hsl hsi
    obtain ⟨w, hw⟩ : ∃ w : Nat, Arr.get turn 1 = (w : Int) := ⟨(Arr.get turn 1).toNat, by omega⟩
    obtain ⟨k, hk, hk2⟩ : ∃ k : Nat, (if (!decide (Arr.get turn 0 % 8 = 0)) = true then some (32 + Arr.get turn 0 % 449) else some (0 : Int)) = some (k : Int) ∧ (k = 0 ∨ 32 ≤ k ∧ k + 32 ≤ 512) := by
      by_cases h8 : Arr.get turn 0 % 8 = 0
      · exact ⟨0, by simp [h8], .inl rfl⟩
      · refine ⟨(32 + Arr.get turn 0 % 449).toNat, ?_, .inr (by omega)⟩
        simp [h8]
        omega
    have hw32 : w < 2 ^ 32 := by
      have : (2 : Nat) ^ 32 = 4294967296 := by decide
      omega
    have loop : loopM (rickyardlaw07_BlockTurned.s0 400 turn (k : Int)) 400 (0, b) = some (flips b k w 32) := by
      refine loopM_run (S := fun i => ((i : Int), flips b k w i)) 32 rfl ?_ ?_ (by decide)
      · intro i hi
        obtain ⟨f1, f2, f3⟩ := flips_ok (w := w) hsb i (by omega : k + i ≤ 8 * b.length)
        unfold rickyardlaw07_BlockTurned.s0
        have h1 : (i : Int) < 32 := by omega
        have i0 : 0 ≤ (i : Int) := by omega
        have x1 : IntKind.i64.wrap ((i : Int) + 1) = ((i + 1 : Nat) : Int) := by rw [w64 (by omega) (by omega)]; omega
        have x2 : IntKind.i64.wrap ((k : Int) + (i : Int)) = ((k + i : Nat) : Int) := by rw [w64 (by omega) (by omega)]; omega
        have x3 : Int.tdiv ((k + i : Nat) : Int) 8 = (((k + i) / 8 : Nat) : Int) := by rw [Int.tdiv_eq_ediv_of_nonneg (by omega)]; omega
        have x4 : Int.tmod ((k + i : Nat) : Int) 8 = (((k + i) % 8 : Nat) : Int) := by rw [Int.tmod_eq_emod_of_nonneg (by omega)]; omega
        have x5 : IntKind.i64.wrap (((k + i) / 8 : Nat) : Int) = (((k + i) / 8 : Nat) : Int) := w64 (by omega) (by omega)
        have c1 : 0 ≤ (((k + i) / 8 : Nat) : Int) ∧ (((k + i) / 8 : Nat) : Int) < ((flips b k w i).length : Int) := by omega
        have c2 : 0 ≤ (((k + i) % 8 : Nat) : Int) := by omega
        simp only [h1, i0, decide_true, if_true, hw, bit_test hw32 hi, x1, x2, x3, x4, x5]
        cases hbw : w.testBit i
        · simp only [flips, hbw, Bool.false_eq_true, if_false, Option.bind_some]
        · simp only [flips, hbw, if_true]
          rw [if_pos c1, if_pos c2, if_pos c1]
          rfl
      · unfold rickyardlaw07_BlockTurned.s0
        simp
    obtain ⟨f1, f2, f3⟩ := flips_ok (w := w) hsb 32 (by omega : k + 32 ≤ 8 * b.length)
    have hne : ¬ Is (flips b k w 32) := turned hsb f1 hsl (by rw [f2, hsl]) hw32 (by omega) hk2 (fun p hp => f3 p (by rw [hsl]; omega)) hsi
    have hlen : (flips b k w 32).length ≤ 9000000000000000000 := by rw [f2, hsl]; decide
    have ho : block_Open.f 400 (flips b k w 32) = some (0, 0, [], false) := by rw [open_eq f1 hlen (by decide), if_neg hne]
    have hkd : block_Kind.f 400 (flips b k w 32) = some 0 := by rw [kind_eq f1 hlen (by decide), if_neg hne]
    simp only [hk, Option.bind_some, loop, ho, hkd]
    simp [h0, hsl]
end Go.Proofs.Ytpdglhpohkkeiaa.Pure
