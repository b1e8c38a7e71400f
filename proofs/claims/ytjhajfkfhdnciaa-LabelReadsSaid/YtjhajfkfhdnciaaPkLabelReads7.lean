/- LabelReads: texts merged, part 7 of 7. The last part proves that the law LabelReads holds for every input. -/
import Derived.Test.YtjhajfkfhdnciaaPkLabelReads6
/- Which texts are names. -/
set_option linter.unusedVariables false
set_option linter.unusedSimpArgs false
namespace Go.Proofs.Ytjhajfkfhdnciaa.Pure
open Go Go.Xw
theorem rune_first (s : List UInt8) (i : Nat) : runeAt s (i : Int) = ((first (s.drop i)).1 : Int) ∧ wideAt s (i : Int) = ((first (s.drop i)).2 : Int) := by
  unfold runeAt wideAt
  rw [Int.toNat_natCast, decode_eq]
  exact ⟨rfl, rfl⟩
theorem follows_eq (fu : Nat) (m : List UInt8) (k : Nat) (lo hi : Int) : rickyardref04_follows.f fu m (k : Int) lo hi = some (decide (k < m.length ∧ lo ≤ (oct m k : Int) ∧ (oct m k : Int) ≤ hi)) := by
  unfold rickyardref04_follows.f
  have e : ofB (List.getD m (Int.toNat (k : Int)) 0) = (oct m k : Int) := rfl
  rw [e]
  by_cases h1 : k < m.length
  · have h1' : (k : Int) < (m.length : Int) := by omega
    have c1 : 0 ≤ (k : Int) ∧ (k : Int) < (m.length : Int) := by omega
    rw [decide_eq_true h1', if_pos rfl, if_pos c1]
    by_cases h2 : (oct m k : Int) ≥ lo
    · rw [decide_eq_true h2, if_pos rfl, if_pos c1]
      exact congrArg some (decide_eq_decide.2 ⟨fun x => ⟨h1, h2, x⟩, fun x => x.2.2⟩)
    · rw [decide_eq_false h2, decide_eq_false (fun x : k < m.length ∧ lo ≤ (oct m k : Int) ∧ (oct m k : Int) ≤ hi => h2 x.2.1)]
      rfl
  · have h1' : ¬ (k : Int) < (m.length : Int) := by omega
    rw [decide_eq_false h1', decide_eq_false (fun x : k < m.length ∧ lo ≤ (oct m k : Int) ∧ (oct m k : Int) ≤ hi => h1 x.1)]
    rfl
theorem wrap8 {c k : Nat} (h : k ≤ c) (hc : c < 256) : IntKind.i64.wrap (IntKind.u8.wrap ((c : Int) - (k : Int))) = ((c - k : Nat) : Int) := by
  rw [wu8 (by omega) (by omega), w64 (by omega) (by omega)]
  omega
theorem first_eq {fu : Nat} {m : List UInt8} (hm : 0 < m.length) : rickyardref04_First.f fu m = some (((first m).1 : Int), ((first m).2 : Int)) := by
  unfold rickyardref04_First.f
  have hm' : (0 : Int) < (m.length : Int) := by omega
  have o0 : ofB (List.getD m (Int.toNat 0) 0) = (oct m 0 : Int) := rfl
  have o1 : ofB (List.getD m (Int.toNat 1) 0) = (oct m 1 : Int) := rfl
  have o2 : ofB (List.getD m (Int.toNat 2) 0) = (oct m 2 : Int) := rfl
  have o3 : ofB (List.getD m (Int.toNat 3) 0) = (oct m 3 : Int) := rfl
  have b0 := oct_lt m 0
  have b1 := oct_lt m 1
  have b2 := oct_lt m 2
  have b3 := oct_lt m 3
  have f1 := fun lo hi => follows_eq fu m 1 lo hi
  have f2 := fun lo hi => follows_eq fu m 2 lo hi
  have f3 := fun lo hi => follows_eq fu m 3 lo hi
  rw [show ((1 : Nat) : Int) = 1 from rfl] at f1
  rw [show ((2 : Nat) : Int) = 2 from rfl] at f2
  rw [show ((3 : Nat) : Int) = 3 from rfl] at f3
  rw [if_pos hm']
  simp only [o0, o1, o2, o3, f1, f2, f3, Option.bind_some]
  unfold first
  generalize oct m 0 = c0 at *
  generalize oct m 1 = c1 at *
  generalize oct m 2 = c2 at *
  generalize oct m 3 = c3 at *
  generalize m.length = n at *
  unfold fst4
  by_cases h0 : c0 < 128
  · have h0' : (c0 : Int) < 128 := by omega
    rw [decide_eq_true h0', if_pos rfl, if_pos h0, w64 (by omega) (by omega)]
    rfl
  · have h0' : ¬ (c0 : Int) < 128 := by omega
    rw [decide_eq_false h0', if_neg (by decide), if_neg h0]
    by_cases h2 : (194 ≤ c0 ∧ c0 ≤ 223) ∧ (1 < n ∧ 128 ≤ c1 ∧ c1 ≤ 191)
    · obtain ⟨⟨r1, r2⟩, k1⟩ := h2
      have g1 : (c0 : Int) ≥ 194 := by omega
      have g2 : (c0 : Int) ≤ 223 := by omega
      have g3 : 1 < n ∧ (128 : Int) ≤ (c1 : Int) ∧ (c1 : Int) ≤ 191 := by omega
      have g4 : (1 : Int) < (n : Int) := by omega
      have w1 : IntKind.i64.wrap (IntKind.u8.wrap ((c0 : Int) - 192)) = ((c0 - 192 : Nat) : Int) := wrap8 (k := 192) (by omega) b0
      have w2 : IntKind.i64.wrap (IntKind.u8.wrap ((c1 : Int) - 128)) = ((c1 - 128 : Nat) : Int) := wrap8 (k := 128) (by omega) b1
      rw [if_pos (show (194 ≤ c0 ∧ c0 ≤ 223) ∧ (1 < n ∧ 128 ≤ c1 ∧ c1 ≤ 191) from ⟨⟨r1, r2⟩, k1⟩), decide_eq_true g1, decide_eq_true g2, decide_eq_true g3, w1, w2, w64 (n := ((c0 - 192 : Nat) : Int) * 64) (by omega) (by omega), w64 (by omega) (by omega)]
      simp only [if_true, Option.bind_some, if_pos g4]
      exact congrArg some (Prod.ext (by simp) rfl)
    · rw [if_neg h2]
      have x3 : (if decide ((c0 : Int) ≥ 194) = true then (if decide ((c0 : Int) ≤ 223) = true then (some (decide (1 < n ∧ (128 : Int) ≤ (c1 : Int) ∧ (c1 : Int) ≤ 191))).bind fun t7 => some t7 else some false) else some false) = some false := by
        by_cases g1 : (c0 : Int) ≥ 194
        · by_cases g2 : (c0 : Int) ≤ 223
          · have g3 : ¬ (1 < n ∧ (128 : Int) ≤ (c1 : Int) ∧ (c1 : Int) ≤ 191) := fun x => h2 ⟨by omega, by omega⟩
            rw [decide_eq_true g1, decide_eq_true g2, decide_eq_false g3]
            rfl
          · rw [decide_eq_true g1, decide_eq_false g2]
            rfl
        · rw [decide_eq_false g1]
          rfl
      simp only [Option.bind_some] at x3
      rw [x3, Option.bind_some, if_neg (by decide)]
      by_cases r3 : 224 ≤ c0 ∧ c0 ≤ 239
      · have g1 : (c0 : Int) ≥ 224 := by omega
        have g2 : (c0 : Int) ≤ 239 := by omega
        rw [decide_eq_true g1, decide_eq_true g2]
        have x23 : (if decide ((c0 : Int) = 224) = true then some (160 : Int) else some 128) = some (((if c0 = 224 then 160 else 128 : Nat) : Int)) := by
          by_cases e : c0 = 224
          · rw [decide_eq_true (by omega : (c0 : Int) = 224), if_pos e]
            rfl
          · rw [decide_eq_false (by omega : ¬ (c0 : Int) = 224), if_neg e]
            rfl
        have x29 : (if decide ((c0 : Int) = 237) = true then some (159 : Int) else some 191) = some (((if c0 = 237 then 159 else 191 : Nat) : Int)) := by
          by_cases e : c0 = 237
          · rw [decide_eq_true (by omega : (c0 : Int) = 237), if_pos e]
            rfl
          · rw [decide_eq_false (by omega : ¬ (c0 : Int) = 237), if_neg e]
            rfl
        simp only [if_true, x23, x29, Option.bind_some]
        have n4 : ¬ ((240 ≤ c0 ∧ c0 ≤ 244) ∧ (1 < n ∧ (if c0 = 240 then 144 else 128) ≤ c1 ∧ c1 ≤ (if c0 = 244 then 143 else 191)) ∧ (2 < n ∧ 128 ≤ c2 ∧ c2 ≤ 191) ∧ (3 < n ∧ 128 ≤ c3 ∧ c3 ≤ 191)) := fun x => by have := x.1; omega
        by_cases a1 : 1 < n ∧ (if c0 = 224 then 160 else 128) ≤ c1 ∧ c1 ≤ (if c0 = 237 then 159 else 191)
        · have a1' : 1 < n ∧ (((if c0 = 224 then 160 else 128 : Nat) : Int)) ≤ (c1 : Int) ∧ (c1 : Int) ≤ (((if c0 = 237 then 159 else 191 : Nat) : Int)) := ⟨a1.1, Int.ofNat_le.2 a1.2.1, Int.ofNat_le.2 a1.2.2⟩
          rw [decide_eq_true a1']
          by_cases a2 : 2 < n ∧ 128 ≤ c2 ∧ c2 ≤ 191
          · have a2' : 2 < n ∧ (128 : Int) ≤ (c2 : Int) ∧ (c2 : Int) ≤ 191 := by omega
            have q1 : (128 : Nat) ≤ if c0 = 224 then 160 else 128 := by split <;> omega
            have k1 : 128 ≤ c1 := Nat.le_trans q1 a1.2.1
            have g4 : (1 : Int) < (n : Int) := by omega
            have g5 : (2 : Int) < (n : Int) := by omega
            have w0 : IntKind.i64.wrap (IntKind.u8.wrap ((c0 : Int) - 224)) = ((c0 - 224 : Nat) : Int) := wrap8 (k := 224) (by omega) b0
            have w1 : IntKind.i64.wrap (IntKind.u8.wrap ((c1 : Int) - 128)) = ((c1 - 128 : Nat) : Int) := wrap8 (k := 128) (by omega) b1
            have w2 : IntKind.i64.wrap (IntKind.u8.wrap ((c2 : Int) - 128)) = ((c2 - 128 : Nat) : Int) := wrap8 (k := 128) (by omega) b2
            rw [decide_eq_true a2', if_pos (show (224 ≤ c0 ∧ c0 ≤ 239) ∧ (1 < n ∧ (if c0 = 224 then 160 else 128) ≤ c1 ∧ c1 ≤ (if c0 = 237 then 159 else 191)) ∧ (2 < n ∧ 128 ≤ c2 ∧ c2 ≤ 191) from ⟨r3, a1, a2⟩)]
            simp only [if_true, Option.bind_some, if_pos g4, if_pos g5, w0, w1, w2]
            rw [w64 (n := ((c0 - 224 : Nat) : Int) * 4096) (by omega) (by omega), w64 (n := ((c1 - 128 : Nat) : Int) * 64) (by omega) (by omega), w64 (n := ((c0 - 224 : Nat) : Int) * 4096 + ((c1 - 128 : Nat) : Int) * 64) (by omega) (by omega), w64 (by omega) (by omega)]
            exact congrArg some (Prod.ext (by simp) rfl)
          · have a2' : ¬ (2 < n ∧ (128 : Int) ≤ (c2 : Int) ∧ (c2 : Int) ≤ 191) := by omega
            rw [decide_eq_false a2', if_neg (show ¬ ((224 ≤ c0 ∧ c0 ≤ 239) ∧ (1 < n ∧ (if c0 = 224 then 160 else 128) ≤ c1 ∧ c1 ≤ (if c0 = 237 then 159 else 191)) ∧ (2 < n ∧ 128 ≤ c2 ∧ c2 ≤ 191)) from fun x => a2 x.2.2), if_neg n4]
            rfl
        · have a1' : ¬ (1 < n ∧ (((if c0 = 224 then 160 else 128 : Nat) : Int)) ≤ (c1 : Int) ∧ (c1 : Int) ≤ (((if c0 = 237 then 159 else 191 : Nat) : Int))) := fun x => a1 ⟨x.1, Int.ofNat_le.1 x.2.1, Int.ofNat_le.1 x.2.2⟩
          rw [decide_eq_false a1', if_neg (show ¬ ((224 ≤ c0 ∧ c0 ≤ 239) ∧ (1 < n ∧ (if c0 = 224 then 160 else 128) ≤ c1 ∧ c1 ≤ (if c0 = 237 then 159 else 191)) ∧ (2 < n ∧ 128 ≤ c2 ∧ c2 ≤ 191)) from fun x => a1 x.2.1), if_neg n4]
          rfl
      · have x9 : (if decide ((c0 : Int) ≥ 224) = true then decide ((c0 : Int) ≤ 239) else false) = false := by
          by_cases g1 : (c0 : Int) ≥ 224
          · rw [decide_eq_true g1, if_pos rfl, decide_eq_false (by omega)]
          · rw [decide_eq_false g1]
            rfl
        rw [x9, if_neg (by decide), if_neg (show ¬ ((224 ≤ c0 ∧ c0 ≤ 239) ∧ _) from fun x => r3 x.1)]
        by_cases r4 : 240 ≤ c0 ∧ c0 ≤ 244
        · have g1 : (c0 : Int) ≥ 240 := by omega
          have g2 : (c0 : Int) ≤ 244 := by omega
          rw [decide_eq_true g1, decide_eq_true g2]
          have x62 : (if decide ((c0 : Int) = 240) = true then some (144 : Int) else some 128) = some (((if c0 = 240 then 144 else 128 : Nat) : Int)) := by
            by_cases e : c0 = 240
            · rw [decide_eq_true (by omega : (c0 : Int) = 240), if_pos e]
              rfl
            · rw [decide_eq_false (by omega : ¬ (c0 : Int) = 240), if_neg e]
              rfl
          have x68 : (if decide ((c0 : Int) = 244) = true then some (143 : Int) else some 191) = some (((if c0 = 244 then 143 else 191 : Nat) : Int)) := by
            by_cases e : c0 = 244
            · rw [decide_eq_true (by omega : (c0 : Int) = 244), if_pos e]
              rfl
            · rw [decide_eq_false (by omega : ¬ (c0 : Int) = 244), if_neg e]
              rfl
          simp only [if_true, x62, x68, Option.bind_some]
          by_cases a1 : 1 < n ∧ (if c0 = 240 then 144 else 128) ≤ c1 ∧ c1 ≤ (if c0 = 244 then 143 else 191)
          · have a1' : 1 < n ∧ (((if c0 = 240 then 144 else 128 : Nat) : Int)) ≤ (c1 : Int) ∧ (c1 : Int) ≤ (((if c0 = 244 then 143 else 191 : Nat) : Int)) := ⟨a1.1, Int.ofNat_le.2 a1.2.1, Int.ofNat_le.2 a1.2.2⟩
            rw [decide_eq_true a1']
            by_cases a2 : 2 < n ∧ 128 ≤ c2 ∧ c2 ≤ 191
            · have a2' : 2 < n ∧ (128 : Int) ≤ (c2 : Int) ∧ (c2 : Int) ≤ 191 := by omega
              rw [decide_eq_true a2']
              by_cases a3 : 3 < n ∧ 128 ≤ c3 ∧ c3 ≤ 191
              · have a3' : 3 < n ∧ (128 : Int) ≤ (c3 : Int) ∧ (c3 : Int) ≤ 191 := by omega
                have q1 : (128 : Nat) ≤ if c0 = 240 then 144 else 128 := by split <;> omega
                have k1 : 128 ≤ c1 := Nat.le_trans q1 a1.2.1
                have g4 : (1 : Int) < (n : Int) := by omega
                have g5 : (2 : Int) < (n : Int) := by omega
                have g6 : (3 : Int) < (n : Int) := by omega
                have w0 : IntKind.i64.wrap (IntKind.u8.wrap ((c0 : Int) - 240)) = ((c0 - 240 : Nat) : Int) := wrap8 (k := 240) (by omega) b0
                have w1 : IntKind.i64.wrap (IntKind.u8.wrap ((c1 : Int) - 128)) = ((c1 - 128 : Nat) : Int) := wrap8 (k := 128) (by omega) b1
                have w2 : IntKind.i64.wrap (IntKind.u8.wrap ((c2 : Int) - 128)) = ((c2 - 128 : Nat) : Int) := wrap8 (k := 128) (by omega) b2
                have w3 : IntKind.i64.wrap (IntKind.u8.wrap ((c3 : Int) - 128)) = ((c3 - 128 : Nat) : Int) := wrap8 (k := 128) (by omega) b3
                rw [decide_eq_true a3', if_pos (show (240 ≤ c0 ∧ c0 ≤ 244) ∧ (1 < n ∧ (if c0 = 240 then 144 else 128) ≤ c1 ∧ c1 ≤ (if c0 = 244 then 143 else 191)) ∧ (2 < n ∧ 128 ≤ c2 ∧ c2 ≤ 191) ∧ (3 < n ∧ 128 ≤ c3 ∧ c3 ≤ 191) from ⟨r4, a1, a2, a3⟩)]
                simp only [if_true, Option.bind_some, if_pos g4, if_pos g5, if_pos g6, w0, w1, w2, w3]
                rw [w64 (n := ((c0 - 240 : Nat) : Int) * 262144) (by omega) (by omega), w64 (n := ((c1 - 128 : Nat) : Int) * 4096) (by omega) (by omega), w64 (n := ((c2 - 128 : Nat) : Int) * 64) (by omega) (by omega), w64 (n := ((c0 - 240 : Nat) : Int) * 262144 + ((c1 - 128 : Nat) : Int) * 4096) (by omega) (by omega), w64 (n := ((c0 - 240 : Nat) : Int) * 262144 + ((c1 - 128 : Nat) : Int) * 4096 + ((c2 - 128 : Nat) : Int) * 64) (by omega) (by omega), w64 (by omega) (by omega)]
                exact congrArg some (Prod.ext (by simp) rfl)
              · have a3' : ¬ (3 < n ∧ (128 : Int) ≤ (c3 : Int) ∧ (c3 : Int) ≤ 191) := by omega
                rw [decide_eq_false a3', if_neg (show ¬ ((240 ≤ c0 ∧ c0 ≤ 244) ∧ (1 < n ∧ (if c0 = 240 then 144 else 128) ≤ c1 ∧ c1 ≤ (if c0 = 244 then 143 else 191)) ∧ (2 < n ∧ 128 ≤ c2 ∧ c2 ≤ 191) ∧ (3 < n ∧ 128 ≤ c3 ∧ c3 ≤ 191)) from fun x => a3 x.2.2.2)]
                rfl
            · have a2' : ¬ (2 < n ∧ (128 : Int) ≤ (c2 : Int) ∧ (c2 : Int) ≤ 191) := by omega
              rw [decide_eq_false a2', if_neg (show ¬ ((240 ≤ c0 ∧ c0 ≤ 244) ∧ (1 < n ∧ (if c0 = 240 then 144 else 128) ≤ c1 ∧ c1 ≤ (if c0 = 244 then 143 else 191)) ∧ (2 < n ∧ 128 ≤ c2 ∧ c2 ≤ 191) ∧ (3 < n ∧ 128 ≤ c3 ∧ c3 ≤ 191)) from fun x => a2 x.2.2.1)]
              rfl
          · have a1' : ¬ (1 < n ∧ (((if c0 = 240 then 144 else 128 : Nat) : Int)) ≤ (c1 : Int) ∧ (c1 : Int) ≤ (((if c0 = 244 then 143 else 191 : Nat) : Int))) := fun x => a1 ⟨x.1, Int.ofNat_le.1 x.2.1, Int.ofNat_le.1 x.2.2⟩
            rw [decide_eq_false a1', if_neg (show ¬ ((240 ≤ c0 ∧ c0 ≤ 244) ∧ (1 < n ∧ (if c0 = 240 then 144 else 128) ≤ c1 ∧ c1 ≤ (if c0 = 244 then 143 else 191)) ∧ (2 < n ∧ 128 ≤ c2 ∧ c2 ≤ 191) ∧ (3 < n ∧ 128 ≤ c3 ∧ c3 ≤ 191)) from fun x => a1 x.2.1)]
            rfl
        · have x9 : (if decide ((c0 : Int) ≥ 240) = true then decide ((c0 : Int) ≤ 244) else false) = false := by
            by_cases g1 : (c0 : Int) ≥ 240
            · rw [decide_eq_true g1, if_pos rfl, decide_eq_false (by omega)]
            · rw [decide_eq_false g1]
              rfl
          rw [x9, if_neg (by decide), if_neg (show ¬ ((240 ≤ c0 ∧ c0 ≤ 244) ∧ _) from fun x => r4 x.1)]
          rfl
/-! ### Runes -/
def rs : Nat → List UInt8 → List Int
  | 0, _ => []
  | k + 1, m => if m = [] then [] else ((first m).1 : Int) :: rs k (m.drop (first m).2)
theorem rs_len : ∀ (k : Nat) (m : List UInt8), (rs k m).length ≤ m.length
  | 0, _ => by simp [rs]
  | k + 1, m => by
    unfold rs
    split
    · simp
    · rename_i hm
      have h1 := first_wide (List.length_pos_iff.2 hm)
      have h2 := rs_len k (m.drop (first m).2)
      rw [List.length_drop] at h2
      simp only [List.length_cons]
      omega
theorem rrunes_from (fu : Nat) : ∀ (k : Nat) (m : List UInt8) (out : List Int), m.length ≤ k → out.length + m.length ≤ 900 → loopM (rickyardref04_Runes.s0 fu) (k + 1) (m, out) = some (out ++ rs k m)
  | 0, m, out, hk, _ => by
    obtain rfl : m = [] := List.eq_nil_of_length_eq_zero (by omega)
    simp [loopM, rickyardref04_Runes.s0, rs]
  | k + 1, m, out, hk, hl => by
    by_cases hm : m = []
    · subst hm
      simp [loopM, rickyardref04_Runes.s0, rs]
    · have hp := List.length_pos_iff.2 hm
      obtain ⟨h1, h2⟩ := first_wide hp
      have hst : rickyardref04_Runes.s0 fu (m, out) = some (.inr (m.drop (first m).2, out ++ [((first m).1 : Int)])) := by
        unfold rickyardref04_Runes.s0
        have c0 : (m.length : Int) > 0 := by omega
        have c1 : 0 ≤ ((first m).2 : Int) ∧ ((first m).2 : Int) ≤ (m.length : Int) := by omega
        have hlim : out.length + ([((first m).1 : Int)] : List Int).length ≤ LIM := lim_of' (by simp; omega)
        have ec : cut m ((first m).2 : Int) (m.length : Int) = m.drop (first m).2 := by
          unfold cut
          rw [Int.toNat_natCast, Int.toNat_natCast, List.take_length]
        simp only [c0, decide_true, if_true, first_eq hp, Option.bind_some, if_pos hlim, if_pos c1, ec]
      have hu : loopM (rickyardref04_Runes.s0 fu) (k + 1 + 1) (m, out) = loopM (rickyardref04_Runes.s0 fu) (k + 1) (m.drop (first m).2, out ++ [((first m).1 : Int)]) := by
        conv => lhs; unfold loopM
        rw [hst]
      rw [hu, rrunes_from fu k _ _ (by rw [List.length_drop]; omega) (by rw [List.length_append, List.length_drop]; simp; omega)]
      have : rs (k + 1) m = ((first m).1 : Int) :: rs k (m.drop (first m).2) := by
        conv => lhs; unfold rs
        rw [if_neg hm]
      rw [this]
      simp
theorem rrunes_eq {m : List UInt8} (hm : m.length ≤ 300) : rickyardref04_Runes.f 400 m = some (rs 399 m) := by
  unfold rickyardref04_Runes.f
  rw [rrunes_from 400 399 m [] (by omega) (by simp; omega)]
  rfl
/-! ### Which runes -/
def runeOk (r : Int) : Prop := (97 ≤ r ∧ r ≤ 122) ∨ (65 ≤ r ∧ r ≤ 90) ∨ (48 ≤ r ∧ r ≤ 57) ∨ r = 45 ∨ r = 95 ∨ (161 ≤ r ∧ r ≤ 65519)
instance (r : Int) : Decidable (runeOk r) := inferInstanceAs (Decidable (_ ∨ _))
theorem rof_eq (fu : Nat) (r : Int) : rickyardref04_Of.f fu r = some (decide (runeOk r)) := by
  unfold rickyardref04_Of.f
  simp only [decide_eq_true_eq]
  apply congrArg some
  repeat' split
  all_goals first
    | exact (decide_eq_true (by unfold runeOk; omega)).symm
    | exact (decide_eq_false (by unfold runeOk; omega)).symm
    | exact decide_eq_decide.2 (by unfold runeOk; omega)
def spanOf (j : Nat) (r : Int) : Prop := if j = 0 then 97 ≤ r ∧ r ≤ 122 else if j = 1 then 65 ≤ r ∧ r ≤ 90 else if j = 2 then 48 ≤ r ∧ r ≤ 57 else if j = 3 then r = 45 else if j = 4 then r = 95 else 161 ≤ r ∧ r ≤ 65519
theorem of_eq {fu : Nat} (r : Int) (hf : 100 < fu) : name_Of.f fu r = some (decide (runeOk r)) := by
  unfold name_Of.f name_spans.f
  rw [Option.bind_some]
  obtain ⟨A, hA⟩ : ∃ A, A = Arr.set (Arr.set (Arr.set (Arr.set (Arr.set (Arr.set (Arr.rep 6 (⟨(0 : Int), (0 : Int)⟩ : S_name_span)) 0 (⟨97, 122⟩ : S_name_span)) 1 (⟨65, 90⟩ : S_name_span)) 2 (⟨48, 57⟩ : S_name_span)) 3 (⟨45, 45⟩ : S_name_span)) 4 (⟨95, 95⟩ : S_name_span)) 5 (⟨161, 65519⟩ : S_name_span) := ⟨_, rfl⟩
  have g : Arr.get A ((0 : Nat) : Int) = ⟨97, 122⟩ ∧ Arr.get A ((1 : Nat) : Int) = ⟨65, 90⟩ ∧ Arr.get A ((2 : Nat) : Int) = ⟨48, 57⟩ ∧ Arr.get A ((3 : Nat) : Int) = ⟨45, 45⟩ ∧ Arr.get A ((4 : Nat) : Int) = ⟨95, 95⟩ ∧ Arr.get A ((5 : Nat) : Int) = ⟨161, 65519⟩ := by
    subst hA
    exact ⟨rfl, rfl, rfl, rfl, rfl, rfl⟩
  obtain ⟨g0, g1, g2, g3, g4, g5⟩ := g
  rw [← hA]
  have hs : ∀ j : Nat, j < 6 → name_Of.s0 fu r A (j : Int) = some (if (Arr.get A (j : Int)).first ≤ r ∧ r ≤ (Arr.get A (j : Int)).last then .inl (.inl true) else .inr ((j + 1 : Nat) : Int)) := by
    intro j hj
    unfold name_Of.s0
    have h1 : (j : Int) < 6 := by omega
    have c0 : 0 ≤ (j : Int) ∧ True := ⟨by omega, trivial⟩
    have w3 : IntKind.i64.wrap ((j : Int) + 1) = ((j + 1 : Nat) : Int) := by rw [w64 (by omega) (by omega)]; omega
    simp only [h1, decide_true, if_true, w3, if_pos c0]
    by_cases a1 : (Arr.get A (j : Int)).first ≤ r
    · by_cases a2 : r ≤ (Arr.get A (j : Int)).last <;> simp [a1, a2]
    · simp [a1]
  have six : ∀ p : Nat → Prop, (∀ j, j < 6 → p j) ↔ (p 0 ∧ p 1 ∧ p 2 ∧ p 3 ∧ p 4 ∧ p 5) := by
    intro p
    constructor
    · intro h
      exact ⟨h 0 (by omega), h 1 (by omega), h 2 (by omega), h 3 (by omega), h 4 (by omega), h 5 (by omega)⟩
    · rintro ⟨h0, h1, h2, h3, h4, h5⟩ j hj
      have : j = 0 ∨ j = 1 ∨ j = 2 ∨ j = 3 ∨ j = 4 ∨ j = 5 := by omega
      rcases this with rfl | rfl | rfl | rfl | rfl | rfl <;> assumption
  have hall : (∀ j : Nat, j < 6 → ¬ ((Arr.get A (j : Int)).first ≤ r ∧ r ≤ (Arr.get A (j : Int)).last)) ↔ ¬ runeOk r := by
    rw [six fun (j : Nat) => ¬ ((Arr.get A (j : Int)).first ≤ r ∧ r ≤ (Arr.get A (j : Int)).last)]
    rw [g0, g1, g2, g3, g4, g5]
    unfold runeOk
    simp only
    omega
  by_cases hr : runeOk r
  · have : loopM (name_Of.s0 fu r A) fu 0 = some (.inl true) := by
      refine loopM_bad (S := fun j => (j : Int)) 6 (fun j => ¬ ((Arr.get A (j : Int)).first ≤ r ∧ r ≤ (Arr.get A (j : Int)).last)) rfl ?_ (fun j hj _ hg => by rw [hs j hj, if_neg hg]) (fun j hj _ hg => by rw [hs j hj, if_pos (Classical.byContradiction hg)]) (by omega)
      apply Classical.byContradiction
      intro hx
      exact hall.1 (fun j hj hg => hx ⟨j, hj, fun q => q hg⟩) hr
    rw [this, decide_eq_true hr]
    rfl
  · have : loopM (name_Of.s0 fu r A) fu 0 = some (.inr ()) := by
      refine loopM_run (S := fun j => (j : Int)) 6 rfl (fun j hj => by rw [hs j hj, if_neg (hall.2 hr j hj)]) ?_ (by omega)
      unfold name_Of.s0
      simp
    rw [this, decide_eq_false hr]
    rfl
/-! ### Names -/
def NameOk (s : List UInt8) : Prop := (0 < (rs 399 s).length ∧ (rs 399 s).length ≤ 8) ∧ ∀ r ∈ rs 399 s, runeOk r
instance (s : List UInt8) : Decidable (NameOk s) := inferInstanceAs (Decidable (_ ∧ _))
theorem rname_eq {s : List UInt8} (hs : s.length ≤ 300) : rickyardref04_Right.f 400 s = some (decide (NameOk s)) := by
  unfold rickyardref04_Right.f
  rw [rrunes_eq hs, Option.bind_some]
  have hrl := rs_len 399 s
  have hL : NameOk s ↔ (0 < (rs 399 s).length ∧ (rs 399 s).length ≤ 8) ∧ ∀ r ∈ rs 399 s, runeOk r := Iff.rfl
  generalize rs 399 s = L at *
  have c0 : (if decide ((L.length : Int) > 0) = true then decide ((L.length : Int) ≤ 8) else false) = decide (0 < L.length ∧ L.length ≤ 8) := by
    by_cases h1 : (L.length : Int) > 0
    · rw [decide_eq_true h1, if_pos rfl]
      exact decide_eq_decide.2 (by omega)
    · rw [decide_eq_false h1, decide_eq_false (fun x : 0 < L.length ∧ L.length ≤ 8 => by have := x.1; omega)]
      rfl
  rw [c0]
  have hst : ∀ (b : Bool) (j : Nat), j < L.length → rickyardref04_Right.s0 400 L (b, (j : Int)) = some (.inr (b && decide (runeOk (ix L (j : Int))), ((j + 1 : Nat) : Int))) := by
    intro b j hj
    unfold rickyardref04_Right.s0
    have h1 : (j : Int) < (L.length : Int) := by omega
    have c1 : 0 ≤ (j : Int) ∧ True := ⟨by omega, trivial⟩
    have w3 : IntKind.i64.wrap ((j : Int) + 1) = ((j + 1 : Nat) : Int) := by rw [w64 (by omega) (by omega)]; omega
    simp only [h1, decide_true, if_true, if_pos c1, rof_eq, Option.bind_some, w3]
    cases b <;> rfl
  have hloop : loopM (rickyardref04_Right.s0 400 L) 400 (decide (0 < L.length ∧ L.length ≤ 8), 0) = some (decide (0 < L.length ∧ L.length ≤ 8) && (L.all fun r => decide (runeOk r))) := by
    refine loopM_run (S := fun j => (decide (0 < L.length ∧ L.length ≤ 8) && ((L.take j).all fun r => decide (runeOk r)), (j : Int))) L.length (by simp) (fun j hj => ?_) ?_ (by omega)
    · rw [hst _ j hj, List.take_add_one, List.getElem?_eq_getElem hj, ix_nat hj, List.all_append]
      simp [Bool.and_assoc]
    · unfold rickyardref04_Right.s0
      simp
  rw [hloop, Option.bind_some]
  congr 1
  rw [Bool.eq_iff_iff, decide_eq_true_eq, hL]
  simp only [Bool.and_eq_true, decide_eq_true_eq, List.all_eq_true]
theorem name_from {s : List UInt8} : ∀ (k : Nat) (i n : Nat), i ≤ s.length → (s.drop i).length ≤ k → n ≤ 8 →
    ∃ i' : Int, loopM (name_Right.s0 400 s) (k + 1) ((n : Int), (i : Int)) = some (if n + (rs k (s.drop i)).length ≤ 8 ∧ ∀ r ∈ rs k (s.drop i), runeOk r then .inr (((n + (rs k (s.drop i)).length : Nat) : Int), i') else .inl false)
  | 0, i, n, hi, hk, hn => by
    have hil : i = s.length := by rw [List.length_drop] at hk; omega
    subst hil
    refine ⟨(s.length : Int), ?_⟩
    simp [loopM, name_Right.s0, rs, hn]
  | k + 1, i, n, hi, hk, hn => by
    by_cases hil : i = s.length
    · subst hil
      refine ⟨(s.length : Int), ?_⟩
      simp [loopM, name_Right.s0, rs, hn]
    · have hlt : i < s.length := by omega
      have hm : s.drop i ≠ [] := fun e => by
        have := congrArg List.length e
        rw [List.length_drop] at this
        simp at this
        omega
      have hp := List.length_pos_iff.2 hm
      obtain ⟨h1, h2⟩ := first_wide hp
      rw [List.length_drop] at h2 hk
      obtain ⟨e1, e2⟩ := rune_first s i
      have hrs : rs (k + 1) (s.drop i) = ((first (s.drop i)).1 : Int) :: rs k (s.drop (i + (first (s.drop i)).2)) := by
        conv => lhs; unfold rs
        rw [if_neg hm, List.drop_drop]
      have w3 : IntKind.i64.wrap ((n : Int) + 1) = ((n + 1 : Nat) : Int) := by rw [w64 (by omega) (by omega)]; omega
      have c0 : (i : Int) < (s.length : Int) := by omega
      have hst : name_Right.s0 400 s ((n : Int), (i : Int)) = some (if n + 1 ≤ 8 ∧ runeOk ((first (s.drop i)).1 : Int) then .inr (((n + 1 : Nat) : Int), ((i + (first (s.drop i)).2 : Nat) : Int)) else .inl (.inl false)) := by
        unfold name_Right.s0
        have e3 : (i : Int) + ((first (s.drop i)).2 : Int) = ((i + (first (s.drop i)).2 : Nat) : Int) := by omega
        simp only [c0, decide_true, if_true, w3, e1, e2, e3, of_eq _ (show 100 < 400 by decide), Option.bind_some]
        by_cases a1 : ((n + 1 : Nat) : Int) > 8
        · rw [decide_eq_true a1, if_neg (show ¬ (n + 1 ≤ 8 ∧ runeOk ((first (s.drop i)).1 : Int)) from fun x => by have := x.1; omega)]
          rfl
        · rw [decide_eq_false a1]
          by_cases a2 : runeOk ((first (s.drop i)).1 : Int)
          · rw [decide_eq_true a2, if_pos (show n + 1 ≤ 8 ∧ runeOk ((first (s.drop i)).1 : Int) from ⟨by omega, a2⟩)]
            rfl
          · rw [decide_eq_false a2, if_neg (show ¬ (n + 1 ≤ 8 ∧ runeOk ((first (s.drop i)).1 : Int)) from fun x => a2 x.2)]
            rfl
      have hu : loopM (name_Right.s0 400 s) (k + 1 + 1) ((n : Int), (i : Int)) = (match name_Right.s0 400 s ((n : Int), (i : Int)) with | none => none | some (.inl e) => some e | some (.inr s') => loopM (name_Right.s0 400 s) (k + 1) s') := by
        conv => lhs; unfold loopM
        generalize name_Right.s0 400 s ((n : Int), (i : Int)) = q
        rcases q with _ | _ | _ <;> rfl
      rw [hu, hst]
      by_cases a : n + 1 ≤ 8 ∧ runeOk ((first (s.drop i)).1 : Int)
      · rw [if_pos a]
        obtain ⟨i', ih⟩ := name_from (s := s) k (i + (first (s.drop i)).2) (n + 1) (by omega) (by rw [List.length_drop]; omega) a.1
        refine ⟨i', ?_⟩
        simp only
        rw [ih, hrs]
        have hc : (n + 1 + (rs k (s.drop (i + (first (s.drop i)).2))).length ≤ 8 ∧ ∀ r ∈ rs k (s.drop (i + (first (s.drop i)).2)), runeOk r) ↔ (n + (((first (s.drop i)).1 : Int) :: rs k (s.drop (i + (first (s.drop i)).2))).length ≤ 8 ∧ ∀ r ∈ ((first (s.drop i)).1 : Int) :: rs k (s.drop (i + (first (s.drop i)).2)), runeOk r) := by
          simp only [List.length_cons, List.mem_cons, forall_eq_or_imp]
          constructor
          · rintro ⟨x, y⟩
            exact ⟨by omega, a.2, y⟩
          · rintro ⟨x, _, y⟩
            exact ⟨by omega, y⟩
        by_cases hq : n + 1 + (rs k (s.drop (i + (first (s.drop i)).2))).length ≤ 8 ∧ ∀ r ∈ rs k (s.drop (i + (first (s.drop i)).2)), runeOk r
        · rw [if_pos hq, if_pos (hc.1 hq)]
          congr 3
          simp only [List.length_cons]
          omega
        · rw [if_neg hq, if_neg (fun x => hq (hc.2 x))]
      · rw [if_neg a]
        refine ⟨0, ?_⟩
        simp only
        rw [hrs, if_neg]
        rintro ⟨x, y⟩
        simp only [List.length_cons] at x
        exact a ⟨by omega, y _ (List.mem_cons_self ..)⟩
theorem name_eq {s : List UInt8} (hs : s.length ≤ 300) : name_Right.f 400 s = some (decide (NameOk s)) := by
  unfold name_Right.f
  obtain ⟨i', h⟩ := name_from (s := s) 399 0 0 (by omega) (by rw [List.drop_zero]; omega) (by omega)
  rw [List.drop_zero] at h
  have h' : loopM (name_Right.s0 400 s) 400 (0, 0) = some (if 0 + (rs 399 s).length ≤ 8 ∧ ∀ r ∈ rs 399 s, runeOk r then .inr (((0 + (rs 399 s).length : Nat) : Int), i') else .inl false) := h
  rw [h']
  by_cases hq : 0 + (rs 399 s).length ≤ 8 ∧ ∀ r ∈ rs 399 s, runeOk r
  · rw [if_pos hq]
    simp only [Option.bind_some]
    congr 1
    apply decide_eq_decide.2
    unfold NameOk
    constructor
    · intro x
      exact ⟨⟨by omega, by omega⟩, hq.2⟩
    · intro x
      have := x.1.1
      omega
  · rw [if_neg hq, decide_eq_false (fun x : NameOk s => hq ⟨by have := x.1.2; omega, x.2⟩)]
    rfl
end Go.Proofs.Ytjhajfkfhdnciaa.Pure

/- Directories in plain words; the roots that are there. -/
set_option linter.unusedVariables false
set_option linter.unusedSimpArgs false
namespace Go.Proofs.Ytjhajfkfhdnciaa.Pure
open Go Go.Xw
def numOk (x : Int) : Prop := 2 ≤ x ∧ x ≤ 3071
instance (x : Int) : Decidable (numOk x) := inferInstanceAs (Decidable (_ ∧ _))
theorem bnum_eq (fu : Nat) (x : Int) : label_blockNumber.f fu x = some (decide (numOk x)) := by
  unfold label_blockNumber.f
  by_cases h : x ≥ 2
  · by_cases h2 : x < 3072
    · rw [decide_eq_true h, decide_eq_true h2, decide_eq_true (show numOk x from ⟨h, by omega⟩)]
      rfl
    · rw [decide_eq_true h, decide_eq_false h2, decide_eq_false (fun y : numOk x => by have := y.2; omega)]
      rfl
  · rw [decide_eq_false h, decide_eq_false (fun y : numOk x => h y.1)]
    rfl
theorem rbnum_eq (fu : Nat) (x : Int) : rickyardref08_Block.f fu x = some (decide (numOk x)) := by
  unfold rickyardref08_Block.f
  by_cases h : x ≥ 2
  · by_cases h2 : x ≤ 3071
    · rw [decide_eq_true h, decide_eq_true h2, decide_eq_true (show numOk x from ⟨h, by omega⟩)]
      rfl
    · rw [decide_eq_true h, decide_eq_false h2, decide_eq_false (fun y : numOk x => h2 y.2)]
      rfl
  · rw [decide_eq_false h, decide_eq_false (fun y : numOk x => h y.1)]
    rfl
theorem among_eq {fu : Nat} {l : List Int} {x : Int} (hl : l.length ≤ 9000000000000000000) (hf : l.length < fu) : slices_Contains.f fu l x = some (decide (x ∈ l)) := by
  unfold slices_Contains.f
  have hs : ∀ j : Nat, j < l.length → slices_Index.s0 fu l x (j : Int) = some (if x ≠ ix l (j : Int) then .inr ((j + 1 : Nat) : Int) else .inl (.inl (j : Int))) := by
    intro j hj
    unfold slices_Index.s0
    have h1 : (j : Int) < (l.length : Int) := by omega
    have c0 : 0 ≤ (j : Int) := by omega
    have w3 : IntKind.i64.wrap ((j : Int) + 1) = ((j + 1 : Nat) : Int) := by rw [w64 (by omega) (by omega)]; omega
    simp only [h1, c0, and_self, decide_true, if_true, w3]
    by_cases e : x = ix l (j : Int) <;> simp [e]
  have hi : ∃ r : Int, slices_Index.f fu l x = some r ∧ (r ≥ 0 ↔ x ∈ l) := by
    unfold slices_Index.f
    by_cases hk : x ∈ l
    · have hmin : ∀ m j, j ≤ m → (j < l.length ∧ x = ix l (j : Int)) → ∃ q, (q < l.length ∧ x = ix l (q : Int)) ∧ ∀ i, i < q → x ≠ ix l (i : Int) := by
        intro m
        induction m with
        | zero =>
          intro j hj hjj
          exact ⟨j, hjj, fun i hi => by omega⟩
        | succ m ih =>
          intro j hj hjj
          by_cases hx : ∃ i, i < j ∧ x = ix l (i : Int)
          · obtain ⟨i, hi, hgi⟩ := hx
            exact ih i (by omega) ⟨by omega, hgi⟩
          · exact ⟨j, hjj, fun i hi hg => hx ⟨i, hi, hg⟩⟩
      obtain ⟨j, hj, hjx⟩ := List.getElem_of_mem hk
      obtain ⟨q, ⟨hq, hg⟩, hall⟩ := hmin j j (Nat.le_refl _) ⟨hj, by rw [ix_nat hj, hjx]⟩
      have : loopM (slices_Index.s0 fu l x) fu 0 = some (.inl (q : Int)) :=
        loopM_run (S := fun j => (j : Int)) q rfl (fun i hi => by rw [hs i (by omega), if_pos (hall i hi)]) (by rw [hs q hq, if_neg (fun h => h hg)]) (by omega)
      rw [this]
      refine ⟨(q : Int), rfl, ?_⟩
      simp only [hk, iff_true]
      omega
    · have : loopM (slices_Index.s0 fu l x) fu 0 = some (.inr ()) := by
        refine loopM_run (S := fun j => (j : Int)) l.length rfl (fun j hj => ?_) ?_ hf
        · rw [hs j hj, if_pos]
          intro e
          rw [ix_nat hj] at e
          exact hk (by rw [e]; exact List.getElem_mem hj)
        · unfold slices_Index.s0
          simp
      rw [this]
      exact ⟨-1, rfl, by simp [hk]⟩
  obtain ⟨r, hr, hrk⟩ := hi
  rw [hr]
  exact congrArg some (decide_eq_decide.2 hrk)
def dirAt (l : List Int) (j : Nat) : Prop := numOk (ix l (j : Int)) ∧ ix l (j : Int) ∉ l.take j
instance (l : List Int) (j : Nat) : Decidable (dirAt l j) := inferInstanceAs (Decidable (_ ∧ _))
def DirOk (l : List Int) : Prop := (1 ≤ l.length ∧ l.length ≤ 16) ∧ ∀ j, j < l.length → dirAt l j
instance (l : List Int) : Decidable (DirOk l) := inferInstanceAs (Decidable (_ ∧ _))
theorem dirRight_eq {fu : Nat} {l : List Int} (hf : 100 < fu) : label_RightDir.f fu ⟨l⟩ = some (decide (DirOk l)) := by
  unfold label_RightDir.f
  by_cases hl : 1 ≤ l.length ∧ l.length ≤ 16
  · have c1 : ¬ (l.length : Int) < 1 := by omega
    have c2 : ¬ (l.length : Int) > 16 := by omega
    have hs : ∀ j : Nat, j < l.length → label_RightDir.s0 fu ⟨l⟩ (j : Int) = some (if dirAt l j then .inr ((j + 1 : Nat) : Int) else .inl (.inl false)) := by
      intro j hj
      unfold label_RightDir.s0
      have h1 : (j : Int) < (l.length : Int) := by omega
      have h2 : (j : Int) ≤ (l.length : Int) := by omega
      have c0 : 0 ≤ (j : Int) := by omega
      have w3 : IntKind.i64.wrap ((j : Int) + 1) = ((j + 1 : Nat) : Int) := by rw [w64 (by omega) (by omega)]; omega
      have ec : cut l 0 (j : Int) = l.take j := by unfold cut; simp
      have hc : slices_Contains.f fu (l.take j) (ix l (j : Int)) = some (decide (ix l (j : Int) ∈ l.take j)) := among_eq (by rw [List.length_take]; omega) (by rw [List.length_take]; omega)
      simp only [h1, h2, c0, and_self, decide_true, if_true, w3, bnum_eq, Option.bind_some, ec, hc]
      unfold dirAt
      by_cases g1 : numOk (ix l (j : Int))
      · by_cases g2 : ix l (j : Int) ∈ l.take j <;> simp [g1, g2]
      · simp [g1]
    rw [decide_eq_false c1, decide_eq_false c2]
    simp only [Bool.false_eq_true, if_false]
    by_cases h : ∀ j, j < l.length → dirAt l j
    · have : loopM (label_RightDir.s0 fu ⟨l⟩) fu 0 = some (.inr ()) := by
        refine loopM_run (S := fun j => (j : Int)) l.length rfl (fun j hj => by rw [hs j hj, if_pos (h j hj)]) ?_ (by omega)
        unfold label_RightDir.s0
        simp
      have hD : DirOk l := ⟨hl, h⟩
      rw [this, decide_eq_true hD]
      rfl
    · have : loopM (label_RightDir.s0 fu ⟨l⟩) fu 0 = some (.inl false) := by
        refine loopM_bad (S := fun j => (j : Int)) l.length (fun j => dirAt l j) rfl ?_ (fun j hj _ hg => by rw [hs j hj, if_pos hg]) (fun j hj _ hg => by rw [hs j hj, if_neg hg]) (by omega)
        apply Classical.byContradiction
        intro hx
        exact h fun i hi => Classical.byContradiction fun hg => hx ⟨i, hi, hg⟩
      have hD : ¬ DirOk l := fun x => h x.2
      rw [this, decide_eq_false hD]
      rfl
  · have hD : ¬ DirOk l := fun x => hl x.1
    rw [decide_eq_false hD]
    by_cases c1 : (l.length : Int) < 1
    · rw [decide_eq_true c1]
      rfl
    · have c2 : (l.length : Int) > 16 := by omega
      rw [decide_eq_false c1, decide_eq_true c2]
      rfl
theorem rd2_eq {fu : Nat} {l : List Int} {out : List UInt8} {j : Nat} (hj : j < l.length) (hl : l.length ≤ 50) (hf : 100 < fu) : loopM (rickyardref11_Dir.s2 fu l (out, (j : Int))) fu 0 = some (if ix l (j : Int) ∉ l.take j then .inr () else .inl (.inl (.inl ([], false)))) := by
  have hs : ∀ i : Nat, i < j → rickyardref11_Dir.s2 fu l (out, (j : Int)) (i : Int) = some (if ix l (i : Int) ≠ ix l (j : Int) then .inr ((i + 1 : Nat) : Int) else .inl (.inl (.inl (.inl ([], false))))) := by
    intro i hi
    unfold rickyardref11_Dir.s2
    have h1 : (i : Int) < (j : Int) := by omega
    have h2 : (i : Int) < (l.length : Int) := by omega
    have h3 : (j : Int) < (l.length : Int) := by omega
    have c0 : 0 ≤ (i : Int) := by omega
    have c1 : 0 ≤ (j : Int) := by omega
    have w3 : IntKind.i64.wrap ((i : Int) + 1) = ((i + 1 : Nat) : Int) := by rw [w64 (by omega) (by omega)]; omega
    simp only [h1, h2, h3, c0, c1, and_self, decide_true, if_true, w3]
    by_cases e : ix l (i : Int) = ix l (j : Int) <;> simp [e]
  have hmem : ix l (j : Int) ∉ l.take j ↔ ∀ i, i < j → ix l (i : Int) ≠ ix l (j : Int) := by
    constructor
    · intro h i hi e
      apply h
      rw [← e, ix_nat (show i < l.length by omega)]
      exact List.mem_take_iff_getElem.2 ⟨i, by omega, rfl⟩
    · intro h hm
      obtain ⟨i, hi, he⟩ := List.mem_take_iff_getElem.1 hm
      exact h i (by omega) (by rw [ix_nat (show i < l.length by omega)]; exact he)
  by_cases h : ix l (j : Int) ∉ l.take j
  · rw [if_pos h]
    refine loopM_run (S := fun i => (i : Int)) j rfl (fun i hi => by rw [hs i hi, if_pos (hmem.1 h i hi)]) ?_ (by omega)
    unfold rickyardref11_Dir.s2
    simp
  · rw [if_neg h]
    refine loopM_bad (S := fun i => (i : Int)) j (fun i => ix l (i : Int) ≠ ix l (j : Int)) rfl ?_ (fun i hi _ hg => by rw [hs i hi, if_pos hg]) (fun i hi _ hg => by rw [hs i hi, if_neg hg]) (by omega)
    apply Classical.byContradiction
    intro hx
    exact h (hmem.2 fun i hi => Classical.byContradiction fun hg => hx ⟨i, hi, hg⟩)
theorem rdir_eq {fu : Nat} {l : List Int} (hf : 100 < fu) : rickyardref11_Dir.f fu l = some (if DirOk l then ((sealed (summed 6 (l.length : Int) (rowE l l.length))).map toB, true) else ([], false)) := by
  unfold rickyardref11_Dir.f
  by_cases hl : 1 ≤ l.length ∧ l.length ≤ 16
  · have c1 : ¬ (l.length : Int) < 1 := by omega
    have c2 : ¬ (l.length : Int) > 16 := by omega
    have hs : ∀ j : Nat, j < l.length → rickyardref11_Dir.s1 fu l ((rowE l j).map toB, (j : Int)) = some (if dirAt l j then .inr ((rowE l (j + 1)).map toB, ((j + 1 : Nat) : Int)) else .inl (.inl ([], false))) := by
      intro j hj
      unfold rickyardref11_Dir.s1
      have h1 : (j : Int) < (l.length : Int) := by omega
      have c0 : 0 ≤ (j : Int) := by omega
      have w3 : IntKind.i64.wrap ((j : Int) + 1) = ((j + 1 : Nat) : Int) := by rw [w64 (by omega) (by omega)]; omega
      have hlay : rickyardref01_Lay.f fu (IntKind.u64.wrap (ix l (j : Int))) 2 = some ((lay (u64n (ix l (j : Int))) 2).map toB) := rlay64 (n := 2) (by decide) (by omega)
      have hlim : ((rowE l j).map toB).length + ((lay (u64n (ix l (j : Int))) 2).map toB).length ≤ LIM := lim_of' (by rw [List.length_map, List.length_map, rowE_len, lay_len]; omega)
      have e : (rowE l (j + 1)).map toB = (rowE l j).map toB ++ (lay (u64n (ix l (j : Int))) 2).map toB := by rw [← List.map_append, rowE, rowE, flat_succ]
      simp only [h1, c0, and_self, decide_true, if_true, w3, rbnum_eq, Option.bind_some, rd2_eq (out := (rowE l j).map toB) hj (by omega) hf, hlay, hlim, e]
      by_cases g1 : numOk (ix l (j : Int))
      · by_cases g2 : ix l (j : Int) ∉ l.take j
        · rw [decide_eq_true g1, if_pos g2, if_pos (show dirAt l j from ⟨g1, g2⟩)]
          rfl
        · rw [decide_eq_true g1, if_neg g2, if_neg (show ¬ dirAt l j from fun x => g2 x.2)]
          rfl
      · rw [decide_eq_false g1, if_neg (show ¬ dirAt l j from fun x => g1 x.1)]
        rfl
    rw [decide_eq_false c1, decide_eq_false c2]
    simp only [Bool.false_eq_true, if_false]
    by_cases h : ∀ j, j < l.length → dirAt l j
    · have : loopM (rickyardref11_Dir.s1 fu l) fu ([], 0) = some (.inr ((rowE l l.length).map toB)) := by
        refine loopM_run (S := fun j => ((rowE l j).map toB, (j : Int))) l.length (by simp [rowE]) (fun j hj => by rw [hs j hj, if_pos (h j hj)]) ?_ (by omega)
        unfold rickyardref11_Dir.s1
        simp
      have hD : DirOk l := ⟨hl, h⟩
      have hq := rseal_eq (fu := fu) (k := 6) (t := (l.length : Int)) (rowE_bytes l l.length) (by omega) (by omega) (by rw [rowE_len]; omega) hf
      rw [this, if_pos hD]
      simp only [Option.bind_some, hq]
    · have : loopM (rickyardref11_Dir.s1 fu l) fu ([], 0) = some (.inl ([], false)) := by
        refine loopM_bad (S := fun j => ((rowE l j).map toB, (j : Int))) l.length (fun j => dirAt l j) (by simp [rowE]) ?_ (fun j hj _ hg => by rw [hs j hj, if_pos hg]) (fun j hj _ hg => by rw [hs j hj, if_neg hg]) (by omega)
        apply Classical.byContradiction
        intro hx
        exact h fun i hi => Classical.byContradiction fun hg => hx ⟨i, hi, hg⟩
      have hD : ¬ DirOk l := fun x => h x.2
      rw [this, if_neg hD]
      rfl
  · have hD : ¬ DirOk l := fun x => hl x.1
    rw [if_neg hD]
    by_cases c1 : (l.length : Int) < 1
    · rw [decide_eq_true c1]
      rfl
    · have c2 : (l.length : Int) > 16 := by omega
      rw [decide_eq_false c1, decide_eq_true c2]
      rfl
theorem dirPut_eq {fu : Nat} {l : List Int} (hf : 100 < fu) : label_PutDir.f fu ⟨l⟩ = some (if DirOk l then (sealed (summed 6 (l.length : Int) (rowE l l.length)), true) else ([], false)) := by
  unfold label_PutDir.f
  rw [dirRight_eq hf]
  by_cases h : DirOk l
  · have hl := h.1
    have hloop : loopM (label_PutDir.s0 fu ⟨l⟩) fu ([], 0) = some (rowE l l.length) := by
      refine loopM_run (S := fun j => (rowE l j, (j : Int))) l.length (by simp [rowE]) ?_ ?_ (by omega)
      · intro j hj
        unfold label_PutDir.s0
        have h1 : (j : Int) < (l.length : Int) := by omega
        have c0 : 0 ≤ (j : Int) := by omega
        have w3 : IntKind.i64.wrap ((j : Int) + 1) = ((j + 1 : Nat) : Int) := by rw [w64 (by omega) (by omega)]; omega
        have hlay : octet_Lay.f fu (IntKind.u64.wrap (ix l (j : Int))) 2 = some (lay (u64n (ix l (j : Int))) 2) := olay64 (n := 2) (by decide) (by omega)
        have hlim : (rowE l j).length + (lay (u64n (ix l (j : Int))) 2).length ≤ LIM := lim_of' (by rw [rowE_len, lay_len]; omega)
        simp only [h1, c0, and_self, decide_true, if_true, w3, hlay, Option.bind_some, hlim]
        rw [rowE, rowE, flat_succ]
      · unfold label_PutDir.s0
        simp
    have hq := seal_eq (fu := fu) (k := 6) (t := (l.length : Int)) (rowE_bytes l l.length) (by omega) (by omega) (by rw [rowE_len]; omega) hf
    simp only [h, decide_true, Bool.not_true, Bool.false_eq_true, if_false, Option.bind_some, hloop, hq, if_true]
  · simp [h]
def dirOf (body : List Int) (t : Nat) : List Int := (List.range t).map fun i => ((num (fieldAt body 2 i) : Nat) : Int)
theorem dirOf_len (body : List Int) (t : Nat) : (dirOf body t).length = t := by simp [dirOf]
theorem dirE_of {body : List Int} (hb : Bytes body) {t : Nat} (h : 2 * t ≤ body.length) : rowE (dirOf body t) t = body.take (2 * t) := by
  rw [← field_flat (w := 2) t h]
  apply flat_congr
  intro i hi
  unfold dirOf
  rw [ix_map hi]
  have hfl := fieldAt_len h hi
  have hfb := fieldAt_bytes hb 2 i
  have hn := num_lt hfb
  rw [hfl] at hn
  rw [u64n_of (by omega) (by omega), Int.toNat_natCast]
  have := lay_num hfb
  rwa [hfl] at this
theorem dirOf_E {l : List Int} (h : DirOk l) (t : List Int) : dirOf (rowE l l.length ++ t) l.length = l := by
  apply ix_ext (dirOf_len _ _)
  intro i hi
  rw [dirOf_len] at hi
  unfold dirOf
  rw [ix_map hi]
  have := (h.2 i hi).1
  unfold numOk at this
  rw [rowE, flat_field (fun i => lay_len _ _) hi, num_lay, u64n_of (by omega) (by omega)]
  omega
def GetD (b : List Int) : Prop := Is b ∧ ix b 4 = 6 ∧ ix b 5 ≤ 16 ∧ DirOk (dirOf (b.drop 8) (ix b 5).toNat) ∧ ∀ y ∈ (b.drop 8).drop (2 * (ix b 5).toNat), y = 0
instance (b : List Int) : Decidable (GetD b) := inferInstanceAs (Decidable (_ ∧ _))
theorem dirGet_eq {fu : Nat} {b : List Int} (hb : Bytes b) (hl : b.length ≤ 9000000000000000000) (hf : 100 < fu) : label_GetDir.f fu b = some (if GetD b then (⟨dirOf (b.drop 8) (ix b 5).toNat⟩, true) else (⟨[]⟩, false)) := by
  unfold label_GetDir.f
  rw [open_eq hb hl hf]
  by_cases hi : Is b
  · have h8 := is_body hi
    obtain ⟨b4, b5⟩ := is_tag hb hi
    rw [if_pos hi]
    simp only [Option.bind_some, Bool.not_true, Bool.false_eq_true, if_false]
    by_cases h4 : ix b 4 = 6
    · by_cases h5 : ix b 5 ≤ 16
      · have h5' : ¬ ix b 5 > 16 := by omega
        obtain ⟨t, ht⟩ : ∃ t : Nat, ix b 5 = (t : Int) := ⟨(ix b 5).toNat, by omega⟩
        have hbd := hb.drop 8
        obtain ⟨body, hbody⟩ : ∃ body, body = b.drop 8 := ⟨_, rfl⟩
        rw [← hbody] at h8 hbd
        have hloop : loopM (label_GetDir.s0 fu (ix b 4, ix b 5, body, true)) fu (0, []) = some (dirOf body t) := by
          refine loopM_run (S := fun j => ((j : Int), dirOf body j)) t (by simp [dirOf]) ?_ ?_ (by omega)
          · intro j hj
            unfold label_GetDir.s0
            have h1 : (j : Int) < ix b 5 := by omega
            have w3 : IntKind.i64.wrap ((j : Int) + 1) = ((j + 1 : Nat) : Int) := by rw [w64 (by omega) (by omega)]; omega
            have w4 : IntKind.i64.wrap (2 * (j : Int)) = ((2 * j : Nat) : Int) := by rw [w64 (by omega) (by omega)]; omega
            have w5 : IntKind.i64.wrap (2 * ((j + 1 : Nat) : Int)) = ((2 * j + 2 : Nat) : Int) := by rw [w64 (by omega) (by omega)]; omega
            have hfl := fieldAt_len (l := body) (w := 2) (n := t) (by omega) hj
            have hfb := fieldAt_bytes hbd 2 j
            have hr : octet_Read.f fu (cut body ((2 * j : Nat) : Int) ((2 * j + 2 : Nat) : Int)) = some ((num (fieldAt body 2 j) : Nat) : Int) := by
              rw [cut_eq]
              have := read_eq (fu := fu) hfb (by omega) (by omega)
              exact this
            have w6 := num_small hfb (by omega)
            have c1 : (0 : Int) ≤ ((2 * j : Nat) : Int) ∧ ((2 * j : Nat) : Int) ≤ ((2 * j + 2 : Nat) : Int) ∧ ((2 * j + 2 : Nat) : Int) ≤ (body.length : Int) := by omega
            have hlim : (dirOf body j).length + ([((num (fieldAt body 2 j) : Nat) : Int)] : List Int).length ≤ LIM := lim_of' (by rw [dirOf_len]; simp; omega)
            simp only [h1, decide_true, if_true, w3, w4, w5, if_pos c1, hr, Option.bind_some, w6, if_pos hlim]
            simp [dirOf, List.range_succ]
          · unfold label_GetDir.s0
            simp [ht]
        have w1 : IntKind.i64.wrap (2 * (t : Int)) = ((2 * t : Nat) : Int) := by rw [w64 (by omega) (by omega)]; omega
        have w6 : IntKind.i64.wrap ((body.length : Int) - ((2 * t : Nat) : Int)) = ((56 - 2 * t : Nat) : Int) := by rw [w64 (by omega) (by omega)]; omega
        have hn := noughts_eq (fu := fu) (b := body) (i := 2 * t) (n := 56 - 2 * t) (by omega) (by omega) (by omega)
        have e8 : (body.drop (2 * t)).take (56 - 2 * t) = body.drop (2 * t) := List.take_of_length_le (by rw [List.length_drop, h8]; omega)
        rw [e8] at hn
        rw [← hbody]
        simp only [h4, h5', decide_true, decide_false, Bool.not_true, Bool.false_eq_true, if_false] at hloop ⊢
        simp only [ht, w1, w6, hn, Option.bind_some] at hloop ⊢
        simp only [hloop, dirRight_eq hf, Option.bind_some]
        have hgi : GetD b ↔ (DirOk (dirOf body t) ∧ ∀ y ∈ body.drop (2 * t), y = 0) := by
          unfold GetD
          rw [ht, ← hbody, Int.toNat_natCast]
          exact ⟨fun x => x.2.2.2, fun x => ⟨hi, h4, by omega, x⟩⟩
        rw [Int.toNat_natCast]
        by_cases hz : ∀ y ∈ body.drop (2 * t), y = 0
        · rw [decide_eq_true hz]
          by_cases hr : DirOk (dirOf body t)
          · rw [if_pos (hgi.2 ⟨hr, hz⟩), decide_eq_true hr]
            rfl
          · rw [if_neg (fun x => hr (hgi.1 x).1), decide_eq_false hr]
            rfl
        · rw [decide_eq_false hz, if_neg (fun x => hz (hgi.1 x).2)]
          rfl
      · have h5' : ix b 5 > 16 := by omega
        have hg : ¬ GetD b := fun x => h5 x.2.2.1
        rw [if_neg hg, decide_eq_true h4, decide_eq_true h5']
        rfl
    · have hg : ¬ GetD b := fun x => h4 x.2.1
      rw [if_neg hg, decide_eq_false h4]
      rfl
  · have hg : ¬ GetD b := fun x => hi x.1
    rw [if_neg hi, if_neg hg]
    rfl
theorem rdirGet_eq {fu : Nat} {b : List Int} (hb : Bytes b) (hf : 100 < fu) : rickyardref11_GetDir.f fu b = some (if GetD b then (dirOf (b.drop 8) (ix b 5).toNat, true) else ([], false)) := by
  unfold rickyardref11_GetDir.f
  rw [ropen_eq hb hf]
  by_cases hi : Is b
  · have h8 := is_body hi
    obtain ⟨b4, b5⟩ := is_tag hb hi
    rw [if_pos hi]
    simp only [Option.bind_some, Bool.not_true, Bool.false_eq_true, if_false]
    by_cases h4 : ix b 4 = 6
    · by_cases h5 : ix b 5 ≤ 16
      · have h5' : ¬ ix b 5 > 16 := by omega
        obtain ⟨t, ht⟩ : ∃ t : Nat, ix b 5 = (t : Int) := ⟨(ix b 5).toNat, by omega⟩
        have hbd := hb.drop 8
        obtain ⟨body, hbody⟩ : ∃ body, body = b.drop 8 := ⟨_, rfl⟩
        have hq0 : ∀ {k tg : Int} {bd : List Int}, (0 ≤ k ∧ k ≤ 255) → (0 ≤ tg ∧ tg ≤ 255) → Bytes bd → bd.length ≤ 56 → ((sealed (summed k tg bd)).map toB = b.map toB ↔ k = ix b 4 ∧ tg = ix b 5 ∧ bd ++ List.replicate (56 - bd.length) 0 = b.drop 8) := fun h1 h2 h3 h4 => sealed_map_iff hb hi h1 h2 h3 h4
        rw [← hbody] at h8 hbd
        have hloop : loopM (rickyardref11_GetDir.s0 fu (ix b 4, ix b 5, body.map toB, true)) fu ([], 0) = some (dirOf body t) := by
          refine loopM_run (S := fun j => (dirOf body j, (j : Int))) t (by simp [dirOf]) ?_ ?_ (by omega)
          · intro j hj
            unfold rickyardref11_GetDir.s0
            have h1 : (j : Int) < ix b 5 := by omega
            have w3 : IntKind.i64.wrap ((j : Int) + 1) = ((j + 1 : Nat) : Int) := by rw [w64 (by omega) (by omega)]; omega
            have w4 : IntKind.i64.wrap (2 * (j : Int)) = ((2 * j : Nat) : Int) := by rw [w64 (by omega) (by omega)]; omega
            have w5 : IntKind.i64.wrap (((2 * j : Nat) : Int) + 2) = ((2 * j + 2 : Nat) : Int) := by rw [w64 (by omega) (by omega)]; omega
            have hfl := fieldAt_len (l := body) (w := 2) (n := t) (by omega) hj
            have hfb := fieldAt_bytes hbd 2 j
            have hr : rickyardref01_Int.f fu (cut (body.map toB) ((2 * j : Nat) : Int) ((2 * j + 2 : Nat) : Int)) = some ((num (fieldAt body 2 j) : Nat) : Int) := by
              have := rintAt_eq (fu := fu) (b := body) (i := 2 * j) (n := 2) hbd (by omega) (by decide) hf
              rw [intAt_small hbd (by omega) (by decide)] at this
              exact this
            have c1 : (0 : Int) ≤ ((2 * j : Nat) : Int) ∧ ((2 * j : Nat) : Int) ≤ ((2 * j + 2 : Nat) : Int) ∧ ((2 * j + 2 : Nat) : Int) ≤ ((body.map toB).length : Int) := by rw [List.length_map]; omega
            have hlim : (dirOf body j).length + ([((num (fieldAt body 2 j) : Nat) : Int)] : List Int).length ≤ LIM := lim_of' (by rw [dirOf_len]; simp; omega)
            simp only [h1, decide_true, if_true, w3, w4, w5, if_pos c1, hr, Option.bind_some, if_pos hlim]
            simp [dirOf, List.range_succ]
          · unfold rickyardref11_GetDir.s0
            simp [ht]
        have hgi : GetD b ↔ (DirOk (dirOf body t) ∧ ∀ y ∈ body.drop (2 * t), y = 0) := by
          unfold GetD
          rw [ht, ← hbody, Int.toNat_natCast]
          exact ⟨fun x => x.2.2.2, fun x => ⟨hi, h4, by omega, x⟩⟩
        rw [← hbody]
        simp only [h4, h5', decide_true, decide_false, Bool.not_true, Bool.false_eq_true, if_false] at hloop ⊢
        rw [hloop]
        simp only [Option.bind_some, rdir_eq hf]
        have hq := hq0 (k := 6) (tg := (t : Int)) (bd := rowE (dirOf body t) t) (by omega) (by omega) (rowE_bytes _ _) (by rw [rowE_len]; omega)
        have hfl := full_iff (body := rowE (dirOf body t) t) (full := body) (by rw [rowE_len]; omega) h8
        rw [← hbody] at hq
        rw [rowE_len, dirE_of hbd (show 2 * t ≤ body.length by omega)] at hfl
        rw [rowE_len, dirE_of hbd (show 2 * t ≤ body.length by omega)] at hq
        rw [ht, Int.toNat_natCast, dirOf_len, dirE_of hbd (show 2 * t ≤ body.length by omega)]
        by_cases hr : DirOk (dirOf body t)
        · rw [if_pos hr]
          by_cases hz : ∀ y ∈ body.drop (2 * t), y = 0
          · rw [if_pos (hgi.2 ⟨hr, hz⟩)]
            simp only
            rw [decide_eq_true (hq.2 ⟨h4.symm, ht.symm, hfl.2 ⟨rfl, hz⟩⟩)]
            rfl
          · rw [if_neg (fun x => hz (hgi.1 x).2)]
            simp only
            rw [decide_eq_false (fun x => hz (hfl.1 (hq.1 x).2.2).2)]
            rfl
        · rw [if_neg hr, if_neg (fun x => hr (hgi.1 x).1)]
          rfl
      · have h5' : ix b 5 > 16 := by omega
        have hg : ¬ GetD b := fun x => h5 x.2.2.1
        rw [if_neg hg, decide_eq_true h4, decide_eq_true h5']
        rfl
    · have hg : ¬ GetD b := fun x => h4 x.2.1
      rw [if_neg hg, decide_eq_false h4]
      rfl
  · have hg : ¬ GetD b := fun x => hi x.1
    rw [if_neg hi, if_neg hg]
    rfl
theorem dirGet_put {fu : Nat} {l : List Int} (h : DirOk l) (hf : 100 < fu) : label_GetDir.f fu (sealed (summed 6 (l.length : Int) (rowE l l.length))) = some (⟨l⟩, true) ∧ (sealed (summed 6 (l.length : Int) (rowE l l.length))).length = 64 := by
  have hl := h.1
  have hel := rowE_len l l.length
  obtain ⟨p4, p5, p8⟩ := sealed_parts 6 (l.length : Int) (rowE l l.length)
  have hsl := sealed_len (summed_len (k := 6) (t := (l.length : Int)) (body := rowE l l.length) (by omega))
  have hno := dirOf_E h (List.replicate (56 - (rowE l l.length).length) 0)
  have hg : GetD (sealed (summed 6 (l.length : Int) (rowE l l.length))) := by
    refine ⟨is_sealed (by decide) (by omega), p4, by rw [p5]; omega, ?_, ?_⟩
    · rw [p8, p5, Int.toNat_natCast, hno]
      exact h
    · rw [p8, p5, Int.toNat_natCast, ← hel, List.drop_left' rfl]
      intro y hy
      exact List.eq_of_mem_replicate hy
  rw [dirGet_eq (sealed_bytes (summed_bytes (by omega) (by omega) (rowE_bytes l l.length))) (by omega) hf, if_pos hg, p8, p5, Int.toNat_natCast, hno]
  exact ⟨rfl, hsl⟩
/-! ### Roots that are there -/
def nz (x : Int) : Bool := !decide (x = 0)
/-- The array, and how many were kept, when the first j were looked at. -/
def delA (a : Arr 12 Int) (i0 : Nat) : Nat → Nat × Arr 12 Int
  | 0 => (i0, a)
  | k + 1 => if nz (ix (delA a i0 k).2.l ((i0 + 1 + k : Nat) : Int)) = true then ((delA a i0 k).1 + 1, Arr.set (delA a i0 k).2 ((delA a i0 k).1 : Int) (ix (delA a i0 k).2.l ((i0 + 1 + k : Nat) : Int))) else delA a i0 k
theorem delA_inv (a : Arr 12 Int) (i0 : Nat) (h0 : i0 < 12) (hz : ix a.l (i0 : Int) = 0) (hb : ∀ i, i < i0 → ix a.l (i : Int) ≠ 0) : ∀ k, i0 + 1 + k ≤ 12 →
    (delA a i0 k).1 ≤ i0 + k ∧ (delA a i0 k).2.l.take (delA a i0 k).1 = (a.l.take (i0 + 1 + k)).filter nz ∧ (delA a i0 k).2.l.drop (i0 + 1 + k) = a.l.drop (i0 + 1 + k)
  | 0, _ => by
    have hl : i0 < a.l.length := by rw [a.h]; exact h0
    refine ⟨Nat.le_refl _, ?_, rfl⟩
    show a.l.take i0 = (a.l.take (i0 + 1)).filter nz
    rw [List.take_add_one, List.getElem?_eq_getElem hl, List.filter_append]
    have e1 : nz a.l[i0] = false := by
      rw [← ix_nat hl, hz]
      rfl
    have e2 : (a.l.take i0).filter nz = a.l.take i0 := by
      apply List.filter_eq_self.2
      intro x hx
      obtain ⟨i, hi, rfl⟩ := List.mem_take_iff_getElem.1 hx
      have := hb i (by omega)
      rw [ix_nat (by omega)] at this
      simp [nz, this]
    rw [e2]
    simp [e1]
  | k + 1, hk => by
    obtain ⟨q1, q2, q3⟩ := delA_inv a i0 h0 hz hb k (by omega)
    have hl : i0 + 1 + k < a.l.length := by rw [a.h]; omega
    have hl2 : i0 + 1 + k < (delA a i0 k).2.l.length := by rw [(delA a i0 k).2.h]; omega
    have hx : ix (delA a i0 k).2.l ((i0 + 1 + k : Nat) : Int) = a.l[i0 + 1 + k] := by
      rw [ix_nat hl2]
      have := congrArg (fun l => l[0]?) q3
      simp only [List.getElem?_drop, Nat.add_zero, List.getElem?_eq_getElem hl, List.getElem?_eq_getElem hl2] at this
      exact Option.some.inj this
    have hd : (delA a i0 k).2.l.drop (i0 + 1 + (k + 1)) = a.l.drop (i0 + 1 + (k + 1)) := by
      have := congrArg (fun l => l.drop 1) q3
      simpa [List.drop_drop, Nat.add_assoc] using this
    have ht : (a.l.take (i0 + 1 + (k + 1))).filter nz = (a.l.take (i0 + 1 + k)).filter nz ++ (if nz a.l[i0 + 1 + k] = true then [a.l[i0 + 1 + k]] else []) := by
      rw [show i0 + 1 + (k + 1) = i0 + 1 + k + 1 from rfl, List.take_add_one, List.getElem?_eq_getElem hl, List.filter_append]
      by_cases e : nz a.l[i0 + 1 + k] = true <;> simp [e]
    unfold delA
    rw [hx, ht]
    by_cases e : nz a.l[i0 + 1 + k] = true
    · rw [if_pos e, if_pos e]
      refine ⟨by simp only; omega, ?_, ?_⟩
      · show (List.set (delA a i0 k).2.l (Int.toNat ((delA a i0 k).1 : Int)) _).take ((delA a i0 k).1 + 1) = _
        rw [Int.toNat_natCast, List.take_add_one, List.take_set_of_le (Nat.le_refl _), q2, List.getElem?_set_self (by omega)]
        rfl
      · show (List.set (delA a i0 k).2.l (Int.toNat ((delA a i0 k).1 : Int)) _).drop _ = _
        rw [Int.toNat_natCast, List.drop_set_of_lt (by omega), hd]
    · rw [if_neg e, if_neg e, List.append_nil]
      exact ⟨by omega, q2, hd⟩
theorem trees_eq {fu : Nat} {a : Arr 12 Int} (hf : 100 < fu) : label_Trees.f fu a = some (a.l.filter nz) := by
  unfold label_Trees.f slices_DeleteFunc__label_Trees_1w.f slices_IndexFunc__label_Trees_1.f
  have hal := a.h
  have hs : ∀ j : Nat, j < a.l.length → slices_IndexFunc__label_Trees_1.s0 fu a.l (j : Int) = some (if ix a.l (j : Int) ≠ 0 then .inr ((j + 1 : Nat) : Int) else .inl (.inl (j : Int))) := by
    intro j hj
    unfold slices_IndexFunc__label_Trees_1.s0 label_Trees_1.f
    have h1 : (j : Int) < (a.l.length : Int) := by omega
    have c0 : 0 ≤ (j : Int) := by omega
    have w3 : IntKind.i64.wrap ((j : Int) + 1) = ((j + 1 : Nat) : Int) := by rw [w64 (by omega) (by omega)]; omega
    simp only [h1, c0, and_self, decide_true, if_true, w3, Option.bind_some]
    by_cases e : ix a.l (j : Int) = 0 <;> simp [e]
  by_cases hall : ∀ j, j < a.l.length → ix a.l (j : Int) ≠ 0
  · have : loopM (slices_IndexFunc__label_Trees_1.s0 fu a.l) fu 0 = some (.inr ()) := by
      refine loopM_run (S := fun j => (j : Int)) a.l.length rfl (fun j hj => by rw [hs j hj, if_pos (hall j hj)]) ?_ (by omega)
      unfold slices_IndexFunc__label_Trees_1.s0
      simp
    have hfil : a.l.filter nz = a.l := by
      apply List.filter_eq_self.2
      intro x hx
      obtain ⟨j, hj, rfl⟩ := List.getElem_of_mem hx
      have := hall j hj
      rw [ix_nat hj] at this
      simp [nz, this]
    rw [this, hfil]
    rfl
  · have hmin : ∀ m j, j ≤ m → (j < a.l.length ∧ ix a.l (j : Int) = 0) → ∃ q, (q < a.l.length ∧ ix a.l (q : Int) = 0) ∧ ∀ i, i < q → ix a.l (i : Int) ≠ 0 := by
      intro m
      induction m with
      | zero =>
        intro j hj hjj
        exact ⟨j, hjj, fun i hi => by omega⟩
      | succ m ih =>
        intro j hj hjj
        by_cases hx : ∃ i, i < j ∧ ix a.l (i : Int) = 0
        · obtain ⟨i, hi, hgi⟩ := hx
          exact ih i (by omega) ⟨by omega, hgi⟩
        · exact ⟨j, hjj, fun i hi hg => hx ⟨i, hi, hg⟩⟩
    have hex : ∃ j, j < a.l.length ∧ ix a.l (j : Int) = 0 := by
      apply Classical.byContradiction
      intro hx
      exact hall fun i hi hg => hx ⟨i, hi, hg⟩
    obtain ⟨j, hj⟩ := hex
    obtain ⟨q, ⟨hq, hg⟩, hbef⟩ := hmin j j (Nat.le_refl _) hj
    have hidx : loopM (slices_IndexFunc__label_Trees_1.s0 fu a.l) fu 0 = some (.inl (q : Int)) :=
      loopM_run (S := fun j => (j : Int)) q rfl (fun i hi => by rw [hs i (by omega), if_pos (hbef i hi)]) (by rw [hs q hq, if_neg (fun h => h hg)]) (by omega)
    have inv := delA_inv a q (by omega) hg hbef
    have hloop : loopM (slices_DeleteFunc__label_Trees_1w.s0 fu) fu ((q : Int), ((q + 1 : Nat) : Int), a) = some (((delA a q (11 - q)).1 : Int), (delA a q (11 - q)).2) := by
      refine loopM_run (S := fun k => (((delA a q k).1 : Int), ((q + 1 + k : Nat) : Int), (delA a q k).2)) (11 - q) rfl ?_ ?_ (by omega)
      · intro k hk
        obtain ⟨q1, q2, q3⟩ := inv k (by omega)
        have hdl := (delA a q k).2.h
        unfold slices_DeleteFunc__label_Trees_1w.s0 label_Trees_1.f
        have h1 : ((q + 1 + k : Nat) : Int) < ((delA a q k).2.l.length : Int) := by omega
        have c0 : 0 ≤ ((q + 1 + k : Nat) : Int) := by omega
        have c1 : 0 ≤ ((delA a q k).1 : Int) ∧ ((delA a q k).1 : Int) < ((delA a q k).2.l.length : Int) := by omega
        have w3 : IntKind.i64.wrap (((q + 1 + k : Nat) : Int) + 1) = ((q + 1 + (k + 1) : Nat) : Int) := by rw [w64 (by omega) (by omega)]; omega
        have w4 : IntKind.i64.wrap (((delA a q k).1 : Int) + 1) = (((delA a q k).1 + 1 : Nat) : Int) := by rw [w64 (by omega) (by omega)]; omega
        simp only [h1, c0, and_self, decide_true, if_true, w3, w4, Option.bind_some, if_pos c1]
        conv => rhs; unfold delA
        by_cases e : nz (ix (delA a q k).2.l ((q + 1 + k : Nat) : Int)) = true
        · rw [if_pos e]
          unfold nz at e
          rw [if_pos e]
          rfl
        · rw [if_neg e]
          unfold nz at e
          rw [if_neg e]
          rfl
      · unfold slices_DeleteFunc__label_Trees_1w.s0
        have hdl := (delA a q (11 - q)).2.h
        have : ¬ ((q + 1 + (11 - q) : Nat) : Int) < ((delA a q (11 - q)).2.l.length : Int) := by omega
        simp only [this, decide_false, Bool.false_eq_true, if_false]
    obtain ⟨q1, q2, q3⟩ := inv (11 - q) (by omega)
    have hdl := (delA a q (11 - q)).2.h
    have w1 : IntKind.i64.wrap ((q : Int) + 1) = ((q + 1 : Nat) : Int) := by rw [w64 (by omega) (by omega)]; omega
    have hne : ¬ (q : Int) = -1 := by omega
    rw [hidx]
    simp only [Option.bind_some, hne, decide_false, Bool.false_eq_true, if_false, w1, hloop, Int.toNat_natCast]
    have cl := (Arr.clr (delA a q (11 - q)).2 (delA a q (11 - q)).1 (0 : Int)).h
    rw [if_pos (by omega), if_pos (by omega), if_pos (by omega)]
    have e1 : cut (Arr.clr (delA a q (11 - q)).2 (delA a q (11 - q)).1 (0 : Int)).l 0 ((delA a q (11 - q)).1 : Int) = (delA a q (11 - q)).2.l.take (delA a q (11 - q)).1 := by
      unfold cut
      rw [Int.toNat_natCast]
      show ((((delA a q (11 - q)).2.l.take (delA a q (11 - q)).1) ++ List.replicate _ 0).take (delA a q (11 - q)).1).drop 0 = _
      rw [List.drop_zero]
      exact List.take_left' (by rw [List.length_take]; omega)
    have e2 : a.l.take (q + 1 + (11 - q)) = a.l := List.take_of_length_le (by omega)
    rw [Option.bind_some, e1, q2, e2]
end Go.Proofs.Ytjhajfkfhdnciaa.Pure

/- Labels of queues: what is right, laid and read. -/
set_option linter.unusedVariables false
set_option linter.unusedSimpArgs false
namespace Go.Proofs.Ytjhajfkfhdnciaa.Pure
open Go Go.Xw
theorem fst4_wide {c0 c1 c2 c3 n : Nat} : (fst4 c0 c1 c2 c3 n).2 ≤ 3 ∨ 65536 ≤ (fst4 c0 c1 c2 c3 n).1 := by
  unfold fst4
  by_cases h0 : c0 < 128
  · rw [if_pos h0]
    exact .inl (by simp)
  · rw [if_neg h0]
    by_cases h2 : (194 ≤ c0 ∧ c0 ≤ 223) ∧ (1 < n ∧ 128 ≤ c1 ∧ c1 ≤ 191)
    · rw [if_pos h2]
      exact .inl (by simp)
    · rw [if_neg h2]
      by_cases h3 : (224 ≤ c0 ∧ c0 ≤ 239) ∧ (1 < n ∧ (if c0 = 224 then 160 else 128) ≤ c1 ∧ c1 ≤ (if c0 = 237 then 159 else 191)) ∧ (2 < n ∧ 128 ≤ c2 ∧ c2 ≤ 191)
      · rw [if_pos h3]
        exact .inl (by simp)
      · rw [if_neg h3]
        by_cases h4 : (240 ≤ c0 ∧ c0 ≤ 244) ∧ (1 < n ∧ (if c0 = 240 then 144 else 128) ≤ c1 ∧ c1 ≤ (if c0 = 244 then 143 else 191)) ∧ (2 < n ∧ 128 ≤ c2 ∧ c2 ≤ 191) ∧ (3 < n ∧ 128 ≤ c3 ∧ c3 ≤ 191)
        · rw [if_pos h4]
          right
          have h5 := h4.1
          have h6 := h4.2.1.2.1
          simp only
          by_cases e : c0 = 240
          · rw [if_pos e] at h6
            omega
          · rw [if_neg e] at h6
            omega
        · rw [if_neg h4]
          exact .inl (by simp)
theorem rs_wide : ∀ (k : Nat) (m : List UInt8), m.length ≤ k → (∀ r ∈ rs k m, runeOk r) → m.length ≤ 3 * (rs k m).length
  | 0, m, hk, _ => by omega
  | k + 1, m, hk, h => by
    unfold rs at h ⊢
    by_cases hm : m = []
    · subst hm
      simp
    · rw [if_neg hm] at h ⊢
      have hp := List.length_pos_iff.2 hm
      obtain ⟨h1, h2⟩ := first_wide hp
      have ih := rs_wide k (m.drop (first m).2) (by rw [List.length_drop]; omega) fun r hr => h r (List.mem_cons_of_mem _ hr)
      have h0 := h _ List.mem_cons_self
      have hw : (first m).2 ≤ 3 := by
        rcases fst4_wide (c0 := oct m 0) (c1 := oct m 1) (c2 := oct m 2) (c3 := oct m 3) (n := m.length) with e | e
        · exact e
        · have e' : 65536 ≤ (first m).1 := e
          unfold runeOk at h0
          omega
      rw [List.length_drop] at ih
      rw [List.length_cons]
      omega
theorem NameOk.len {s : List UInt8} (h : NameOk s) (hs : s.length ≤ 300) : s.length ≤ 24 := by
  have := rs_wide 399 s (by omega) h.2
  have := h.1.2
  omega
/-! ### Bits -/
theorem bit64 {c i : Nat} (hc : c < 9223372036854775808) (hi : i < 64) : bAnd .i64 (shR .i64 (c : Int) (i : Int)) 1 = ((c / 2 ^ i % 2 : Nat) : Int) := by
  have e1 : shR .i64 (c : Int) (i : Int) = ((c / 2 ^ i : Nat) : Int) := by
    unfold shR
    rw [Int.toNat_natCast, show min i IntKind.i64.bits = i from Nat.min_eq_left (by show i ≤ 64; omega)]
    rw [show ((2 : Int) ^ i) = ((2 ^ i : Nat) : Int) by push_cast; rfl]
    rw [Int.fdiv_eq_ediv_of_nonneg _ (Int.natCast_nonneg _)]
    rfl
  rw [e1]
  have hq : c / 2 ^ i < 9223372036854775808 := Nat.lt_of_le_of_lt (Nat.div_le_self _ _) hc
  generalize c / 2 ^ i = q at *
  unfold bAnd
  have e2 : (BitVec.ofInt IntKind.i64.bits (q : Int) &&& BitVec.ofInt IntKind.i64.bits 1).toNat = q % 2 := by
    rw [BitVec.toNat_and]
    have a1 : (BitVec.ofInt IntKind.i64.bits (q : Int)).toNat = q := by
      show (BitVec.ofInt 64 (q : Int)).toNat = q
      rw [BitVec.toNat_ofInt]
      omega
    have a2 : (BitVec.ofInt IntKind.i64.bits 1).toNat = 1 := rfl
    rw [a1, a2, Nat.and_one_is_mod]
  rw [e2, w64 (by omega) (by omega)]
/-! ### What is right -/
def rootOk (c : Nat) (l : List Int) (i : Nat) : Prop := (c / 2 ^ i % 2 = 0 → ix l (i : Int) = 0) ∧ (c / 2 ^ i % 2 = 1 → numOk (ix l (i : Int)))
instance (c : Nat) (l : List Int) (i : Nat) : Decidable (rootOk c l i) := inferInstanceAs (Decidable (_ ∧ _))
def QueueOk (q : S_api_Queue) : Prop := NameOk q.Name ∧ (0 ≤ q.Count ∧ q.Count ≤ 4095) ∧ ∀ i, i < 12 → rootOk q.Count.toNat q.Roots.l i
instance (q : S_api_Queue) : Decidable (QueueOk q) := inferInstanceAs (Decidable (_ ∧ _))
theorem getIx {n : Nat} (a : Arr n Int) (i : Nat) : Arr.get a (i : Int) = ix a.l (i : Int) := rfl
theorem queue_head {q : S_api_Queue} (hs : q.Name.length ≤ 300) : (((name_Right.f 400 q.Name : Option Bool).bind fun t9 => (if (!t9) = true then some (true) else (if (decide (q.Count < 0)) = true then some (true) else some ((decide (q.Count ≥ 4096)))))) : Option Bool) = some (!decide (NameOk q.Name ∧ (0 ≤ q.Count ∧ q.Count ≤ 4095))) := by
  rw [name_eq hs, Option.bind_some]
  by_cases h1 : NameOk q.Name
  · rw [decide_eq_true h1]
    by_cases h2 : q.Count < 0
    · rw [decide_eq_true h2, decide_eq_false (fun x : NameOk q.Name ∧ (0 ≤ q.Count ∧ q.Count ≤ 4095) => by have := x.2.1; omega)]
      rfl
    · rw [decide_eq_false h2]
      by_cases h3 : q.Count ≥ 4096
      · rw [decide_eq_true h3, decide_eq_false (fun x : NameOk q.Name ∧ (0 ≤ q.Count ∧ q.Count ≤ 4095) => by have := x.2.2; omega)]
        rfl
      · rw [decide_eq_false h3, decide_eq_true (show NameOk q.Name ∧ (0 ≤ q.Count ∧ q.Count ≤ 4095) from ⟨h1, by omega, by omega⟩)]
        rfl
  · rw [decide_eq_false h1, decide_eq_false (fun x : NameOk q.Name ∧ (0 ≤ q.Count ∧ q.Count ≤ 4095) => h1 x.1)]
    rfl
theorem rqueue_head {q : S_api_Queue} (hs : q.Name.length ≤ 300) : (((rickyardref04_Right.f 400 q.Name : Option Bool).bind fun t9 => (if (!t9) = true then some (true) else (if (decide (q.Count < 0)) = true then some (true) else some ((decide (q.Count > 4095)))))) : Option Bool) = some (!decide (NameOk q.Name ∧ (0 ≤ q.Count ∧ q.Count ≤ 4095))) := by
  rw [rname_eq hs, Option.bind_some]
  by_cases h1 : NameOk q.Name
  · rw [decide_eq_true h1]
    by_cases h2 : q.Count < 0
    · rw [decide_eq_true h2, decide_eq_false (fun x : NameOk q.Name ∧ (0 ≤ q.Count ∧ q.Count ≤ 4095) => by have := x.2.1; omega)]
      rfl
    · rw [decide_eq_false h2]
      by_cases h3 : q.Count > 4095
      · rw [decide_eq_true h3, decide_eq_false (fun x : NameOk q.Name ∧ (0 ≤ q.Count ∧ q.Count ≤ 4095) => by have := x.2.2; omega)]
        rfl
      · rw [decide_eq_false h3, decide_eq_true (show NameOk q.Name ∧ (0 ≤ q.Count ∧ q.Count ≤ 4095) from ⟨h1, by omega, by omega⟩)]
        rfl
  · rw [decide_eq_false h1, decide_eq_false (fun x : NameOk q.Name ∧ (0 ≤ q.Count ∧ q.Count ≤ 4095) => h1 x.1)]
    rfl
theorem queueRight_eq {q : S_api_Queue} (hs : q.Name.length ≤ 300) : label_RightQueue.f 400 q = some (decide (QueueOk q)) := by
  unfold label_RightQueue.f
  rw [queue_head hs, Option.bind_some]
  by_cases hh : NameOk q.Name ∧ (0 ≤ q.Count ∧ q.Count ≤ 4095)
  · rw [decide_eq_true hh]
    obtain ⟨c, hc⟩ : ∃ c : Nat, q.Count = (c : Int) := ⟨q.Count.toNat, by omega⟩
    have hst : ∀ j : Nat, j < 12 → label_RightQueue.s0 400 q (j : Int) = some (if rootOk c q.Roots.l j then .inr ((j + 1 : Nat) : Int) else .inl (.inl false)) := by
      intro j hj
      unfold label_RightQueue.s0
      have h1 : (j : Int) < 12 := by omega
      have c0 : 0 ≤ (j : Int) := by omega
      have c1 : 0 ≤ (j : Int) ∧ (j : Int) < 12 := by omega
      have w3 : IntKind.i64.wrap ((j : Int) + 1) = ((j + 1 : Nat) : Int) := by rw [w64 (by omega) (by omega)]; omega
      have hb := bit64 (c := c) (i := j) (by omega) (by omega)
      rw [hc, hb]
      simp only [h1, c0, decide_true, if_true, if_pos c1, w3, bnum_eq, Option.bind_some, getIx]
      have hm : c / 2 ^ j % 2 = 0 ∨ c / 2 ^ j % 2 = 1 := by omega
      rcases hm with e | e
      · have hr : rootOk c q.Roots.l j ↔ ix q.Roots.l (j : Int) = 0 := ⟨fun x => x.1 e, fun z => ⟨fun _ => z, fun e' => by omega⟩⟩
        rw [e]
        by_cases z : ix q.Roots.l (j : Int) = 0
        · rw [if_pos (hr.2 z)]
          simp [z]
        · rw [if_neg (fun x => z (hr.1 x))]
          simp [z]
      · have hr : rootOk c q.Roots.l j ↔ numOk (ix q.Roots.l (j : Int)) := ⟨fun x => x.2 e, fun z => ⟨fun e' => by omega, fun _ => z⟩⟩
        rw [e]
        by_cases z : numOk (ix q.Roots.l (j : Int))
        · rw [if_pos (hr.2 z)]
          simp [z]
        · rw [if_neg (fun x => z (hr.1 x))]
          simp [z]
    have hQ : QueueOk q ↔ ∀ i, i < 12 → rootOk c q.Roots.l i := by
      unfold QueueOk
      rw [hc, Int.toNat_natCast, ← hc]
      exact ⟨fun x => x.2.2, fun x => ⟨hh.1, hh.2, x⟩⟩
    by_cases hall : ∀ i, i < 12 → rootOk c q.Roots.l i
    · have : loopM (label_RightQueue.s0 400 q) 400 0 = some (.inr ()) := by
        refine loopM_run (S := fun j => (j : Int)) 12 rfl (fun j hj => by rw [hst j hj, if_pos (hall j hj)]) ?_ (by omega)
        unfold label_RightQueue.s0
        simp
      rw [this, decide_eq_true (hQ.2 hall)]
      rfl
    · have : loopM (label_RightQueue.s0 400 q) 400 0 = some (.inl false) := by
        refine loopM_bad (S := fun j => (j : Int)) 12 (fun j => rootOk c q.Roots.l j) rfl ?_ (fun j hj _ hg => by rw [hst j hj, if_pos hg]) (fun j hj _ hg => by rw [hst j hj, if_neg hg]) (by omega)
        apply Classical.byContradiction
        intro hx
        exact hall fun i hi => Classical.byContradiction fun hg => hx ⟨i, hi, hg⟩
      rw [this, decide_eq_false (fun x => hall (hQ.1 x))]
      rfl
  · rw [decide_eq_false hh, decide_eq_false (fun x : QueueOk q => hh ⟨x.1, x.2.1⟩)]
    rfl
theorem rqueueRight_eq {q : S_api_Queue} (hs : q.Name.length ≤ 300) : rickyardref11_Right.f 400 q = some (decide (QueueOk q)) := by
  unfold rickyardref11_Right.f
  rw [rqueue_head hs, Option.bind_some]
  by_cases hh : NameOk q.Name ∧ (0 ≤ q.Count ∧ q.Count ≤ 4095)
  · rw [decide_eq_true hh]
    obtain ⟨c, hc⟩ : ∃ c : Nat, q.Count = (c : Int) := ⟨q.Count.toNat, by omega⟩
    have hst : ∀ j : Nat, j < 12 → rickyardref11_Right.s0 400 q (((c / 2 ^ j : Nat) : Int), (j : Int)) = some (if rootOk c q.Roots.l j then .inr (((c / 2 ^ (j + 1) : Nat) : Int), ((j + 1 : Nat) : Int)) else .inl (.inl false)) := by
      intro j hj
      unfold rickyardref11_Right.s0
      have h1 : (j : Int) < 12 := by omega
      have c1 : 0 ≤ (j : Int) ∧ (j : Int) < 12 := by omega
      have w3 : IntKind.i64.wrap ((j : Int) + 1) = ((j + 1 : Nat) : Int) := by rw [w64 (by omega) (by omega)]; omega
      have hle : c / 2 ^ j ≤ c := Nat.div_le_self _ _
      have hd : c / 2 ^ (j + 1) = c / 2 ^ j / 2 := by rw [Nat.pow_succ, Nat.div_div_eq_div_mul]
      rw [hd]
      obtain ⟨u, hu⟩ : ∃ u, u = c / 2 ^ j := ⟨_, rfl⟩
      rw [← hu] at hle ⊢
      have w4 : IntKind.i64.wrap (Int.tdiv (u : Int) 2) = ((u / 2 : Nat) : Int) := by
        rw [show Int.tdiv (u : Int) 2 = ((u / 2 : Nat) : Int) from rfl, w64 (by omega) (by omega)]
      have hmo : Int.tmod (u : Int) 2 = ((u % 2 : Nat) : Int) := rfl
      simp only [h1, decide_true, if_true, if_pos c1, w3, w4, hmo, rbnum_eq, Option.bind_some, getIx]
      have hm : u % 2 = 0 ∨ u % 2 = 1 := by omega
      rcases hm with e | e
      · have hr : rootOk c q.Roots.l j ↔ ix q.Roots.l (j : Int) = 0 := ⟨fun x => x.1 (by rw [← hu]; exact e), fun z => ⟨fun _ => z, fun e' => by rw [← hu] at e'; omega⟩⟩
        rw [e]
        by_cases z : ix q.Roots.l (j : Int) = 0
        · rw [if_pos (hr.2 z)]
          simp [z]
        · rw [if_neg (fun x => z (hr.1 x))]
          simp [z]
      · have hr : rootOk c q.Roots.l j ↔ numOk (ix q.Roots.l (j : Int)) := ⟨fun x => x.2 (by rw [← hu]; exact e), fun z => ⟨fun e' => by rw [← hu] at e'; omega, fun _ => z⟩⟩
        rw [e]
        by_cases z : numOk (ix q.Roots.l (j : Int))
        · rw [if_pos (hr.2 z)]
          simp [z]
        · rw [if_neg (fun x => z (hr.1 x))]
          simp [z]
    have hQ : QueueOk q ↔ ∀ i, i < 12 → rootOk c q.Roots.l i := by
      unfold QueueOk
      rw [hc, Int.toNat_natCast, ← hc]
      exact ⟨fun x => x.2.2, fun x => ⟨hh.1, hh.2, x⟩⟩
    have h0 : (q.Count, (0 : Int)) = (((c / 2 ^ 0 : Nat) : Int), ((0 : Nat) : Int)) := by rw [hc]; simp
    by_cases hall : ∀ i, i < 12 → rootOk c q.Roots.l i
    · have : loopM (rickyardref11_Right.s0 400 q) 400 (q.Count, 0) = some (.inr ()) := by
        refine loopM_run (S := fun j => (((c / 2 ^ j : Nat) : Int), (j : Int))) 12 h0.symm (fun j hj => by rw [hst j hj, if_pos (hall j hj)]) ?_ (by omega)
        unfold rickyardref11_Right.s0
        simp
      rw [this, decide_eq_true (hQ.2 hall)]
      rfl
    · have : loopM (rickyardref11_Right.s0 400 q) 400 (q.Count, 0) = some (.inl false) := by
        refine loopM_bad (S := fun j => (((c / 2 ^ j : Nat) : Int), (j : Int))) 12 (fun j => rootOk c q.Roots.l j) h0.symm ?_ (fun j hj _ hg => by rw [hst j hj, if_pos hg]) (fun j hj _ hg => by rw [hst j hj, if_neg hg]) (by omega)
        apply Classical.byContradiction
        intro hx
        exact hall fun i hi => Classical.byContradiction fun hg => hx ⟨i, hi, hg⟩
      rw [this, decide_eq_false (fun x => hall (hQ.1 x))]
      rfl
  · rw [decide_eq_false hh, decide_eq_false (fun x : QueueOk q => hh ⟨x.1, x.2.1⟩)]
    rfl
/-! ### What is laid -/
theorem octs_bytes (s : List UInt8) : Bytes (s.map ofB) := by
  intro x hx
  obtain ⟨b, _, rfl⟩ := List.mem_map.1 hx
  have := b.toNat_lt
  unfold ofB
  omega
theorem octs_back (s : List UInt8) : (s.map ofB).map toB = s := by
  rw [List.map_map]
  have : ∀ b ∈ s, (toB ∘ ofB) b = b := by
    intro b _
    show UInt8.ofNat (Int.toNat ((b.toNat : Nat) : Int)) = b
    rw [Int.toNat_natCast]
    exact UInt8.ofNat_toNat
  rw [List.map_congr_left this, List.map_id']
def queueE (q : S_api_Queue) : List Int := (lay (u64n q.Count) 4 ++ rowE q.Roots.l 12) ++ q.Name.map ofB
theorem queueE_len (q : S_api_Queue) : (queueE q).length = 28 + q.Name.length := by
  simp [queueE, lay_len, rowE_len]
  omega
theorem queueE_bytes (q : S_api_Queue) : Bytes (queueE q) := ((lay_bytes _ _).app (rowE_bytes _ _)).app (octs_bytes _)
theorem QueueOk.len {q : S_api_Queue} (h : QueueOk q) (hs : q.Name.length ≤ 300) : q.Name.length ≤ 24 := NameOk.len h.1 hs
theorem queuePut_eq {q : S_api_Queue} (hs : q.Name.length ≤ 300) : label_PutQueue.f 400 q = some (if QueueOk q then (sealed (summed 5 (q.Name.length : Int) (queueE q)), true) else ([], false)) := by
  unfold label_PutQueue.f
  rw [queueRight_eq hs]
  by_cases h : QueueOk q
  · have hl := h.len hs
    have hlay0 : octet_Lay.f 400 (IntKind.u64.wrap q.Count) 4 = some (lay (u64n q.Count) 4) := olay64 (n := 4) (by decide) (by decide)
    have hloop : loopM (label_PutQueue.s0 400 q) 400 (lay (u64n q.Count) 4, 0) = some (lay (u64n q.Count) 4 ++ rowE q.Roots.l 12) := by
      refine loopM_run (S := fun j => (lay (u64n q.Count) 4 ++ rowE q.Roots.l j, (j : Int))) 12 (by simp [rowE]) ?_ ?_ (by omega)
      · intro j hj
        unfold label_PutQueue.s0
        have h1 : (j : Int) < 12 := by omega
        have c1 : 0 ≤ (j : Int) ∧ (j : Int) < 12 := by omega
        have w3 : IntKind.i64.wrap ((j : Int) + 1) = ((j + 1 : Nat) : Int) := by rw [w64 (by omega) (by omega)]; omega
        have hlay : octet_Lay.f 400 (IntKind.u64.wrap (ix q.Roots.l (j : Int))) 2 = some (lay (u64n (ix q.Roots.l (j : Int))) 2) := olay64 (n := 2) (by decide) (by omega)
        have hlim : (lay (u64n q.Count) 4 ++ rowE q.Roots.l j).length + (lay (u64n (ix q.Roots.l (j : Int))) 2).length ≤ LIM := lim_of' (by rw [List.length_append, rowE_len, lay_len, lay_len]; omega)
        have c0 : 0 ≤ (j : Int) := c1.1
        simp only [h1, c0, and_self, decide_true, if_true, w3, getIx, hlay, Option.bind_some, if_pos hlim]
        rw [rowE, rowE, flat_succ, List.append_assoc]
      · unfold label_PutQueue.s0
        simp
    have hlim : (lay (u64n q.Count) 4 ++ rowE q.Roots.l 12).length + q.Name.length ≤ LIM := lim_of' (by rw [List.length_append, rowE_len, lay_len]; omega)
    have hq := seal_eq (fu := 400) (k := 5) (t := (q.Name.length : Int)) (queueE_bytes q) (by omega) (by omega) (by rw [queueE_len]; omega) (by decide)
    unfold queueE at hq
    unfold queueE
    simp only [h, decide_true, Bool.not_true, Bool.false_eq_true, if_false, Option.bind_some, hlay0, hloop, if_pos hlim, hq, if_true]
  · simp [h]
theorem rqueuePut_eq {q : S_api_Queue} (hl : q.Name.length ≤ 28) : rickyardref11_Put.f 400 q = some ((sealed (summed 5 (q.Name.length : Int) (queueE q))).map toB) := by
  unfold rickyardref11_Put.f
  have hlay0 : rickyardref01_Lay.f 400 (IntKind.u64.wrap q.Count) 4 = some ((lay (u64n q.Count) 4).map toB) := rlay64 (n := 4) (by decide) (by decide)
  have hloop : loopM (rickyardref11_Put.s0 400 q) 400 ((lay (u64n q.Count) 4).map toB, 0) = some ((lay (u64n q.Count) 4 ++ rowE q.Roots.l 12).map toB) := by
    refine loopM_run (S := fun j => ((lay (u64n q.Count) 4 ++ rowE q.Roots.l j).map toB, (j : Int))) 12 (by simp [rowE]) ?_ ?_ (by omega)
    · intro j hj
      unfold rickyardref11_Put.s0
      have h1 : (j : Int) < 12 := by omega
      have c1 : 0 ≤ (j : Int) ∧ (j : Int) < 12 := by omega
      have w3 : IntKind.i64.wrap ((j : Int) + 1) = ((j + 1 : Nat) : Int) := by rw [w64 (by omega) (by omega)]; omega
      have hlay : rickyardref01_Lay.f 400 (IntKind.u64.wrap (ix q.Roots.l (j : Int))) 2 = some ((lay (u64n (ix q.Roots.l (j : Int))) 2).map toB) := rlay64 (n := 2) (by decide) (by omega)
      have hlim : ((lay (u64n q.Count) 4 ++ rowE q.Roots.l j).map toB).length + ((lay (u64n (ix q.Roots.l (j : Int))) 2).map toB).length ≤ LIM := lim_of' (by rw [List.length_map, List.length_map, List.length_append, rowE_len, lay_len, lay_len]; omega)
      have c0 : 0 ≤ (j : Int) := c1.1
      simp only [h1, c0, and_self, decide_true, if_true, w3, getIx, hlay, Option.bind_some, if_pos hlim]
      rw [← List.map_append, rowE, rowE, flat_succ, List.append_assoc]
    · unfold rickyardref11_Put.s0
      simp
  have hlim : ((lay (u64n q.Count) 4 ++ rowE q.Roots.l 12).map toB).length + q.Name.length ≤ LIM := lim_of' (by rw [List.length_map, List.length_append, rowE_len, lay_len]; omega)
  have hq := rseal_eq (fu := 400) (k := 5) (t := (q.Name.length : Int)) (queueE_bytes q) (by omega) (by omega) (by rw [queueE_len]; omega) (by decide)
  have e : (lay (u64n q.Count) 4 ++ rowE q.Roots.l 12).map toB ++ q.Name = (queueE q).map toB := by
    unfold queueE
    rw [List.map_append (l₁ := lay (u64n q.Count) 4 ++ rowE q.Roots.l 12), octs_back]
  simp only [hlay0, Option.bind_some, hloop, if_pos hlim, e, hq]
/-! ### What is read -/
def rootsOf (body : List Int) : Arr 12 Int := fillA (fun i => intAt body (4 + 2 * i) 2) (Arr.rep 12 (0 : Int)) 12
def queueOf (body : List Int) (t : Nat) : S_api_Queue := ⟨(part body 28 t).map toB, intAt body 0 4, rootsOf body⟩
theorem rootsOf_l (body : List Int) : (rootsOf body).l = (List.range 12).map fun i => intAt body (4 + 2 * i) 2 := fillA_all _ _
theorem queueE_of {body : List Int} (hb : Bytes body) {t : Nat} (h : 28 + t ≤ body.length) : queueE (queueOf body t) = body.take (28 + t) := by
  unfold queueE queueOf
  have e1 : lay (u64n (intAt body 0 4)) 4 = part body 0 4 := lay_part hb (by omega) (by decide)
  have e2 : rowE (rootsOf body).l 12 = part body 4 24 := by
    have : part body 4 24 = (List.range 12).flatMap (fieldAt (body.drop 4) 2) := (field_flat (w := 2) 12 (by rw [List.length_drop]; omega)).symm
    rw [this]
    apply flat_congr
    intro i hi
    rw [rootsOf_l, ix_map hi]
    have := lay_part (l := body) (i := 4 + 2 * i) (n := 2) hb (by omega) (by decide)
    rw [this]
    unfold part fieldAt
    rw [List.drop_drop]
  have e3 : ((part body 28 t).map toB).map ofB = part body 28 t := of_toB (part_bytes hb 28 t)
  rw [e1, e2, e3]
  unfold part
  rw [List.drop_zero, ← List.take_add, ← List.take_add]
theorem queueOf_E {q : S_api_Queue} (hs : q.Name.length ≤ 300) (h : QueueOk q) (t : List Int) : queueOf (queueE q ++ t) q.Name.length = q := by
  obtain ⟨nm, c, a⟩ := q
  have hc := h.2.1
  have hr := h.2.2
  simp only at hc hr hs ⊢
  unfold queueOf
  have ec : part (queueE ⟨nm, c, a⟩ ++ t) 0 4 = lay (u64n c) 4 := by
    unfold part queueE
    rw [List.drop_zero, List.append_assoc, List.append_assoc]
    exact List.take_left' (lay_len _ _)
  have en : part (queueE ⟨nm, c, a⟩ ++ t) 28 nm.length = nm.map ofB := by
    unfold part queueE
    rw [List.append_assoc, List.drop_left' (by rw [List.length_append, lay_len, rowE_len])]
    exact List.take_left' (by rw [List.length_map])
  have e1 : intAt (queueE ⟨nm, c, a⟩ ++ t) 0 4 = c := by
    unfold intAt
    rw [ec, num_lay, u64n_of (by omega) (by omega), w64 (by omega) (by omega)]
    omega
  have e2 : rootsOf (queueE ⟨nm, c, a⟩ ++ t) = a := by
    have : (rootsOf (queueE ⟨nm, c, a⟩ ++ t)).l = a.l := by
      have hal := a.h
      rw [rootsOf_l]
      apply ix_ext (by simp [hal])
      intro i hi
      rw [List.length_map, List.length_range] at hi
      rw [ix_map hi]
      have hp : part (queueE ⟨nm, c, a⟩ ++ t) (4 + 2 * i) 2 = lay (u64n (ix a.l (i : Int))) 2 := by
        have : part (queueE ⟨nm, c, a⟩ ++ t) (4 + 2 * i) 2 = fieldAt (rowE a.l 12 ++ (nm.map ofB ++ t)) 2 i := by
          unfold part fieldAt queueE
          rw [← List.drop_drop, List.append_assoc, List.append_assoc, List.drop_left' (lay_len _ _)]
        rw [this, rowE, flat_field (fun i => lay_len _ _) hi]
      unfold intAt
      have hri := hr i hi
      have hv : 0 ≤ ix a.l (i : Int) ∧ ix a.l (i : Int) ≤ 3071 := by
        have hm : c.toNat / 2 ^ i % 2 = 0 ∨ c.toNat / 2 ^ i % 2 = 1 := by omega
        rcases hm with e | e
        · rw [hri.1 e]
          omega
        · have := hri.2 e
          unfold numOk at this
          omega
      rw [hp, num_lay, u64n_of (by omega) (by omega), w64 (by omega) (by omega)]
      omega
    cases a
    generalize rootsOf _ = b at *
    cases b
    simp only at this
    subst this
    rfl
  rw [e1, e2, en, octs_back]
def noQ : S_api_Queue := ⟨[], 0, Arr.rep 12 (0 : Int)⟩
def GetQ (b : List Int) : Prop := Is b ∧ ix b 4 = 5 ∧ ix b 5 ≤ 24 ∧ QueueOk (queueOf (b.drop 8) (ix b 5).toNat) ∧ ∀ y ∈ (b.drop 8).drop (28 + (ix b 5).toNat), y = 0
instance (b : List Int) : Decidable (GetQ b) := inferInstanceAs (Decidable (_ ∧ _))
theorem fillA_succ {n : Nat} {α : Type} (f : Nat → α) (a : Arr n α) (j : Nat) : fillA f a (j + 1) = Arr.set (fillA f a j) (j : Int) (f j) := rfl
theorem queueGet_eq {b : List Int} (hb : Bytes b) (hl : b.length ≤ 9000000000000000000) : label_GetQueue.f 400 b = some (if GetQ b then (queueOf (b.drop 8) (ix b 5).toNat, true) else (noQ, false)) := by
  unfold label_GetQueue.f
  rw [open_eq hb hl (by decide)]
  by_cases hi : Is b
  · have h8 := is_body hi
    obtain ⟨b4, b5⟩ := is_tag hb hi
    rw [if_pos hi]
    simp only [Option.bind_some, Bool.not_true, Bool.false_eq_true, if_false]
    by_cases h4 : ix b 4 = 5
    · by_cases h5 : ix b 5 ≤ 24
      · have h5' : ¬ ix b 5 > 24 := by omega
        obtain ⟨t, ht⟩ : ∃ t : Nat, ix b 5 = (t : Int) := ⟨(ix b 5).toNat, by omega⟩
        have hbd := hb.drop 8
        obtain ⟨body, hbody⟩ : ∃ body, body = b.drop 8 := ⟨_, rfl⟩
        rw [← hbody] at h8 hbd
        have hloop : loopM (label_GetQueue.s0 400 (ix b 4, ix b 5, body, true)) 400 (0, ⟨(part body 28 t).map toB, intAt body 0 4, Arr.rep 12 (0 : Int)⟩) = some (queueOf body t) := by
          refine loopM_run (S := fun j => ((j : Int), (⟨(part body 28 t).map toB, intAt body 0 4, fillA (fun i => intAt body (4 + 2 * i) 2) (Arr.rep 12 (0 : Int)) j⟩ : S_api_Queue))) 12 rfl ?_ ?_ (by omega)
          · intro j hj
            unfold label_GetQueue.s0
            have h1 : (j : Int) < 12 := by omega
            have cj : 0 ≤ (j : Int) ∧ (j : Int) < 12 := by omega
            have w3 : IntKind.i64.wrap ((j : Int) + 1) = ((j + 1 : Nat) : Int) := by rw [w64 (by omega) (by omega)]; omega
            have w4 : IntKind.i64.wrap (4 + IntKind.i64.wrap (2 * (j : Int))) = ((4 + 2 * j : Nat) : Int) := by rw [w64 (n := 2 * (j : Int)) (by omega) (by omega), w64 (by omega) (by omega)]; omega
            have w5 : IntKind.i64.wrap (((4 + 2 * j : Nat) : Int) + 2) = ((4 + 2 * j + 2 : Nat) : Int) := by rw [w64 (by omega) (by omega)]; omega
            have hpl := part_len (l := body) (i := 4 + 2 * j) (n := 2) (by omega)
            have hr : octet_Read.f 400 (cut body ((4 + 2 * j : Nat) : Int) ((4 + 2 * j + 2 : Nat) : Int)) = some ((num (part body (4 + 2 * j) 2) : Nat) : Int) := by
              have := read_eq (fu := 400) (part_bytes hbd (4 + 2 * j) 2) (by omega) (by omega)
              rw [cut_eq]
              exact this
            have c1 : (0 : Int) ≤ ((4 + 2 * j : Nat) : Int) ∧ ((4 + 2 * j : Nat) : Int) ≤ ((4 + 2 * j + 2 : Nat) : Int) ∧ ((4 + 2 * j + 2 : Nat) : Int) ≤ (body.length : Int) := by omega
            simp only [h1, decide_true, if_true, w3, w4, w5, if_pos c1, hr, Option.bind_some, if_pos cj]
            rfl
          · unfold label_GetQueue.s0
            simp [queueOf, rootsOf]
        have w1 : IntKind.i64.wrap (28 + (t : Int)) = ((28 + t : Nat) : Int) := by rw [w64 (by omega) (by omega)]; omega
        have w6 : IntKind.i64.wrap (IntKind.i64.wrap ((body.length : Int) - 28) - (t : Int)) = ((56 - (28 + t) : Nat) : Int) := by rw [w64 (n := (body.length : Int) - 28) (by omega) (by omega), w64 (by omega) (by omega)]; omega
        have hn := noughts_eq (fu := 400) (b := body) (i := 28 + t) (n := 56 - (28 + t)) (by omega) (by omega) (by omega)
        have e8 : (body.drop (28 + t)).take (56 - (28 + t)) = body.drop (28 + t) := List.take_of_length_le (by rw [List.length_drop, h8]; omega)
        rw [e8] at hn
        have hr0 : octet_Read.f 400 (cut body 0 4) = some ((num (part body 0 4) : Nat) : Int) := by
          have : cut body 0 4 = part body 0 4 := cut_eq body 0 4
          rw [this]
          have hpl := part_len (l := body) (i := 0) (n := 4) (by omega)
          exact read_eq (fu := 400) (part_bytes hbd 0 4) (by omega) (by omega)
        have en : cut body 28 ((28 + t : Nat) : Int) = part body 28 t := cut_eq body 28 t
        have c2 : (0 : Int) ≤ 28 ∧ (28 : Int) ≤ ((28 + t : Nat) : Int) ∧ ((28 + t : Nat) : Int) ≤ (body.length : Int) := by omega
        have c3 : (4 : Int) ≤ (body.length : Int) := by omega
        have hqn : (queueOf body t).Name.length ≤ 300 := by
          show ((part body 28 t).map toB).length ≤ 300
          rw [List.length_map, part_len (by omega)]
          omega
        rw [← hbody]
        have hie : IntKind.i64.wrap ((num (part body 0 4) : Nat) : Int) = intAt body 0 4 := rfl
        simp only [h4, h5', decide_true, decide_false, Bool.not_true, Bool.false_eq_true, if_false] at hloop ⊢
        simp only [ht, w1, w6, hn, Option.bind_some] at hloop ⊢
        have hgi : GetQ b ↔ (QueueOk (queueOf body t) ∧ ∀ y ∈ body.drop (28 + t), y = 0) := by
          unfold GetQ
          rw [ht, ← hbody, Int.toNat_natCast]
          exact ⟨fun x => x.2.2.2, fun x => ⟨hi, h4, by omega, x⟩⟩
        rw [Int.toNat_natCast]
        by_cases hz : ∀ y ∈ body.drop (28 + t), y = 0
        · rw [decide_eq_true hz]
          simp only [Bool.not_true, Bool.false_eq_true, if_false]
          rw [if_pos c2, if_pos c3, hr0, Option.bind_some, en, hie, hloop, Option.bind_some, queueRight_eq hqn]
          by_cases hr : QueueOk (queueOf body t)
          · rw [if_pos (hgi.2 ⟨hr, hz⟩), decide_eq_true hr]
            rfl
          · rw [if_neg (fun x => hr (hgi.1 x).1), decide_eq_false hr]
            rfl
        · rw [decide_eq_false hz, if_neg (fun x => hz (hgi.1 x).2)]
          rfl
      · have h5' : ix b 5 > 24 := by omega
        have hg : ¬ GetQ b := fun x => h5 x.2.2.1
        rw [if_neg hg, decide_eq_true h4, decide_eq_true h5']
        rfl
    · have hg : ¬ GetQ b := fun x => h4 x.2.1
      rw [if_neg hg, decide_eq_false h4]
      rfl
  · have hg : ¬ GetQ b := fun x => hi x.1
    rw [if_neg hi, if_neg hg]
    rfl
theorem rqueueGet_eq {b : List Int} (hb : Bytes b) : rickyardref11_Get.f 400 b = some (if GetQ b then (queueOf (b.drop 8) (ix b 5).toNat, true) else (noQ, false)) := by
  unfold rickyardref11_Get.f
  rw [ropen_eq hb (by decide)]
  by_cases hi : Is b
  · have h8 := is_body hi
    obtain ⟨b4, b5⟩ := is_tag hb hi
    rw [if_pos hi]
    simp only [Option.bind_some, Bool.not_true, Bool.false_eq_true, if_false]
    by_cases h4 : ix b 4 = 5
    · by_cases h5 : ix b 5 ≤ 28
      · have h5' : ¬ ix b 5 > 28 := by omega
        obtain ⟨t, ht⟩ : ∃ t : Nat, ix b 5 = (t : Int) := ⟨(ix b 5).toNat, by omega⟩
        have hbd := hb.drop 8
        obtain ⟨body, hbody⟩ : ∃ body, body = b.drop 8 := ⟨_, rfl⟩
        have hq0 : ∀ {k tg : Int} {bd : List Int}, (0 ≤ k ∧ k ≤ 255) → (0 ≤ tg ∧ tg ≤ 255) → Bytes bd → bd.length ≤ 56 → ((sealed (summed k tg bd)).map toB = b.map toB ↔ k = ix b 4 ∧ tg = ix b 5 ∧ bd ++ List.replicate (56 - bd.length) 0 = b.drop 8) := fun h1 h2 h3 h4 => sealed_map_iff hb hi h1 h2 h3 h4
        rw [← hbody] at h8 hbd
        have hloop : loopM (rickyardref11_Get.s0 400 (ix b 4, ix b 5, body.map toB, true)) 400 (0, ⟨(part body 28 t).map toB, intAt body 0 4, Arr.rep 12 (0 : Int)⟩) = some (queueOf body t) := by
          refine loopM_run (S := fun j => ((j : Int), (⟨(part body 28 t).map toB, intAt body 0 4, fillA (fun i => intAt body (4 + 2 * i) 2) (Arr.rep 12 (0 : Int)) j⟩ : S_api_Queue))) 12 rfl ?_ ?_ (by omega)
          · intro j hj
            unfold rickyardref11_Get.s0
            have h1 : (j : Int) < 12 := by omega
            have cj : 0 ≤ (j : Int) ∧ (j : Int) < 12 := by omega
            have w3 : IntKind.i64.wrap ((j : Int) + 1) = ((j + 1 : Nat) : Int) := by rw [w64 (by omega) (by omega)]; omega
            have w4 : IntKind.i64.wrap (4 + IntKind.i64.wrap (2 * (j : Int))) = ((4 + 2 * j : Nat) : Int) := by rw [w64 (n := 2 * (j : Int)) (by omega) (by omega), w64 (by omega) (by omega)]; omega
            have w5 : IntKind.i64.wrap (6 + IntKind.i64.wrap (2 * (j : Int))) = ((4 + 2 * j + 2 : Nat) : Int) := by rw [w64 (n := 2 * (j : Int)) (by omega) (by omega), w64 (by omega) (by omega)]; omega
            have hr := rintAt_eq (fu := 400) (b := body) (i := 4 + 2 * j) (n := 2) hbd (by omega) (by decide) (by decide)
            have c1 : (0 : Int) ≤ ((4 + 2 * j : Nat) : Int) ∧ ((4 + 2 * j : Nat) : Int) ≤ ((4 + 2 * j + 2 : Nat) : Int) ∧ ((4 + 2 * j + 2 : Nat) : Int) ≤ ((body.map toB).length : Int) := by rw [List.length_map]; omega
            simp only [h1, decide_true, if_true, w3, w4, w5, if_pos c1, hr, Option.bind_some, if_pos cj]
            rfl
          · unfold rickyardref11_Get.s0
            simp [queueOf, rootsOf]
        have w1 : IntKind.i64.wrap (28 + (t : Int)) = ((28 + t : Nat) : Int) := by rw [w64 (by omega) (by omega)]; omega
        have hr0 : rickyardref01_Int.f 400 (cut (body.map toB) 0 4) = some (intAt body 0 4) := rintAt_eq (fu := 400) (b := body) (i := 0) (n := 4) hbd (by omega) (by decide) (by decide)
        have en : cut (body.map toB) 28 ((28 + t : Nat) : Int) = (part body 28 t).map toB := by
          unfold cut part
          rw [Int.toNat_natCast, show (28 : Int).toNat = 28 from rfl, ← List.map_take, ← List.map_drop, List.drop_take, Nat.add_sub_cancel_left]
        have c2 : (0 : Int) ≤ 28 ∧ (28 : Int) ≤ ((28 + t : Nat) : Int) ∧ ((28 + t : Nat) : Int) ≤ ((body.map toB).length : Int) := by rw [List.length_map]; omega
        have c3 : (4 : Int) ≤ ((body.map toB).length : Int) := by rw [List.length_map]; omega
        have hqn : (queueOf body t).Name.length = t := by
          show ((part body 28 t).map toB).length = t
          rw [List.length_map, part_len (by omega)]
        rw [← hbody]
        simp only [h4, h5', decide_true, decide_false, Bool.not_true, Bool.false_eq_true, if_false] at hloop ⊢
        simp only [ht, w1, Option.bind_some] at hloop ⊢
        rw [if_pos c3, hr0, Option.bind_some, if_pos c2, en, hloop, Option.bind_some, rqueueRight_eq (by omega)]
        rw [Int.toNat_natCast]
        by_cases hr : QueueOk (queueOf body t)
        · have h24 := hr.len (by omega)
          have hgi : GetQ b ↔ ∀ y ∈ body.drop (28 + t), y = 0 := by
            unfold GetQ
            rw [ht, ← hbody, Int.toNat_natCast]
            exact ⟨fun x => x.2.2.2.2, fun x => ⟨hi, h4, by omega, hr, x⟩⟩
          have hq := hq0 (k := 5) (tg := (t : Int)) (bd := queueE (queueOf body t)) (by omega) (by omega) (queueE_bytes _) (by rw [queueE_len]; omega)
          have hfl := full_iff (body := queueE (queueOf body t)) (full := body) (by rw [queueE_len]; omega) h8
          rw [← hbody] at hq
          rw [queueE_len, hqn, queueE_of hbd (show 28 + t ≤ body.length by omega)] at hfl
          rw [queueE_len, hqn, queueE_of hbd (show 28 + t ≤ body.length by omega)] at hq
          rw [decide_eq_true hr, rqueuePut_eq (by omega), hqn, queueE_of hbd (show 28 + t ≤ body.length by omega)]
          by_cases hz : ∀ y ∈ body.drop (28 + t), y = 0
          · rw [if_pos (hgi.2 hz)]
            simp only [Option.bind_some]
            rw [decide_eq_true (hq.2 ⟨h4.symm, ht.symm, hfl.2 ⟨rfl, hz⟩⟩)]
            rfl
          · rw [if_neg (fun x => hz (hgi.1 x))]
            simp only [Option.bind_some]
            rw [decide_eq_false (fun x => hz (hfl.1 (hq.1 x).2.2).2)]
            rfl
        · have hg : ¬ GetQ b := fun x => by
            have := x.2.2.2.1
            rw [ht, ← hbody, Int.toNat_natCast] at this
            exact hr this
          rw [decide_eq_false hr, if_neg hg]
          rfl
      · have h5' : ix b 5 > 28 := by omega
        have hg : ¬ GetQ b := fun x => by have := x.2.2.1; omega
        rw [if_neg hg, decide_eq_true h4, decide_eq_true h5']
        rfl
    · have hg : ¬ GetQ b := fun x => h4 x.2.1
      rw [if_neg hg, decide_eq_false h4]
      rfl
  · have hg : ¬ GetQ b := fun x => hi x.1
    rw [if_neg hi, if_neg hg]
    rfl
theorem queueGet_put {q : S_api_Queue} (hs : q.Name.length ≤ 300) (h : QueueOk q) : label_GetQueue.f 400 (sealed (summed 5 (q.Name.length : Int) (queueE q))) = some (q, true) ∧ (sealed (summed 5 (q.Name.length : Int) (queueE q))).length = 64 := by
  have hl := h.len hs
  have hel := queueE_len q
  obtain ⟨p4, p5, p8⟩ := sealed_parts 5 (q.Name.length : Int) (queueE q)
  have hsl := sealed_len (summed_len (k := 5) (t := (q.Name.length : Int)) (body := queueE q) (by omega))
  have hno := queueOf_E hs h (List.replicate (56 - (queueE q).length) 0)
  have hg : GetQ (sealed (summed 5 (q.Name.length : Int) (queueE q))) := by
    refine ⟨is_sealed (by decide) (by omega), p4, by rw [p5]; omega, ?_, ?_⟩
    · rw [p8, p5, Int.toNat_natCast, hno]
      exact h
    · rw [p8, p5, Int.toNat_natCast, ← hel, List.drop_left' rfl]
      intro y hy
      exact List.eq_of_mem_replicate hy
  rw [queueGet_eq (sealed_bytes (summed_bytes (by omega) (by omega) (queueE_bytes q))) (by omega), if_pos hg, p8, p5, Int.toNat_natCast, hno]
  exact ⟨rfl, hsl⟩
end Go.Proofs.Ytjhajfkfhdnciaa.Pure

/- The labels as the laws of layer 11 ask of them. -/
set_option linter.unusedVariables false
set_option linter.unusedSimpArgs false
namespace Go.Proofs.Ytjhajfkfhdnciaa.Pure
open Go Go.Xw
def rt11 : Arr 12 Int := Arr.set (Arr.set (Arr.rep 12 (0 : Int)) 0 7) 2 9
theorem rs_a : ∀ k, rs (k + 2) [97] = [97] := by
  intro k
  have e : first [97] = (97, 1) := by decide
  unfold rs
  rw [if_neg (by decide), e]
  unfold rs
  rw [if_pos (by decide)]
  rfl
theorem name11 : NameOk [97] := by
  unfold NameOk
  rw [rs_a 397]
  refine ⟨by decide, ?_⟩
  intro r hr
  obtain rfl := List.mem_singleton.1 hr
  unfold runeOk
  omega
theorem ex11 : QueueOk ⟨[97], 5, rt11⟩ := ⟨name11, ⟨by decide, by decide⟩, by decide⟩
theorem dr11 : DirOk [5] := by decide
theorem awake11 : rickyardlaw11_awake.f 400 = some true := by
  unfold rickyardlaw11_awake.f
  have h1 := queuePut_eq (q := ⟨[97], 5, rt11⟩) (by decide)
  obtain ⟨h2, l1⟩ := queueGet_put (q := ⟨[97], 5, rt11⟩) (by decide) ex11
  rw [if_pos ex11] at h1
  have h3 := dirPut_eq (fu := 400) (l := [5]) (by decide)
  obtain ⟨h4, l2⟩ := dirGet_put (fu := 400) dr11 (by decide)
  rw [if_pos dr11] at h3
  have h5 := trees_eq (fu := 400) (a := rt11) (by decide)
  have h6 : (rt11.l.filter nz).length = 2 := by decide
  have er : Arr.set (Arr.set (Arr.rep 12 (0 : Int)) 0 7) 2 9 = rt11 := rfl
  rw [er, h1]
  simp only [Option.bind_some, h2, h3, l1, l2, h5, h6]
  simp
end Go.Proofs.Ytjhajfkfhdnciaa.Pure

/- The pure statement of LabelReads. -/
set_option linter.unusedVariables false
set_option linter.unusedSimpArgs false
namespace Go.Proofs.Ytjhajfkfhdnciaa.Pure
open Go Go.Xw
theorem LabelReads : ∀ (a0 : List Int), ((∀ x ∈ a0, (Lit.int .u8 x).wf = true) ∧ List.length a0 ≤ maxLen) → ∃ fu, rickyardlaw11_LabelReads.f fu a0 = some true := by
  intro b hbody
  refine ⟨400, ?_⟩
  have hb := bytes_of hbody.1
  unfold rickyardlaw11_LabelReads.f
  rw [awake11]
  by_cases h2 : (b.length : Int) > 200
  · simp [h2]
  · rw [queueGet_eq hb (by omega), rqueueGet_eq hb, dirGet_eq hb (by omega) (by decide), rdirGet_eq hb (by decide)]
    by_cases hD : GetD b
    · have h5 := hD.2.2.1
      have hn : (dirOf (b.drop 8) (ix b 5).toNat).length ≤ 16 := by rw [dirOf_len]; omega
      have hi := ints2_eq (fu := 400) (a := dirOf (b.drop 8) (ix b 5).toNat) (b := dirOf (b.drop 8) (ix b 5).toNat) (by omega) (by omega)
      by_cases hQ : GetQ b <;> simp only [Option.bind_some, h2, decide_false, Bool.not_true, Bool.false_eq_true, if_false, hD, hQ, if_true, decide_true, hi]
    · have hi := ints2_eq (fu := 400) (a := []) (b := []) (by decide) (by decide)
      by_cases hQ : GetQ b <;> simp only [Option.bind_some, h2, decide_false, Bool.not_true, Bool.false_eq_true, if_false, hD, hQ, if_true, decide_true, hi]
end Go.Proofs.Ytjhajfkfhdnciaa.Pure

/- The law LabelReads holds for every input: the row, out of the walk of the law's function and of its pure statement. Written by rows.py. -/
namespace Go.Proofs.Ytjhajfkfhdnciaa.labelReads
open Go.ChangeShapes Go.WideShapes Go.ChangeAt Go.RowKit
open Go.ChangeMaps (open_string shut_string)
open Go Go.Xw
set_option linter.unusedVariables false
theorem own : ownKnob Try.prog.godebug = none := Facts.own
theorem laidOut : laidOutB Try.prog = true := Facts.laid
theorem closed : joinedFacts Try.pinned.checked.prog 22 Try.f22 Rows.labelReadsSpec Rows.labelReadsRow = true := by
  unfold joinedFacts
  rw [Facts.enter, Facts.lifts, Facts.make, Facts.laid, Facts.rowed, Facts.plain, Facts.heard]
  kernel_rfl
theorem enc_seg {α : Type} (K : Kd α) (a : α) : K.enc a = cellsOf [Kd.seg K a] := by simp [cellsOf, Kd.seg]
def start : Input := ⟨#[], #[.slice none 0 0], []⟩
set_option maxRecDepth 100000 in
set_option maxHeartbeats 1000000 in
theorem lifted (os : Os) (started : os.Started) (H : Type) (enc : TypeId × Value → H) :
    ReturnsInHanded {} Try.checked os 22 .any (Rows.labelReadsSpec.pre6 enc Try.prog Try.f22 Rows.labelReadsRow.domain false) (Rows.labelReadsSpec.post enc Try.prog Try.f22 false true false false) := by
  refine returnsInHanded_of_change_sized (C := Try.checked) own started (by kernel_rfl) Try.func22
    (ChangeSpec.witness6 (enc := enc) (C := Try.checked) false start 8 (by kernel_rfl) (by kernel_rfl) (by kernel_rfl) (by kernel_rfl)) ?_
  intro W base args ds gs before hval0 hW hcnd hsz0 _
  have hval : ∀ (j : Nat) t v, Try.f22.params[j]? = some t → args[j]? = some v → Value.okWide Try.prog W .any base t v := hval0
  have hW' := hW
  obtain ⟨p, q, hA0, hV, rfl, hfz, hnd⟩ := hW
  have hA : DataW.TrodAll enc Try.prog W 0 (fun _ => true) true Try.f22.params.toList args.toList ds p := hA0
  rw [Try.params22] at hA hval
  obtain ⟨v0, vs0, d0, ds0, p0, q0, hargs, rfl, rfl, h0, r0⟩ := trodAll_cons hA
  obtain ⟨rfl, rfl, rfl⟩ := trodAll_nil r0
  obtain rfl : args = #[v0] := by cases args; simp_all
  obtain ⟨rfl, rfl⟩ := trodVars_none hV
  have k0 := h0
  have lt0 : ∀ x ∈ p0, x.block < W.heap.size := by obtain ⟨m, hm⟩ := k0; exact DataW.trod_lt m _ _ _ hm
  obtain ⟨fu0, hf0⟩ := h0
  obtain ⟨aa0, len0, cap0, rfl⟩ := okWide_slice Try.underlying22 (hval 0 22 v0 rfl rfl)
  obtain ⟨a0, V0_0, e0, R0_0, o0, l0, _⟩ := (opn_slice (K := (kI .u8)) Try.underlying22 (by kernel_rfl) (by decide) (opn_int Try.underlying5)) enc _ _ _ _ _ _ hf0
  obtain rfl : Value.slice aa0 len0 cap0 = V0_0 := by simpa [Value.cells] using e0
  obtain ⟨fu, hfu⟩ := Pure.LabelReads a0 ⟨o0, l0⟩
  refine Calls.mono (rickyardlaw11_LabelReads.ok fu W a0 _ R0_0 true hfu) fun e W' hr => ?_
  obtain ⟨v, rfl, rfl, gr⟩ := hr
  have bel := Fr.below gr
  exact ⟨_, rfl, _, _, _, [], _, [], hW', trodAll_mk1 (shut_bool Try.underlying4 _), (trodAll_cons_mk (Below.trod laidOut (by kernel_rfl) (of_decide_eq_true (by kernel_rfl)) k0 bel lt0) trodAll_mk0), rfl, bel.frame _, fun h => by cases h⟩
theorem over : Rows.labelReadsRow.holds Try.pinned (OpenSpec.ofChange Rows.labelReadsSpec) :=
  OpenClaim.holds_of_wide 22 Try.f22 rfl rfl rfl rfl rfl rfl rfl ⟨rfl, rfl, rfl, rfl, rfl⟩ rfl rfl rfl rfl rfl (by kernel_rfl) Try.func22 closed
    (of_decide_eq_true (by kernel_rfl)) (by unfold Func.isWrapper; first | (rw [if_pos (by decide +kernel)]; kernel_rfl) | (rw [if_neg (by decide +kernel)]; exact ⟨rfl, rfl⟩))
    (fun os started H enc _ => lifted os started H enc)
theorem proved : Rows.LabelReadsSaid := over
end Go.Proofs.Ytjhajfkfhdnciaa.labelReads
namespace Go.Proofs.Ytjhajfkfhdnciaa
/-- The law holds. -/
theorem labelReads_holds : Rows.LabelReadsSaid := labelReads.proved
#print axioms labelReads_holds
end Go.Proofs.Ytjhajfkfhdnciaa
