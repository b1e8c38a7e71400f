/- The functions on charts in plain words: which blocks a chart marks, as the program and the document tell it. -/
import Derived.Test.YtjhajfkfhdnciaaXPure
import Derived.Test.YtjhajfkfhdnciaaOpen
import Derived.Test.YtjhajfkfhdnciaaFrickyardlaw10ChartTells
set_option linter.unusedVariables false
set_option linter.unusedSimpArgs false
namespace Go.Proofs.Ytjhajfkfhdnciaa.Pure
open Go Go.Xw
def RightC (c : S_api_Chart) : Prop := 0 ≤ c.Place ∧ c.Place < 8
instance (c : S_api_Chart) : Decidable (RightC c) := inferInstanceAs (Decidable (_ ∧ _))
def bitc (c : S_api_Chart) (m : Nat) : Bool := decide (Arr.get c.Bits ((m / 8 : Nat) : Int) / 2 ^ (m % 8) % 2 = 1)
theorem bits_ok {c : S_api_Chart} (h : ok_api_Chart c) (i : Nat) (hi : i < 48) : 0 ≤ Arr.get c.Bits (i : Int) ∧ Arr.get c.Bits (i : Int) ≤ 255 := by
  have hl : i < c.Bits.l.length := by rw [c.Bits.h]; exact hi
  have e : Arr.get c.Bits (i : Int) = c.Bits.l[i] := by
    simp [Arr.get, ix, List.getD_eq_getElem?_getD, List.getElem?_eq_getElem hl]
  rw [e]
  exact wf8.1 (h.2 _ (List.getElem_mem hl))
theorem mask_bit : ∀ (x : Fin 256) (j : Fin 8), (!decide (bAnd .u8 ((x : Nat) : Int) (shL .u8 1 ((j : Nat) : Int)) = 0)) = decide (((x : Nat) : Int) / 2 ^ (j : Nat) % 2 = 1) := by decide +kernel
theorem mask_bit' {x : Int} (h0 : 0 ≤ x) (h1 : x ≤ 255) {j : Int} (j0 : 0 ≤ j) (j1 : j < 8) : (!decide (bAnd .u8 x (shL .u8 1 j) = 0)) = decide (x / 2 ^ j.toNat % 2 = 1) := by
  have := mask_bit ⟨x.toNat, by omega⟩ ⟨j.toNat, by omega⟩
  simp only [Int.toNat_of_nonneg h0, Int.toNat_of_nonneg j0] at this
  exact this
theorem right_eq (fu : Nat) (c : S_api_Chart) : chart_right.f fu c = some (decide (RightC c)) := by
  unfold chart_right.f RightC
  by_cases h : 0 ≤ c.Place <;> simp [h]
theorem rright_eq (fu : Nat) (c : S_api_Chart) : rickyardref10_Right.f fu c = some (decide (RightC c)) := by
  unfold rickyardref10_Right.f RightC
  by_cases h : 0 ≤ c.Place
  · simp [h]
    omega
  · simp [h]
theorem bit_no {fu : Nat} {c : S_api_Chart} {a : Int} (h : ¬ (RightC c ∧ 0 ≤ a ∧ a / 384 = c.Place)) (hb : -9223372036854775808 ≤ a ∧ a ≤ 9223372036854775807 ∨ ¬ RightC c) : chart_bit.f fu c a = some (0, 0, false) := by
  unfold chart_bit.f
  rw [right_eq]
  by_cases hr : RightC c
  · rcases hb with hb | hb
    · by_cases h0 : a < 0
      · simp [hr, h0]
      · have e1 : Int.tdiv a 384 = a / 384 := Int.tdiv_eq_ediv_of_nonneg (by omega)
        have e2 : IntKind.i64.wrap (a / 384) = a / 384 := w64 (by omega) (by omega)
        have e3 : ¬ (a / 384 = c.Place) := fun e => h ⟨hr, by omega, e⟩
        simp [hr, h0, e1, e2, e3]
    · exact absurd hr hb
  · simp [hr]
theorem bit_yes {fu : Nat} {c : S_api_Chart} {a : Int} (hr : RightC c) (h0 : 0 ≤ a) (he : a / 384 = c.Place) : chart_bit.f fu c a = some (a % 384 / 8, shL .u8 1 (a % 384 % 8), true) := by
  unfold chart_bit.f
  rw [right_eq]
  have hr' := hr
  unfold RightC at hr'
  have e1 : Int.tdiv a 384 = a / 384 := Int.tdiv_eq_ediv_of_nonneg (by omega)
  have e2 : IntKind.i64.wrap (a / 384) = a / 384 := w64 (by omega) (by omega)
  have e3 : Int.tmod a 384 = a % 384 := Int.tmod_eq_emod_of_nonneg (by omega)
  have e4 : Int.tmod (a % 384) 8 = a % 384 % 8 := Int.tmod_eq_emod_of_nonneg (by omega)
  have e5 : Int.tdiv (a % 384) 8 = a % 384 / 8 := Int.tdiv_eq_ediv_of_nonneg (by omega)
  have e6 : IntKind.i64.wrap (a % 384 / 8) = a % 384 / 8 := w64 (by omega) (by omega)
  have h1 : ¬ (a < 0) := by omega
  have h2 : 0 ≤ a % 384 % 8 := by omega
  have e7 : IntKind.i64.wrap c.Place = c.Place := w64 (by omega) (by omega)
  simp only [hr, e1, e2, e3, e4, e5, e6, h1, h2, he, e7]
  simp
theorem has_no {fu : Nat} {c : S_api_Chart} {a : Int} (h : ¬ (RightC c ∧ 0 ≤ a ∧ a / 384 = c.Place)) (hb : -9223372036854775808 ≤ a ∧ a ≤ 9223372036854775807 ∨ ¬ RightC c) : chart_Has.f fu c a = some false := by
  unfold chart_Has.f
  rw [bit_no h hb]
  rfl
theorem has_yes {fu : Nat} {c : S_api_Chart} {a : Int} (hc : ok_api_Chart c) (hr : RightC c) (h0 : 0 ≤ a) (he : a / 384 = c.Place) : chart_Has.f fu c a = some (bitc c (a % 384).toNat) := by
  unfold chart_Has.f
  rw [bit_yes hr h0 he]
  have hi : 0 ≤ a % 384 / 8 ∧ a % 384 / 8 < 48 := by omega
  obtain ⟨i, hi'⟩ : ∃ i : Nat, a % 384 / 8 = (i : Int) := ⟨(a % 384 / 8).toNat, by omega⟩
  have hb := bits_ok hc i (by omega)
  have hm := mask_bit' hb.1 hb.2 (j := a % 384 % 8) (by omega) (by omega)
  have e1 : (a % 384).toNat / 8 = i := by omega
  have e2 : (a % 384).toNat % 8 = (a % 384 % 8).toNat := by omega
  have hi2 : (i : Int) < 48 := by omega
  simp only [hi', Option.bind_some, if_true, bitc, e1, e2]
  rw [if_pos ⟨by omega, hi2⟩, hm]
  rfl
def acc (c : S_api_Chart) (m : Nat) : List Int := ((List.range m).filter (bitc c)).map fun k : Nat => 384 * c.Place + (k : Int)
theorem acc_succ (c : S_api_Chart) (m : Nat) : acc c (m + 1) = acc c m ++ (if bitc c m = true then [384 * c.Place + (m : Int)] else []) := by
  unfold acc
  rw [List.range_succ, List.filter_append, List.map_append]
  by_cases h : bitc c m <;> simp [h]
theorem acc_len (c : S_api_Chart) (m : Nat) : (acc c m).length ≤ m := by
  unfold acc
  rw [List.length_map]
  exact Nat.le_trans (List.length_filter_le _ _) (by simp)
theorem mem_acc {c : S_api_Chart} (hr : RightC c) {a : Int} : a ∈ acc c 384 ↔ (0 ≤ a ∧ a / 384 = c.Place) ∧ bitc c (a % 384).toNat = true := by
  unfold RightC at hr
  unfold acc
  simp only [List.mem_map, List.mem_filter, List.mem_range]
  constructor
  · rintro ⟨k, ⟨hk, hb⟩, rfl⟩
    refine ⟨by omega, ?_⟩
    rwa [show ((384 * c.Place + (k : Int)) % 384).toNat = k from by omega]
  · rintro ⟨⟨h0, h1⟩, hb⟩
    exact ⟨(a % 384).toNat, ⟨by omega, hb⟩, by omega⟩
def listC (c : S_api_Chart) : List Int := if RightC c then acc c 384 else []
theorem lim_ok {n : Nat} (h : n ≤ 400) : n + 1 ≤ LIM := by
  have : (401 : Nat) ≤ LIM := by decide
  omega
theorem list_eq {fu : Nat} {c : S_api_Chart} (hc : ok_api_Chart c) (hf : 384 < fu) : chart_List.f fu c = some (listC c) := by
  unfold chart_List.f listC
  by_cases hr : RightC c
  · have hr' := hr
    unfold RightC at hr'
    have inner : loopM (chart_List.s0 fu c) fu ([], 0) = some (acc c 384) := by
     refine loopM_run (S := fun i => (acc c i, (i : Int))) 384 (by simp [acc]) ?_ ?_ hf
     · intro j hj
       unfold chart_List.s0
       have h1 : (j : Int) < 384 := by omega
       have w1 : IntKind.i64.wrap (c.Place * 384) = c.Place * 384 := w64 (by omega) (by omega)
       have w2 : IntKind.i64.wrap (c.Place * 384 + (j : Int)) = c.Place * 384 + (j : Int) := w64 (by omega) (by omega)
       have w3 : IntKind.i64.wrap ((j : Int) + 1) = ((j + 1 : Nat) : Int) := by rw [w64 (by omega) (by omega)]; omega
       have hh : chart_Has.f fu c (c.Place * 384 + (j : Int)) = some (bitc c j) := by
         rw [has_yes hc hr (by omega) (by omega)]
         rw [show ((c.Place * 384 + (j : Int)) % 384).toNat = j from by omega]
       have hlim : (acc c j).length + 1 ≤ LIM := lim_ok (by have := acc_len c j; omega)
       have hcm : c.Place * 384 = 384 * c.Place := Int.mul_comm _ _
       simp only [h1, w1, w2, w3, hh, acc_succ]
       cases hb : bitc c j
       · simp
       · simp only [hcm]
         simp [hlim]
     · unfold chart_List.s0
       simp
    simp [hr, inner]
  · have inner : loopM (chart_List.s0 fu c) fu ([], 0) = some ([] : List Int) := by
      refine loopM_run (S := fun i => (([] : List Int), (i : Int))) 384 rfl ?_ ?_ hf
      · intro j hj
        unfold chart_List.s0
        have h1 : (j : Int) < 384 := by omega
        have w3 : IntKind.i64.wrap ((j : Int) + 1) = ((j + 1 : Nat) : Int) := by rw [w64 (by omega) (by omega)]; omega
        simp [h1, w3, has_no (fu := fu) (fun h => hr h.1) (.inr hr)]
      · unfold chart_List.s0
        simp
    simp [hr, inner]
theorem rlist_eq {fu : Nat} {c : S_api_Chart} (hc : ok_api_Chart c) (hf : 384 < fu) : rickyardref10_List.f fu c = some (listC c) := by
  unfold rickyardref10_List.f listC
  by_cases hr : RightC c
  · have hr' := hr
    unfold RightC at hr'
    have inner0 : loopM (rickyardref10_List.s1 fu c) fu ([], 0) = some (acc c 384) := by
     refine loopM_run (S := fun i => (acc c (8 * i), (i : Int))) 48 (by simp [acc]) ?_ ?_ (by omega)
     · intro i hi
       unfold rickyardref10_List.s1
       have h1 : (i : Int) < 48 := by omega
       have w3 : IntKind.i64.wrap ((i : Int) + 1) = ((i + 1 : Nat) : Int) := by rw [w64 (by omega) (by omega)]; omega
       have hb := bits_ok hc i hi
       have w4 : IntKind.i64.wrap (Arr.get c.Bits (i : Int)) = Arr.get c.Bits (i : Int) := w64 (by omega) (by omega)
       have inner : loopM (rickyardref10_List.s2 fu c (acc c (8 * i), (i : Int))) fu (acc c (8 * i), Arr.get c.Bits (i : Int), 0) = some (acc c (8 * i + 8)) := by
         refine loopM_run (S := fun k => (acc c (8 * i + k), Arr.get c.Bits (i : Int) / 2 ^ k, (k : Int))) 8 (by simp) ?_ ?_ (by omega)
         · intro k hk
           unfold rickyardref10_List.s2
           have h2 : (k : Int) < 8 := by omega
           have w5 : IntKind.i64.wrap ((k : Int) + 1) = ((k + 1 : Nat) : Int) := by rw [w64 (by omega) (by omega)]; omega
           have w6 : IntKind.i64.wrap (384 * c.Place) = 384 * c.Place := w64 (by omega) (by omega)
           have w7 : IntKind.i64.wrap (8 * (i : Int)) = 8 * (i : Int) := w64 (by omega) (by omega)
           have w8 : IntKind.i64.wrap (384 * c.Place + 8 * (i : Int)) = 384 * c.Place + 8 * (i : Int) := w64 (by omega) (by omega)
           have w9 : IntKind.i64.wrap (384 * c.Place + 8 * (i : Int) + (k : Int)) = 384 * c.Place + ((8 * i + k : Nat) : Int) := by rw [w64 (by omega) (by omega)]; omega
           have hx0 : 0 ≤ Arr.get c.Bits (i : Int) / 2 ^ k := Int.ediv_nonneg hb.1 (Int.le_of_lt (Int.pow_pos (by decide)))
           have hx1 : Arr.get c.Bits (i : Int) / 2 ^ k ≤ 255 := Int.le_trans (Int.ediv_le_self _ hb.1) hb.2
           have e1 : Int.tmod (Arr.get c.Bits (i : Int) / 2 ^ k) 2 = Arr.get c.Bits (i : Int) / 2 ^ k % 2 := Int.tmod_eq_emod_of_nonneg hx0
           have e2 : Int.tdiv (Arr.get c.Bits (i : Int) / 2 ^ k) 2 = Arr.get c.Bits (i : Int) / 2 ^ (k + 1) := by
             rw [Int.tdiv_eq_ediv_of_nonneg hx0, Int.pow_succ, Int.ediv_ediv_of_nonneg (Int.le_of_lt (Int.pow_pos (by decide)))]
           have hx2 : 0 ≤ Arr.get c.Bits (i : Int) / 2 ^ (k + 1) := Int.ediv_nonneg hb.1 (Int.le_of_lt (Int.pow_pos (by decide)))
           have hx3 : Arr.get c.Bits (i : Int) / 2 ^ (k + 1) ≤ 255 := Int.le_trans (Int.ediv_le_self _ hb.1) hb.2
           have e3 : IntKind.i64.wrap (Arr.get c.Bits (i : Int) / 2 ^ (k + 1)) = Arr.get c.Bits (i : Int) / 2 ^ (k + 1) := w64 (by omega) (by omega)
           have eb : bitc c (8 * i + k) = decide (Arr.get c.Bits (i : Int) / 2 ^ k % 2 = 1) := by
             unfold bitc
             rw [show (8 * i + k) / 8 = i from by omega, show (8 * i + k) % 8 = k from by omega]
           have hlim : (acc c (8 * i + k)).length + 1 ≤ LIM := lim_ok (by have := acc_len c (8 * i + k); omega)
           simp only [h2, w5, w6, w7, w8, w9, e1, e2, e3, show 8 * i + (k + 1) = 8 * i + k + 1 from by omega, acc_succ, eb]
           by_cases hbit : Arr.get c.Bits (i : Int) / 2 ^ k % 2 = 1
           · simp [hbit, hlim]
           · simp [hbit]
         · unfold rickyardref10_List.s2
           simp
       simp only [h1, rright_eq, hr, w3, w4, inner]
       simp [h1, Nat.mul_add]
     · unfold rickyardref10_List.s1
       simp
    simp [hr, inner0]
  · have inner : loopM (rickyardref10_List.s1 fu c) fu ([], 0) = some ([] : List Int) := by
      refine loopM_run (S := fun i => (([] : List Int), (i : Int))) 0 rfl (by intro j hj; omega) ?_ (by omega)
      unfold rickyardref10_List.s1
      simp [rright_eq, hr]
    simp [hr, inner]
theorem ones_tab : ∀ x : Fin 256, bits_OnesCount8.f 0 ((x : Nat) : Int) = some (((List.range 8).filter fun j => decide (((x : Nat) : Int) / 2 ^ j % 2 = 1)).length : Int) := by decide +kernel
theorem ones_eq (fu : Nat) {x : Int} (h0 : 0 ≤ x) (h1 : x ≤ 255) : bits_OnesCount8.f fu x = some (((List.range 8).filter fun j => decide (x / 2 ^ j % 2 = 1)).length : Int) := by
  have := ones_tab ⟨x.toNat, by omega⟩
  simp only [Int.toNat_of_nonneg h0] at this
  exact this
theorem acc_eight (c : S_api_Chart) (i : Nat) : (acc c (8 * i + 8)).length = (acc c (8 * i)).length + ((List.range 8).filter fun j => decide (Arr.get c.Bits (i : Int) / 2 ^ j % 2 = 1)).length := by
  unfold acc
  rw [List.range_add, List.filter_append, List.map_append, List.length_append, List.length_map, List.length_map, List.filter_map, List.length_map]
  congr 2
  apply List.filter_congr
  intro j hj
  have hj8 := List.mem_range.1 hj
  simp only [Function.comp, bitc]
  rw [show (8 * i + j) / 8 = i from by omega, show (8 * i + j) % 8 = j from by omega]
theorem count_eq {fu : Nat} {c : S_api_Chart} (hc : ok_api_Chart c) (hf : 384 < fu) : chart_Count.f fu c = some ((listC c).length : Int) := by
  unfold chart_Count.f listC
  rw [right_eq]
  by_cases hr : RightC c
  · have inner : loopM (chart_Count.s1 fu c) fu (0, 0) = some ((acc c 384).length : Int) := by
      refine loopM_run (S := fun i => (((acc c (8 * i)).length : Int), (i : Int))) 48 (by simp [acc]) ?_ ?_ (by omega)
      · intro i hi
        unfold chart_Count.s1
        have h1 : (i : Int) < 48 := by omega
        have hb := bits_ok hc i hi
        have w3 : IntKind.i64.wrap ((i : Int) + 1) = ((i + 1 : Nat) : Int) := by rw [w64 (by omega) (by omega)]; omega
        have hl := acc_len c (8 * i)
        have hl8 := acc_eight c i
        have hl9 := acc_len c (8 * i + 8)
        have w4 : IntKind.i64.wrap (((acc c (8 * i)).length : Int) + (((List.range 8).filter fun j => decide (Arr.get c.Bits (i : Int) / 2 ^ j % 2 = 1)).length : Int)) = ((acc c (8 * i + 8)).length : Int) := by
          rw [w64 (by omega) (by omega)]
          omega
        simp only [h1, ones_eq fu hb.1 hb.2, w3]
        simp [w4, Nat.mul_add]
      · unfold chart_Count.s1
        simp
    simp only [hr, inner]
    simp
  · simp [hr]
theorem rhas_from {fu : Nat} (l : List Int) (n : Int) (hl : l.length ≤ 9000000000000000000) : ∀ k m, m ≤ l.length → l.length - m < k → loopM (rickyardref10_Has.s0 fu l n) k (m : Int) = some (if n ∈ l.drop m then .inl true else .inr ())
  | 0, m, _, hk => by omega
  | k + 1, m, hm, hk => by
    unfold loopM
    by_cases e : m = l.length
    · subst e
      have : rickyardref10_Has.s0 fu l n (l.length : Int) = some (.inl (.inr ())) := by
        unfold rickyardref10_Has.s0
        simp
      rw [this]
      simp
    · have hlt : m < l.length := by omega
      have hx : ix l (m : Int) = l[m] := by simp [ix, List.getD_eq_getElem?_getD, List.getElem?_eq_getElem hlt]
      rw [List.drop_eq_getElem_cons hlt]
      have h1 : (m : Int) < (l.length : Int) := by omega
      by_cases hn : l[m] = n
      · have : rickyardref10_Has.s0 fu l n (m : Int) = some (.inl (.inl true)) := by
          unfold rickyardref10_Has.s0
          simp [h1, hx, hn, hlt]
        rw [this]
        simp [hn]
      · have w3 : IntKind.i64.wrap ((m : Int) + 1) = ((m + 1 : Nat) : Int) := by rw [w64 (by omega) (by omega)]; omega
        have : rickyardref10_Has.s0 fu l n (m : Int) = some (.inr ((m + 1 : Nat) : Int)) := by
          unfold rickyardref10_Has.s0
          simp [h1, hx, hn, w3, hlt]
        rw [this]
        simp only
        rw [rhas_from l n hl k (m + 1) (by omega) (by omega)]
        have e3 : (n ∈ l[m] :: l.drop (m + 1)) ↔ n ∈ l.drop (m + 1) := by
          rw [List.mem_cons]
          exact ⟨fun h => h.resolve_left (Ne.symm hn), .inr⟩
        simp only [e3]
theorem rhas_eq {fu : Nat} {l : List Int} {n : Int} (hl : l.length ≤ 9000000000000000000) (hf : l.length < fu) : rickyardref10_Has.f fu l n = some (decide (n ∈ l)) := by
  unfold rickyardref10_Has.f
  have := rhas_from (fu := fu) l n hl fu 0 (by omega) (by omega)
  rw [Int.natCast_zero] at this
  rw [this]
  by_cases h : n ∈ l <;> simp [h]
theorem ints_eq {fu : Nat} {l : List Int} (hl : l.length ≤ 9000000000000000000) (hf : l.length < fu) : rickyardref01_Ints.f fu l l = some true := by
  unfold rickyardref01_Ints.f
  have : loopM (rickyardref01_Ints.s0 fu l l) fu 0 = some (.inr ()) := by
    refine loopM_run (S := fun j => (j : Int)) l.length rfl ?_ ?_ hf
    · intro j hj
      unfold rickyardref01_Ints.s0
      have w3 : IntKind.i64.wrap ((j : Int) + 1) = ((j + 1 : Nat) : Int) := by rw [w64 (by omega) (by omega)]; omega
      simp [hj, w3]
    · unfold rickyardref01_Ints.s0
      simp
  simp [this]
theorem rest_eq {fu : Nat} {a : Int} : rickyardref01_Rest.f fu a 384 = some (a % 384) := by
  unfold rickyardref01_Rest.f
  have e : Int.tmod a 384 = a % 384 ∨ Int.tmod a 384 = a % 384 - 384 ∧ a % 384 ≠ 0 := by
    rw [Int.tmod_eq_emod]
    split
    · left
      simp
    · right
      rename_i hd
      exact ⟨rfl, by omega⟩
  have w1 : IntKind.i64.wrap (Int.tmod a 384 + 384) = Int.tmod a 384 + 384 := w64 (by omega) (by omega)
  have e2 : Int.tmod (Int.tmod a 384 + 384) 384 = a % 384 := by
    rw [Int.tmod_eq_emod_of_nonneg (by omega)]
    omega
  simp [w1, e2]
theorem has_eq {fu : Nat} {c : S_api_Chart} {a : Int} (hc : ok_api_Chart c) (ha : -9223372036854775808 ≤ a ∧ a ≤ 9223372036854775807) : chart_Has.f fu c a = some (decide (a ∈ listC c)) := by
  by_cases h : RightC c ∧ 0 ≤ a ∧ a / 384 = c.Place
  · rw [has_yes hc h.1 h.2.1 h.2.2]
    unfold listC
    rw [if_pos h.1]
    have := mem_acc (a := a) h.1
    simp only [h.2.1, h.2.2, and_self, true_and] at this
    simp only [this, Bool.decide_eq_true]
  · rw [has_no h (.inl ha)]
    unfold listC
    by_cases hr : RightC c
    · rw [if_pos hr]
      have : a ∉ acc c 384 := fun hm => h ⟨hr, ((mem_acc hr).1 hm).1⟩
      simp [this]
    · simp [hr]
theorem awake10 : rickyardlaw10_awake.f 400 = some true := by decide +kernel
theorem len_listC (c : S_api_Chart) : (listC c).length ≤ 384 := by
  unfold listC
  split
  · exact acc_len c 384
  · simp
end Go.Proofs.Ytjhajfkfhdnciaa.Pure
