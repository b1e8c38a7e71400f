/- FateValues: texts merged, part 8 of 8. The last part proves that the law FateValues holds for every input. -/
import Derived.Test.YtklhbaghbmndeaaPkFateValues7
/- What may last of a word, and how many images there may be. -/
set_option linter.unusedVariables false
set_option linter.unusedSimpArgs false
namespace Go.Proofs.Ytklhbaghbmndeaa.Pure
open Go Go.Xw
theorem awake06 : rickyardlaw06_awake.f FU = some true := by decide +kernel
theorem contains1_eq {fu : Nat} {l : List Int} {x : Int} (hl : l.length ≤ 100000) (hf : l.length < fu) : slices_Contains_1.f fu l x = some (decide (x ∈ l)) := by
  unfold slices_Contains_1.f slices_Index_1.f
  have hs : ∀ j : Nat, j < l.length → slices_Index_1.s0 fu l x (j : Int) = some (if x = ix l (j : Int) then .inl (.inl (j : Int)) else .inr ((j + 1 : Nat) : Int)) := by
    intro j hj
    unfold slices_Index_1.s0
    rw [decide_eq_true (show (j : Int) < (l.length : Int) by omega), if_pos rfl, if_pos (by omega), next64 hj hl]
    by_cases e : x = ix l (j : Int)
    · rw [decide_eq_true e, if_pos rfl, if_pos e]
    · rw [decide_eq_false e, if_neg (by decide), if_neg e]
  have : ∃ e, loopM (slices_Index_1.s0 fu l x) fu 0 = some e ∧ ((∃ k : Int, 0 ≤ k ∧ e = .inl k ∧ x ∈ l) ∨ e = .inr () ∧ x ∉ l) := by
    have step : ∀ k m, m ≤ l.length → l.length - m < k → (∀ i, i < m → x ≠ ix l (i : Int)) → ∃ e, loopM (slices_Index_1.s0 fu l x) k ((m : Nat) : Int) = some e ∧ ((∃ k : Int, 0 ≤ k ∧ e = .inl k ∧ x ∈ l) ∨ e = .inr () ∧ x ∉ l) := by
      intro k
      induction k with
      | zero => intro m _ h; omega
      | succ k ih =>
        intro m hm hk hno
        unfold loopM
        by_cases e1 : m = l.length
        · subst e1
          unfold slices_Index_1.s0
          rw [decide_eq_false (show ¬ ((l.length : Int) < (l.length : Int)) by omega), if_neg (by decide)]
          refine ⟨_, rfl, .inr ⟨rfl, fun hx => ?_⟩⟩
          obtain ⟨i, hi, rfl⟩ := List.getElem_of_mem hx
          exact hno i hi (ix_nat hi).symm
        · rw [hs m (by omega)]
          by_cases e : x = ix l (m : Int)
          · rw [if_pos e]
            refine ⟨_, rfl, .inl ⟨(m : Int), by omega, rfl, ?_⟩⟩
            rw [e, ix_nat (by omega)]
            exact List.getElem_mem _
          · rw [if_neg e]
            refine ih (m + 1) (by omega) (by omega) fun i hi => ?_
            by_cases h : i = m
            · rw [h]; exact e
            · exact hno i (by omega)
    exact step fu 0 (by omega) (by omega) fun i hi => by omega
  obtain ⟨e, h1, h2⟩ := this
  rw [h1]
  rcases h2 with ⟨k, hk, rfl, hx⟩ | ⟨rfl, hx⟩
  · rw [decide_eq_true hx]
    simp only [Option.bind_some]
    rw [decide_eq_true (show k ≥ 0 from hk)]
  · rw [decide_eq_false hx]
    rfl
def vals1 (f : S_api_Fate) : List Int := if f.Flushed = true ∧ f.Sent ≠ f.Lasts then [f.Lasts, f.Sent] else [f.Lasts]
/-- What may last of a word. -/
def vals (f : S_api_Fate) : List Int := if f.Stored ∈ vals1 f then vals1 f else vals1 f ++ [f.Stored]
theorem vals1_len (f : S_api_Fate) : 1 ≤ (vals1 f).length ∧ (vals1 f).length ≤ 2 := by
  unfold vals1
  split <;> simp
theorem vals_len (f : S_api_Fate) : 1 ≤ (vals f).length ∧ (vals f).length ≤ 3 := by
  have := vals1_len f
  unfold vals
  split
  · omega
  · rw [List.length_append]
    simp only [List.length_cons, List.length_nil]
    omega
theorem lim3 {n : Nat} (h : n ≤ 100) : n ≤ LIM := Nat.le_trans h (by decide)
theorem values_eq {fu : Nat} {f : S_api_Fate} (hf : 3 < fu) : fate_Values.f fu f = some (vals f) := by
  unfold fate_Values.f
  have h1 : ((if (if f.Flushed = true then (!decide (f.Sent = f.Lasts)) else false) = true then (if List.length [f.Lasts] + List.length [f.Sent] ≤ LIM then some (([f.Lasts] ++ [f.Sent])) else none) else some ([f.Lasts])) : Option (List Int)) = some (vals1 f) := by
    unfold vals1
    by_cases e : f.Flushed = true ∧ f.Sent ≠ f.Lasts
    · rw [if_pos e, e.1, if_pos rfl, decide_eq_false e.2, if_pos (by decide), if_pos (lim3 (by simp))]
      rfl
    · rw [if_neg e]
      have : ¬ (if f.Flushed = true then (!decide (f.Sent = f.Lasts)) else false) = true := by
        intro q
        by_cases h : f.Flushed = true
        · rw [if_pos h] at q
          exact e ⟨h, by simpa using q⟩
        · rw [if_neg h] at q
          cases q
      rw [if_neg this]
  have hl := vals1_len f
  rw [h1]
  simp only [Option.bind_some]
  rw [contains1_eq (by omega) (by omega)]
  simp only [Option.bind_some]
  unfold vals
  by_cases e : f.Stored ∈ vals1 f
  · rw [decide_eq_true e, if_pos e]
    rfl
  · rw [decide_eq_false e, if_neg e, if_pos (by decide), if_pos (lim3 (by simp only [List.length_cons, List.length_nil]; omega))]
    rfl
theorem rin_eq {fu : Nat} {l : List Int} {j v : Int} (hl : l.length ≤ 100) (hf : l.length < fu) : loopM (rickyardref06_Values.s2 fu (l, j) v) fu (false, 0) = some (decide (v ∈ l)) := by
  refine loopM_run (S := fun i => (decide (v ∈ l.take i), (i : Int))) l.length (by simp) ?_ ?_ hf
  · intro i hi
    unfold rickyardref06_Values.s2
    simp only []
    rw [decide_eq_true (show (i : Int) < (l.length : Int) by omega), if_pos rfl, next64 hi (by omega), take_next hi]
    by_cases e : v ∈ l.take i
    · rw [decide_eq_true e, if_pos rfl, decide_eq_true (List.mem_append_left _ e)]
      rfl
    · rw [decide_eq_false e, if_neg (by decide), if_pos (by omega), ix_nat hi]
      have : (v ∈ l.take i ++ [l[i]]) ↔ l[i] = v := by
        rw [List.mem_append, List.mem_singleton]
        exact ⟨fun h => (h.resolve_left e).symm, fun h => .inr h.symm⟩
      simp only [Option.bind_some, this]
  · unfold rickyardref06_Values.s2
    simp only []
    rw [decide_eq_false (show ¬ ((l.length : Int) < (l.length : Int)) by omega), if_neg (by decide), List.take_length]
theorem rvalues_eq {fu : Nat} {f : S_api_Fate} (hf : 10 < fu) : rickyardref06_Values.f fu f = some (vals f) := by
  unfold rickyardref06_Values.f
  have hl := vals1_len f
  have hv : ∀ (i : Nat), i < 3 → rickyardref05_Value.f fu f (i : Int) = some (if i = 2 then f.Stored else if i = 1 ∧ f.Flushed = true then f.Sent else f.Lasts) := by
    intro i hi
    rw [value_eq (by unfold I64; omega)]
    have : i = 0 ∨ i = 1 ∨ i = 2 := by omega
    rcases this with rfl | rfl | rfl <;> simp
  have : loopM (rickyardref06_Values.s1 fu f) fu ([], 0) = some (vals f) := by
    refine loopM_run (S := fun i => (if i = 0 then [] else if i = 1 then [f.Lasts] else if i = 2 then vals1 f else vals f, (i : Int))) 3 rfl ?_ ?_ (by omega)
    · intro i hi
      have : i = 0 ∨ i = 1 ∨ i = 2 := by omega
      unfold rickyardref06_Values.s1
      simp only []
      rw [decide_eq_true (show (i : Int) < 3 by omega), if_pos rfl, hv i hi, next64 hi (by decide)]
      simp only [Option.bind_some]
      rcases this with rfl | rfl | rfl
      · rw [rin_eq (by simp) (by simp; omega)]
        simp [lim3]
      · rw [rin_eq (by simp) (by simp; omega)]
        simp only [if_false, if_true, show ¬ ((1 : Nat) = 0) from by decide, show ¬ ((1 : Nat) = 2) from by decide, true_and, Option.bind_some, List.mem_singleton]
        unfold vals1
        by_cases h : f.Flushed = true ∧ f.Sent ≠ f.Lasts
        · rw [if_pos h.1, decide_eq_false h.2, if_pos (by decide), if_pos (lim3 (by simp)), if_pos h]
          rfl
        · have : (if f.Flushed = true then f.Sent else f.Lasts) = f.Lasts := by
            by_cases q : f.Flushed = true
            · rw [if_pos q]
              exact Classical.byContradiction fun z => h ⟨q, z⟩
            · rw [if_neg q]
          rw [this, decide_eq_true rfl, if_neg (by decide), if_neg h]
          rfl
      · rw [rin_eq (by show (vals1 f).length ≤ 100; omega) (by show (vals1 f).length < fu; omega)]
        simp only [if_false, if_true, show ¬ ((2 : Nat) = 0) from by decide, show ¬ ((2 : Nat) = 1) from by decide, Option.bind_some]
        unfold vals
        by_cases e : f.Stored ∈ vals1 f
        · rw [decide_eq_true e, if_pos e]
          rfl
        · rw [decide_eq_false e, if_neg e, if_pos (by decide), if_pos (lim3 (by simp only [List.length_cons, List.length_nil]; omega))]
          rfl
    · unfold rickyardref06_Values.s1
      rw [decide_eq_false (show ¬ (((3 : Nat) : Int) < 3) by decide), if_neg (by decide)]
      rfl
  rw [this]
  rfl
def countU (fs : List S_api_Fate) : Nat → Int
  | 0 => 1
  | j + 1 => mnI (countU fs j * ((vals (ix fs (j : Int))).length : Int)) 1099511627776
theorem mnI_le (a b : Int) : mnI a b ≤ b ∧ (0 ≤ a → 0 ≤ b → 0 ≤ mnI a b) := by
  unfold mnI
  split
  · exact ⟨by omega, fun _ h => by omega⟩
  · exact ⟨by omega, fun h _ => by omega⟩
theorem countU_le (fs : List S_api_Fate) : ∀ j, 0 ≤ countU fs j ∧ countU fs j ≤ 1099511627776
  | 0 => ⟨by simp [countU], by simp [countU]⟩
  | j + 1 => by
    have h := countU_le fs j
    have hm := mnI_le (countU fs j * ((vals (ix fs (j : Int))).length : Int)) 1099511627776
    have : 0 ≤ countU fs j * ((vals (ix fs (j : Int))).length : Int) := Int.mul_nonneg h.1 (by omega)
    exact ⟨hm.2 this (by decide), hm.1⟩
theorem count_wrap (fs : List S_api_Fate) (j : Nat) : IntKind.i64.wrap (countU fs j * ((vals (ix fs (j : Int))).length : Int)) = countU fs j * ((vals (ix fs (j : Int))).length : Int) := by
  have h := countU_le fs j
  have h2 := vals_len (ix fs (j : Int))
  have h3 : 0 ≤ countU fs j * ((vals (ix fs (j : Int))).length : Int) := Int.mul_nonneg h.1 (by omega)
  have h4 : countU fs j * ((vals (ix fs (j : Int))).length : Int) ≤ 1099511627776 * 3 := Int.mul_le_mul h.2 (by omega) (by omega) (by decide)
  exact w64 (by omega) (by omega)
theorem fcount_eq {fu n : Nat} {B : Int} {d : Dev} (h : DevOk n B d) (hn : n ≤ 100000) (hf : n + 10 < fu) : fate_Count.f fu d = some (countU (fatesD d) (fatesD d).length) := by
  unfold fate_Count.f
  rw [fates_eq h hn (by omega)]
  have hfl : (fatesD d).length ≤ n := by
    have := fatesU_le d d.cells.length
    have := h.len
    unfold fatesD
    omega
  simp only [Option.bind_some]
  have : loopM (fate_Count.s0 fu (fatesD d)) fu (1, 0) = some (countU (fatesD d) (fatesD d).length) := by
    refine loopM_run (S := fun j => (countU (fatesD d) j, (j : Int))) (fatesD d).length rfl ?_ ?_ (by omega)
    · intro j hj
      unfold fate_Count.s0
      simp only []
      rw [decide_eq_true (show (j : Int) < ((fatesD d).length : Int) by omega), if_pos rfl, if_pos (by omega), values_eq (by omega), next64 hj (by omega)]
      simp only [Option.bind_some]
      rw [count_wrap]
      rfl
    · unfold fate_Count.s0
      simp only []
      rw [decide_eq_false (show ¬ (((fatesD d).length : Int) < ((fatesD d).length : Int)) by omega), if_neg (by decide)]
  rw [this]
  rfl
theorem rcount_eq {fu n : Nat} {B s : Int} {d : Dev} (h : DevOk n B d) (hn : n ≤ 100000) (hf : n + 10 < fu) : rickyardref06_Count.f fu (toM d s) = some (countU (fatesD d) (fatesD d).length) := by
  unfold rickyardref06_Count.f
  rw [rfates_eq h hn (by omega)]
  have hfl : (fatesD d).length ≤ n := by
    have := fatesU_le d d.cells.length
    have := h.len
    unfold fatesD
    omega
  simp only [Option.bind_some]
  have : loopM (rickyardref06_Count.s0 fu (fatesD d)) fu (1, 0) = some (countU (fatesD d) (fatesD d).length) := by
    refine loopM_run (S := fun j => (countU (fatesD d) j, (j : Int))) (fatesD d).length rfl ?_ ?_ (by omega)
    · intro j hj
      unfold rickyardref06_Count.s0
      simp only []
      rw [decide_eq_true (show (j : Int) < ((fatesD d).length : Int) by omega), if_pos rfl, if_pos (by omega), rvalues_eq (by omega), next64 hj (by omega)]
      simp only [Option.bind_some]
      rw [count_wrap]
      show _ = some (Sum.inr (mnI (countU (fatesD d) j * ((vals (ix (fatesD d) (j : Int))).length : Int)) 1099511627776, ((j + 1 : Nat) : Int)))
      generalize countU (fatesD d) j * ((vals (ix (fatesD d) (j : Int))).length : Int) = q
      have hm : mnI q 1099511627776 = if q > 1099511627776 then 1099511627776 else q := by
        rfl
      rw [hm]
      by_cases e : q > 1099511627776
      · rw [decide_eq_true e, if_pos rfl, if_pos e]
        rfl
      · rw [decide_eq_false e, if_neg (by decide), if_neg e]
        rfl
    · unfold rickyardref06_Count.s0
      simp only []
      rw [decide_eq_false (show ¬ (((fatesD d).length : Int) < ((fatesD d).length : Int)) by omega), if_neg (by decide)]
  rw [this]
  rfl
def tupW (i : Int) (d : Dev) (m : Ref) := (i, d.cells, d.plan.list, d.plan.at_, d.off, d.armed, d.left, d.steps, m.Lasts, m.Stored, m.Sent, m.Flushed, m.Plan, m.Since, m.Left, m.Steps)
/-- A device, and the document's, behind some acts. -/
theorem made_eq {lines : Int} {acts : List S_rickyardlaw05_Act} (hl : 0 ≤ lines ∧ lines ≤ 255) (hacts : ∀ x ∈ acts, ok_rickyardlaw05_Act x) : rickyardlaw06_made.f FU lines acts = some (none, none) ∨ ∃ (n : Nat) (d : Dev) (s : Int), n ≤ 24 ∧ DevOk n 40 d ∧ 0 ≤ s ∧ s ≤ 40 ∧ Since d s ∧ rickyardlaw06_made.f FU lines acts = some (some d, some (toM d s)) := by
  unfold rickyardlaw06_made.f
  have hw : Int.tmod (IntKind.i64.wrap lines) 4 = ((lines % 4).toNat : Int) := by
    rw [w64 (by omega) (by omega), Int.tmod_eq_emod_of_nonneg hl.1]
    omega
  have hk : (lines % 4).toNat ≤ 3 := by omega
  rw [hw]
  generalize (lines % 4).toNat = k at *
  have hnew : pmem_New.f FU (k : Int) = some (some (newD (8 * k)), 0) := new_eq (by omega)
  have hrn : rickyardref05_New.f FU (k : Int) = some (toM (newD (8 * k)) 0) := rnew_eq (by omega)
  have hsm : rickyardlaw05_Small.f FU acts 40 = some (decide (Small acts 40)) := small_eq (m := 40) (by decide) (by decide)
  rw [hnew, hsm, hrn]
  simp only [Option.bind_some, Option.elim_some]
  by_cases hS : Small acts 40
  rotate_left
  · rw [decide_eq_false hS]
    exact .inl rfl
  right
  rw [decide_eq_true hS, if_neg (by decide)]
  have hokA : ∀ a ∈ acts, okA a := fun a h => okA_of (hacts a h) (hS.2 a h)
  have hd0 := newD_ok (8 * k)
  have loop : ∃ e, loopM (rickyardlaw06_made.s0 FU acts) FU (tupW 0 (newD (8 * k)) (toM (newD (8 * k)) 0)) = some e ∧ ∃ (d : Dev) (s : Int), e = (d.cells, d.plan.list, d.plan.at_, d.off, d.armed, d.left, d.steps, (toM d s).Lasts, (toM d s).Stored, (toM d s).Sent, (toM d s).Flushed, (toM d s).Plan, (toM d s).Since, (toM d s).Left, (toM d s).Steps) ∧ DevOk (8 * k) 40 d ∧ 0 ≤ s ∧ s ≤ 40 ∧ Since d s := by
    refine loopM_inv (fun j z => ∃ (d : Dev) (s : Int), z = tupW (j : Int) d (toM d s) ∧ DevOk (8 * k) (j : Int) d ∧ 0 ≤ s ∧ s ≤ (j : Int) ∧ Since d s) acts.length _ ?_ ?_ (j := 0) ⟨_, 0, rfl, hd0, by omega, by omega, fun h => absurd rfl h⟩ (by omega) (by have := hS.1; show _ < 200000; omega)
    · rintro j _ hj ⟨d, s, rfl, hd, hs0, hs1, hsi⟩
      have hS1 := hS.1
      have c1 : 0 ≤ (j : Int) ∧ (j : Int) < (acts.length : Int) := by omega
      have hoa := hokA _ (List.getElem_mem hj)
      have hdo : rickyardlaw05_Do.f FU d acts[j] = some ((doD d acts[j]).1.1, (doD d acts[j]).1.2, (doD d acts[j]).2) := do_eq hd (by omega) (by omega) hoa (by show _ < 200000; omega)
      have hre : rickyardlaw05_Refs.f FU (toM d s) acts[j] = some ((doD d acts[j]).1.1, (doD d acts[j]).1.2, toM (doD d acts[j]).2 (since d acts[j] s)) := refs_eq hd (by omega) (by omega) hoa (by show _ < 200000; omega) (by omega) hsi
      have hd3 := do_ok hd hoa
      have hs3 := since_do (a := acts[j]) hsi
      have hs4 := since_le (d := d) (a := acts[j]) hs0
      unfold rickyardlaw06_made.s0 tupW
      simp only [eta, eta8]
      rw [decide_eq_true c1.2, if_pos rfl, if_pos c1, ix_nat hj, next64 hj (by omega), hdo]
      simp only [Option.bind_some]
      rw [if_pos c1, hre]
      exact ⟨_, rfl, (doD d acts[j]).2, since d acts[j] s, rfl, hd3.up (by omega), by omega, by omega, hs3⟩
    · rintro _ ⟨d, s, rfl, hd, hs0, hs1, hsi⟩
      have hS1 := hS.1
      unfold rickyardlaw06_made.s0 tupW
      rw [decide_eq_false (show ¬ ((acts.length : Int) < (acts.length : Int)) by omega), if_neg (by decide)]
      exact ⟨_, rfl, d, s, rfl, hd.up (by omega), hs0, by omega, hsi⟩
  obtain ⟨e, h1, d, s, rfl, hd, hs0, hs1, hsi⟩ := loop
  unfold tupW at h1
  rw [h1]
  exact ⟨8 * k, d, s, by omega, hd, hs0, hs1, hsi, rfl⟩
end Go.Proofs.Ytklhbaghbmndeaa.Pure

/- The pure statement of FateValues. -/
set_option linter.unusedVariables false
namespace Go.Proofs.Ytklhbaghbmndeaa.Pure
open Go Go.Xw
theorem FateValues : ∀ (a0 : S_api_Fate), ok_api_Fate a0 → ∃ fu, rickyardlaw06_FateValues.f fu a0 = some true := by
  intro f hf
  refine ⟨FU, ?_⟩
  unfold rickyardlaw06_FateValues.f
  have h1 : U64 f.Lasts ∧ U64 f.Sent ∧ U64 f.Stored := by
    simp only [ok_api_Fate, wfu64] at hf
    unfold U64
    omega
  have hv : ∀ w ∈ vals f, U64 w := by
    intro w hw
    unfold vals vals1 at hw
    split at hw <;> split at hw <;> simp at hw <;> rcases hw with rfl | hw <;> first | exact h1.1 | skip
    all_goals first | (rcases hw with rfl | rfl <;> first | exact h1.2.1 | exact h1.2.2 | exact h1.1) | (subst hw; first | exact h1.2.1 | exact h1.2.2 | exact h1.1)
  have hl := vals_len f
  rw [awake06, values_eq (by decide), rvalues_eq (by decide)]
  simp only [Option.bind_some]
  rw [text_eq hv (by omega) (by show _ < 200000; omega)]
  simp
end Go.Proofs.Ytklhbaghbmndeaa.Pure

/- The law FateValues holds for every input: the row, out of the walk of the law's function and of its pure statement. Written by rows.py. -/
namespace Go.Proofs.Ytklhbaghbmndeaa.fateValues
open Go.ChangeShapes Go.WideShapes Go.ChangeAt Go.RowKit
open Go.ChangeMaps (open_string shut_string)
open Go Go.Xw
set_option linter.unusedVariables false
theorem own : ownKnob Try.prog.godebug = none := Facts.own
theorem laidOut : laidOutB Try.prog = true := Facts.laid
theorem closed : joinedFacts Try.pinned.checked.prog 9 Try.f9 Rows.fateValuesSpec Rows.fateValuesRow = true := by
  unfold joinedFacts
  rw [Facts.enter, Facts.lifts, Facts.make, Facts.laid, Facts.rowed, Facts.plain, Facts.heard]
  kernel_rfl
theorem enc_seg {α : Type} (K : Kd α) (a : α) : K.enc a = cellsOf [Kd.seg K a] := by simp [cellsOf, Kd.seg]
def start : Input := ⟨#[], #[.agg #[.int .i64 0, .int .u64 0, .bool false, .int .u64 0, .int .u64 0]], []⟩
set_option maxRecDepth 100000 in
set_option maxHeartbeats 1000000 in
theorem lifted (os : Os) (started : os.Started) (H : Type) (enc : TypeId × Value → H) :
    ReturnsInHanded {} Try.checked os 9 .any (Rows.fateValuesSpec.pre6 enc Try.prog Try.f9 Rows.fateValuesRow.domain false) (Rows.fateValuesSpec.post enc Try.prog Try.f9 false true false false) := by
  refine returnsInHanded_of_change_sized (C := Try.checked) own started (by kernel_rfl) Try.func9
    (ChangeSpec.witness6 (enc := enc) (C := Try.checked) false start 8 (by kernel_rfl) (by kernel_rfl) (by kernel_rfl) (by kernel_rfl)) ?_
  intro W base args ds gs before hval0 hW hcnd hsz0 _
  have hval : ∀ (j : Nat) t v, Try.f9.params[j]? = some t → args[j]? = some v → Value.okWide Try.prog W .any base t v := hval0
  have hW' := hW
  obtain ⟨p, q, hA0, hV, rfl, hfz, hnd⟩ := hW
  have hA : DataW.TrodAll enc Try.prog W 0 (fun _ => true) true Try.f9.params.toList args.toList ds p := hA0
  rw [Try.params9] at hA hval
  obtain ⟨v0, vs0, d0, ds0, p0, q0, hargs, rfl, rfl, h0, r0⟩ := trodAll_cons hA
  obtain ⟨rfl, rfl, rfl⟩ := trodAll_nil r0
  obtain rfl : args = #[v0] := by cases args; simp_all
  obtain ⟨rfl, rfl⟩ := trodVars_none hV
  have k0 := h0
  have lt0 : ∀ x ∈ p0, x.block < W.heap.size := by obtain ⟨m, hm⟩ := k0; exact DataW.trod_lt m _ _ _ hm
  obtain ⟨fu0, hf0⟩ := h0
  obtain ⟨a0, e0, o0⟩ := (opn_api_Fate (w := W)) enc _ _ _ _ _ _ hf0
  obtain rfl := agg_of (by kernel_rfl) (hval 0 55 v0 rfl rfl) e0
  obtain ⟨fu, hfu⟩ := Pure.FateValues a0 o0
  refine Calls.mono (rickyardlaw06_FateValues.ok fu W a0 true hfu) fun e W' hr => ?_
  obtain ⟨v, rfl, rfl, gr⟩ := hr
  have bel := Fr.below gr
  exact ⟨_, rfl, _, _, _, [], _, [], hW', trodAll_mk1 (shut_bool Try.underlying4 _), (trodAll_cons_mk (Below.trod laidOut (by kernel_rfl) (of_decide_eq_true (by kernel_rfl)) k0 bel lt0) trodAll_mk0), rfl, bel.frame _, fun h => by cases h⟩
theorem over : Rows.fateValuesRow.holds Try.pinned (OpenSpec.ofChange Rows.fateValuesSpec) :=
  OpenClaim.holds_of_wide 9 Try.f9 rfl rfl rfl rfl rfl rfl rfl ⟨rfl, rfl, rfl, rfl, rfl⟩ rfl rfl rfl rfl rfl (by kernel_rfl) Try.func9 closed
    (of_decide_eq_true (by kernel_rfl)) (by unfold Func.isWrapper; first | (rw [if_pos (by decide +kernel)]; kernel_rfl) | (rw [if_neg (by decide +kernel)]; exact ⟨rfl, rfl⟩))
    (fun os started H enc _ => lifted os started H enc)
theorem proved : Rows.FateValuesSaid := over
end Go.Proofs.Ytklhbaghbmndeaa.fateValues
namespace Go.Proofs.Ytklhbaghbmndeaa
/-- The law holds. -/
theorem fateValues_holds : Rows.FateValuesSaid := fateValues.proved
#print axioms fateValues_holds
end Go.Proofs.Ytklhbaghbmndeaa
