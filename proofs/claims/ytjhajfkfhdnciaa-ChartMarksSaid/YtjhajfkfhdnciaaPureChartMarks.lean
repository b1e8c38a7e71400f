/- The pure statement of ChartMarks. -/
import Derived.Test.YtjhajfkfhdnciaaPMark
import Derived.Test.YtjhajfkfhdnciaaFrickyardlaw10ChartMarks
set_option linter.unusedVariables false
set_option linter.unusedSimpArgs false
namespace Go.Proofs.Ytjhajfkfhdnciaa.Pure
open Go Go.Xw
def zeroC : S_api_Chart := ⟨0, Arr.rep 48 0⟩
def InC (c : S_api_Chart) (a : Int) : Prop := RightC c ∧ 0 ≤ a ∧ a / 384 = c.Place
instance (c : S_api_Chart) (a : Int) : Decidable (InC c a) := inferInstanceAs (Decidable (_ ∧ _))
def markC (c : S_api_Chart) (a : Int) (on : Bool) : S_api_Chart := ⟨c.Place, if on then upA (dnA c.Bits (a % 384)) (a % 384) else dnA c.Bits (a % 384)⟩
theorem mark_no {fu : Nat} {c : S_api_Chart} {a : Int} {on : Bool} (h : ¬ InC c a) (ha : -9223372036854775808 ≤ a ∧ a ≤ 9223372036854775807) : chart_Mark.f fu c a on = some (zeroC, false) := by
  unfold chart_Mark.f
  rw [bit_no h (.inl ha)]
  rfl
theorem mark_yes {fu : Nat} {c : S_api_Chart} {a : Int} {on : Bool} (h : InC c a) : chart_Mark.f fu c a on = some (markC c a on, true) := by
  unfold chart_Mark.f
  rw [bit_yes h.1 h.2.1 h.2.2]
  have h1 : 0 ≤ a % 384 / 8 ∧ a % 384 / 8 < 48 := by omega
  simp only [Option.bind_some, h1, and_self, if_true, Bool.not_true, Bool.false_eq_true, if_false]
  cases on <;> simp [markC, upA, dnA, Arr.get, Arr.set]
theorem okB_of {c : S_api_Chart} (h : ok_api_Chart c) : okB c.Bits := h.2
theorem markC_ok {c : S_api_Chart} {a : Int} {on : Bool} (hc : ok_api_Chart c) : okB (markC c a on).Bits ∧ ∀ m, m < 384 → bitA (markC c a on).Bits m = (if (m : Int) = a % 384 then on else bitc c m) := by
  obtain ⟨k, hk⟩ : ∃ k : Nat, a % 384 = (k : Int) := ⟨(a % 384).toNat, by omega⟩
  have hk2 : k < 384 := by omega
  have h1 := dnA_ok (okB_of hc) hk2
  unfold markC
  rw [hk]
  cases on
  · refine ⟨h1, fun m hm => ?_⟩
    simp only [Bool.false_eq_true, if_false]
    rw [dnA_bit (okB_of hc) hk2 hm]
    by_cases e : m = k
    · simp [e]
    · have e' : ¬ (m : Int) = (k : Int) := by omega
      rw [if_neg e']
      simp [e, bitA, bitc]
  · refine ⟨upA_ok h1 hk2, fun m hm => ?_⟩
    simp only [if_true]
    rw [upA_bit h1 hk2 hm, dnA_bit (okB_of hc) hk2 hm]
    by_cases e : m = k
    · simp [e]
    · have e' : ¬ (m : Int) = (k : Int) := by omega
      rw [if_neg e']
      simp [e, bitA, bitc]
theorem made_step {fu : Nat} {P : Int} {l : List Int} (hP : 0 ≤ P ∧ P < 8) {j : Nat} (hj : j < l.length) (hl : l.length ≤ 9000000000000000000) {a : Arr 48 Int} (hx : -9223372036854775808 ≤ l[j] ∧ l[j] ≤ 9223372036854775807) :
    rickyardref10_Made.s0 fu P l ((j : Int), ⟨P, a⟩) = some (.inr (((j + 1 : Nat) : Int), ⟨P, if 384 * P ≤ l[j] ∧ l[j] < 384 * P + 384 then upA a (l[j] - 384 * P) else a⟩)) := by
  unfold rickyardref10_Made.s0
  have e1 : ix l (j : Int) = l[j] := by simp [ix, List.getD_eq_getElem?_getD, List.getElem?_eq_getElem hj]
  have w1 : IntKind.i64.wrap (384 * P) = 384 * P := w64 (by omega) (by omega)
  have w2 : IntKind.i64.wrap (384 * P + 384) = 384 * P + 384 := w64 (by omega) (by omega)
  have w3 : IntKind.i64.wrap ((j : Int) + 1) = ((j + 1 : Nat) : Int) := by rw [w64 (by omega) (by omega)]; omega
  have c1 : 0 ≤ (j : Int) ∧ (j : Int) < (l.length : Int) := by omega
  simp only [e1, w1, w2, w3, c1, and_self, if_true, decide_true, ge_iff_le]
  by_cases h1 : 384 * P ≤ l[j]
  · by_cases h2 : l[j] < 384 * P + 384
    · have w4 : IntKind.i64.wrap (l[j] - 384 * P) = l[j] - 384 * P := w64 (by omega) (by omega)
      have e2 : Int.tdiv (l[j] - 384 * P) 8 = (l[j] - 384 * P) / 8 := Int.tdiv_eq_ediv_of_nonneg (by omega)
      have e3 : Int.tmod (l[j] - 384 * P) 8 = (l[j] - 384 * P) % 8 := Int.tmod_eq_emod_of_nonneg (by omega)
      have w5 : IntKind.i64.wrap ((l[j] - 384 * P) / 8) = (l[j] - 384 * P) / 8 := w64 (by omega) (by omega)
      have c2 : 0 ≤ (l[j] - 384 * P) / 8 ∧ (l[j] - 384 * P) / 8 < 48 := by omega
      have c3 : 0 ≤ (l[j] - 384 * P) % 8 := by omega
      simp only [h1, h2, w4, e2, e3, w5, c2, c3, and_self, if_true, decide_true, Option.bind_some]
      simp [upA]
    · simp [h1, h2]
  · simp [h1]
theorem made_eq {fu : Nat} {P : Int} {l : List Int} (hP : 0 ≤ P ∧ P < 8) (hl : l.length ≤ 9000000000000000000) (hf : l.length < fu) (hx : ∀ x ∈ l, -9223372036854775808 ≤ x ∧ x ≤ 9223372036854775807) : rickyardref10_Made.f fu P l = some ⟨P, madeA P l (Arr.rep 48 0)⟩ := by
  unfold rickyardref10_Made.f
  have : loopM (rickyardref10_Made.s0 fu P l) fu (0, (⟨P, (Arr.rep 48 (0 : Int))⟩ : S_api_Chart)) = some ⟨P, madeA P l (Arr.rep 48 0)⟩ := by
    refine loopM_run (S := fun j => ((j : Int), (⟨P, madeA P (l.take j) (Arr.rep 48 0)⟩ : S_api_Chart))) l.length (by simp [madeA]) ?_ ?_ hf
    · intro j hj
      rw [made_step hP hj hl (hx _ (List.getElem_mem hj)), List.take_add_one, madeA_append, List.getElem?_eq_getElem hj]
      rfl
    · unfold rickyardref10_Made.s0
      simp
  rw [this]
  rfl
def wantB (c : S_api_Chart) (a : Int) (on : Bool) (i : Nat) : Bool := if 384 * c.Place + (i : Int) = a then on else bitc c i
def wantL (c : S_api_Chart) (a : Int) (on : Bool) (m : Nat) : List Int := ((List.range m).filter (wantB c a on)).map fun k : Nat => 384 * c.Place + (k : Int)
theorem wantL_succ (c : S_api_Chart) (a : Int) (on : Bool) (m : Nat) : wantL c a on (m + 1) = wantL c a on m ++ (if wantB c a on m = true then [384 * c.Place + (m : Int)] else []) := by
  unfold wantL
  rw [List.range_succ, List.filter_append, List.map_append]
  by_cases h : wantB c a on m <;> simp [h]
theorem wantL_len (c : S_api_Chart) (a : Int) (on : Bool) (m : Nat) : (wantL c a on m).length ≤ m := by
  unfold wantL
  rw [List.length_map]
  exact Nat.le_trans (List.length_filter_le _ _) (by simp)
theorem want_eq {fu : Nat} {c : S_api_Chart} {a : Int} {on : Bool} (hc : ok_api_Chart c) (hr : RightC c) (hf : 384 < fu) : loopM (rickyardlaw10_ChartMarks.s0 fu c a on (listC c)) fu ([], 0) = some (wantL c a on 384) := by
  have hr' := hr
  unfold RightC at hr'
  refine loopM_run (S := fun i => (wantL c a on i, (i : Int))) 384 (by simp [wantL]) ?_ ?_ hf
  · intro j hj
    unfold rickyardlaw10_ChartMarks.s0
    have h1 : (j : Int) < 384 := by omega
    have w1 : IntKind.i64.wrap (384 * c.Place) = 384 * c.Place := w64 (by omega) (by omega)
    have w2 : IntKind.i64.wrap (384 * c.Place + (j : Int)) = 384 * c.Place + (j : Int) := w64 (by omega) (by omega)
    have w3 : IntKind.i64.wrap ((j : Int) + 1) = ((j + 1 : Nat) : Int) := by rw [w64 (by omega) (by omega)]; omega
    have hll := len_listC c
    have hh : rickyardref10_Has.f fu (listC c) (384 * c.Place + (j : Int)) = some (bitc c j) := by
      rw [rhas_eq (by omega) (by omega)]
      unfold listC
      rw [if_pos hr]
      have := mem_acc (a := 384 * c.Place + (j : Int)) hr
      rw [show ((384 * c.Place + (j : Int)) % 384).toNat = j from by omega] at this
      have h2 : 0 ≤ 384 * c.Place + (j : Int) ∧ (384 * c.Place + (j : Int)) / 384 = c.Place := by omega
      simp only [h2, and_self, true_and] at this
      simp only [this, Bool.decide_eq_true]
    have hlim : (wantL c a on j).length + 1 ≤ LIM := lim_ok (by have := wantL_len c a on j; omega)
    simp only [h1, w1, w2, w3, hh, decide_true, if_true, wantL_succ, Option.bind_some]
    by_cases e : 384 * c.Place + (j : Int) = a
    · cases on
      · simp [wantB, e]
      · simp [wantB, e, hlim]
    · cases hb : bitc c j
      · simp [wantB, e, hb]
      · simp [wantB, e, hb, hlim]
  · unfold rickyardlaw10_ChartMarks.s0
    simp
theorem ChartMarks : ∀ (a0 : S_api_Chart) (a1 : Int) (a2 : Bool), ok_api_Chart a0 → (Lit.int .i64 a1).wf = true → ∃ fu, rickyardlaw10_ChartMarks.f fu a0 a1 a2 = some true := by
  intro c a on hc ha
  refine ⟨400, ?_⟩
  have ha' := wf64.1 ha
  have hP := wf64.1 hc.1
  unfold rickyardlaw10_ChartMarks.f
  rw [awake10, rright_eq]
  by_cases h : InC c a
  · have hr := h.1
    have hr' := hr
    unfold RightC at hr'
    have h2 := h.2
    have w1 : IntKind.i64.wrap (384 * c.Place) = 384 * c.Place := w64 (by omega) (by omega)
    have w2 : IntKind.i64.wrap (384 * c.Place + 384) = 384 * c.Place + 384 := w64 (by omega) (by omega)
    have n1 : ¬ a < 384 * c.Place := by omega
    have n2 : ¬ a ≥ 384 * c.Place + 384 := by omega
    have hl := wantL_len c a on 384
    have hx : ∀ x ∈ wantL c a on 384, -9223372036854775808 ≤ x ∧ x ≤ 9223372036854775807 := by
      intro x hx
      unfold wantL at hx
      obtain ⟨k, hk, rfl⟩ := List.mem_map.1 hx
      have := List.mem_range.1 (List.mem_filter.1 hk).1
      omega
    have hm := markC_ok (a := a) (on := on) hc
    have hma := madeA_ok c.Place (wantL c a on 384) (Arr.rep 48 0) okB_rep
    have hmem : ∀ m : Nat, m < 384 → (384 * c.Place + (m : Int) ∈ wantL c a on 384 ↔ wantB c a on m = true) := by
      intro m hm
      unfold wantL
      simp only [List.mem_map, List.mem_filter, List.mem_range]
      constructor
      · rintro ⟨k, ⟨_, hk⟩, he⟩
        rwa [show m = k from by omega]
      · intro hw
        exact ⟨m, ⟨hm, hw⟩, rfl⟩
    have heq : markC c a on = ⟨c.Place, madeA c.Place (wantL c a on 384) (Arr.rep 48 0)⟩ := by
      have : (markC c a on).Bits = madeA c.Place (wantL c a on 384) (Arr.rep 48 0) := by
        refine bitA_ext hm.1 hma.1 fun m hm' => ?_
        rw [hm.2 m hm', hma.2 m hm', rep_bit, Bool.false_or]
        simp only [hmem m hm', Bool.decide_eq_true, wantB]
        have : ((m : Int) = a % 384) ↔ (384 * c.Place + (m : Int) = a) := by omega
        simp only [this]
      rw [← this]
      rfl
    have hin : InC (markC c a on) a := h
    have hok : ok_api_Chart (markC c a on) := ⟨hc.1, hm.1⟩
    have hhas : chart_Has.f 400 (markC c a on) a = some on := by
      rw [has_yes hok hin.1 hin.2.1 hin.2.2]
      have := hm.2 (a % 384).toNat (by omega)
      rw [if_pos (by omega)] at this
      exact congrArg some this
    rw [mark_yes h, rlist_eq hc (by omega)]
    simp only [Option.bind_some, hr, decide_true, Bool.not_true, Bool.false_eq_true, if_false, w1, w2, n1, n2, decide_false, want_eq hc hr (by omega : 384 < 400), made_eq hr' (by omega : (wantL c a on 384).length ≤ 9000000000000000000) (by omega : (wantL c a on 384).length < 400) hx, if_true, ← heq, hhas]
  · rw [mark_no h ha']
    by_cases hr : RightC c
    · have hr' := hr
      unfold RightC at hr'
      have w1 : IntKind.i64.wrap (384 * c.Place) = 384 * c.Place := w64 (by omega) (by omega)
      have w2 : IntKind.i64.wrap (384 * c.Place + 384) = 384 * c.Place + 384 := w64 (by omega) (by omega)
      have hn : ¬ (0 ≤ a ∧ a / 384 = c.Place) := fun x => h ⟨hr, x⟩
      by_cases n1 : a < 384 * c.Place
      · simp [hr, w1, n1, zeroC]
      · have n2 : a ≥ 384 * c.Place + 384 := by omega
        have n2' : 384 * c.Place + 384 ≤ a := n2
        simp [hr, w1, w2, n1, n2', zeroC]
    · simp [hr, zeroC]
end Go.Proofs.Ytjhajfkfhdnciaa.Pure
