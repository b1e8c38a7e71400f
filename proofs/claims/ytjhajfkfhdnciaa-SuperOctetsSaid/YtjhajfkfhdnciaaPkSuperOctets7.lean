/- SuperOctets: texts merged, part 7 of 7. The last part proves that the law SuperOctets holds for every input. -/
import Derived.Test.YtjhajfkfhdnciaaPkSuperOctets6
/- Superblocks in plain words. -/
set_option linter.unusedVariables false
set_option linter.unusedSimpArgs false
namespace Go.Proofs.Ytjhajfkfhdnciaa.Pure
open Go Go.Xw
/-! ### Among -/
theorem contains_eq {fu : Nat} {l : List Int} {x : Int} (hl : l.length ≤ 9000000000000000000) (hf : l.length < fu) : slices_Contains.f fu l x = some (decide (x ∈ l)) := by
  unfold slices_Contains.f
  have hs : ∀ j : Nat, j < l.length → slices_Index.s0 fu l x (j : Int) = some (if x ≠ ix l (j : Int) then .inr ((j + 1 : Nat) : Int) else .inl (.inl (j : Int))) := by
    intro j hj
    unfold slices_Index.s0
    have h1 : (j : Int) < (l.length : Int) := by omega
    have c0 : 0 ≤ (j : Int) := by omega
    have w3 : IntKind.i64.wrap ((j : Int) + 1) = ((j + 1 : Nat) : Int) := by rw [w64 (by omega) (by omega)]; omega
    simp only [h1, c0, and_self, decide_true, if_true, w3]
    by_cases e : x = ix l (j : Int) <;> simp [e]
  have hi : ∃ r : Int, slices_Index.f fu l x = some r ∧ (r ≥ 0 ↔ x ∈ l) := by
    unfold slices_Index.f
    by_cases hk : x ∈ l
    · have hmin : ∀ m j, j ≤ m → (j < l.length ∧ x = ix l (j : Int)) → ∃ q, (q < l.length ∧ x = ix l (q : Int)) ∧ ∀ i, i < q → x ≠ ix l (i : Int) := by
        intro m
        induction m with
        | zero =>
          intro j hj hjj
          exact ⟨j, hjj, fun i hi => by omega⟩
        | succ m ih =>
          intro j hj hjj
          by_cases hx : ∃ i, i < j ∧ x = ix l (i : Int)
          · obtain ⟨i, hi, hgi⟩ := hx
            exact ih i (by omega) ⟨by omega, hgi⟩
          · exact ⟨j, hjj, fun i hi hg => hx ⟨i, hi, hg⟩⟩
      obtain ⟨j, hj, hjx⟩ := List.getElem_of_mem hk
      obtain ⟨q, ⟨hq, hg⟩, hall⟩ := hmin j j (Nat.le_refl _) ⟨hj, by rw [ix_nat hj, hjx]⟩
      have : loopM (slices_Index.s0 fu l x) fu 0 = some (.inl (q : Int)) :=
        loopM_run (S := fun j => (j : Int)) q rfl (fun i hi => by rw [hs i (by omega), if_pos (hall i hi)]) (by rw [hs q hq, if_neg (fun h => h hg)]) (by omega)
      rw [this]
      refine ⟨(q : Int), rfl, ?_⟩
      simp only [hk, iff_true]
      omega
    · have : loopM (slices_Index.s0 fu l x) fu 0 = some (.inr ()) := by
        refine loopM_run (S := fun j => (j : Int)) l.length rfl (fun j hj => ?_) ?_ hf
        · rw [hs j hj, if_pos]
          intro e
          rw [ix_nat hj] at e
          exact hk (by rw [e]; exact List.getElem_mem hj)
        · unfold slices_Index.s0
          simp
      rw [this]
      exact ⟨-1, rfl, by simp [hk]⟩
  obtain ⟨r, hr, hrk⟩ := hi
  rw [hr]
  exact congrArg some (decide_eq_decide.2 hrk)
/-! ### Right ones -/
def geoOk (g : S_api_Geometry) : Prop := (16 ≤ g.Blocks ∧ g.Blocks ≤ 3072) ∧ (1 ≤ g.Slots ∧ g.Slots ≤ 1792) ∧ (1 ≤ g.Gens ∧ g.Gens ≤ 4294967295)
instance (g : S_api_Geometry) : Decidable (geoOk g) := inferInstanceAs (Decidable (_ ∧ _))
theorem geo_form (g : S_api_Geometry) : (if (decide (g.Blocks ≥ 16)) = true then (if (decide (g.Blocks ≤ 3072)) = true then (if (decide (g.Slots ≥ 1)) = true then (if (decide (g.Slots ≤ 1792)) = true then (if (decide (g.Gens ≥ 1)) = true then (decide (g.Gens ≤ 4294967295)) else false) else false) else false) else false) else false) = decide (geoOk g) := by
  rw [Bool.eq_iff_iff]
  unfold geoOk
  simp only [decide_eq_true_eq, ge_iff_le]
  by_cases c1 : 16 ≤ g.Blocks
  · by_cases c2 : g.Blocks ≤ 3072
    · by_cases c3 : 1 ≤ g.Slots
      · by_cases c4 : g.Slots ≤ 1792
        · by_cases c5 : 1 ≤ g.Gens <;> simp [c1, c2, c3, c4, c5]
        · simp [c1, c2, c3, c4]
      · simp [c1, c2, c3]
    · simp [c1, c2]
  · simp [c1]
theorem geom_eq (fu : Nat) (g : S_api_Geometry) : geom_Right.f fu g = some (decide (geoOk g)) := congrArg some (geo_form g)
theorem rgeom_eq (fu : Nat) (g : S_api_Geometry) : rickyardref12_Right.f fu g = some (decide (geoOk g)) := congrArg some (geo_form g)
def chartsN (g : S_api_Geometry) : Int := (g.Blocks + 383) / 384
theorem charts_eq {fu : Nat} {g : S_api_Geometry} (h : geoOk g) : geom_Charts.f fu g = some (chartsN g) := by
  unfold geom_Charts.f geom_up.f
  rw [geom_eq, decide_eq_true h]
  unfold geoOk at h
  have w1 : IntKind.i64.wrap (g.Blocks + 384) = g.Blocks + 384 := w64 (by omega) (by omega)
  have w2 : IntKind.i64.wrap (g.Blocks + 384 - 1) = g.Blocks + 383 := by rw [w64 (by omega) (by omega)]; omega
  have e1 : Int.tdiv (g.Blocks + 383) 384 = (g.Blocks + 383) / 384 := Int.tdiv_eq_ediv_of_nonneg (by omega)
  have w3 : IntKind.i64.wrap ((g.Blocks + 383) / 384) = (g.Blocks + 383) / 384 := w64 (by omega) (by omega)
  simp [w1, w2, e1, w3, chartsN]
theorem rcharts_eq {fu : Nat} {g : S_api_Geometry} (h : geoOk g) (hf : 100 < fu) : rickyardref12_Charts.f fu g = some (chartsN g) := by
  unfold rickyardref12_Charts.f rickyardref12_Need.f
  unfold geoOk at h
  obtain ⟨n, hn⟩ : ∃ n : Nat, chartsN g = (n : Int) := ⟨(chartsN g).toNat, by unfold chartsN; omega⟩
  have hn' := hn
  unfold chartsN at hn'
  have : loopM (rickyardref12_Need.s0 fu g.Blocks 384) fu 0 = some (n : Int) := by
    refine loopM_run (S := fun j => (j : Int)) n rfl (fun j hj => ?_) ?_ (by omega)
    · unfold rickyardref12_Need.s0
      have w1 : IntKind.i64.wrap ((j : Int) * 384) = (j : Int) * 384 := w64 (by omega) (by omega)
      have w3 : IntKind.i64.wrap ((j : Int) + 1) = ((j + 1 : Nat) : Int) := by rw [w64 (by omega) (by omega)]; omega
      have h1 : (j : Int) * 384 < g.Blocks := by omega
      simp only [w1, w3, h1, decide_true, if_true]
    · unfold rickyardref12_Need.s0
      have w1 : IntKind.i64.wrap ((n : Int) * 384) = (n : Int) * 384 := w64 (by omega) (by omega)
      have h1 : ¬ (n : Int) * 384 < g.Blocks := by omega
      simp only [w1, h1, decide_false, Bool.false_eq_true, if_false]
  rw [this, hn]
  rfl
def inB (s : S_api_Super) (x : Int) : Prop := 2 ≤ x ∧ x < s.Tickets.Geometry.Blocks
instance (s : S_api_Super) (x : Int) : Decidable (inB s x) := inferInstanceAs (Decidable (_ ∧ _))
def supA (s : S_api_Super) : Prop := (1 ≤ s.Epoch ∧ s.Epoch ≤ 4611686018427387904) ∧ geoOk s.Tickets.Geometry
instance (s : S_api_Super) : Decidable (supA s) := inferInstanceAs (Decidable (_ ∧ _))
def supB (s : S_api_Super) : Prop := (0 ≤ s.Tickets.High ∧ s.Tickets.High ≤ s.Tickets.Geometry.Slots) ∧ (0 ≤ s.Tickets.Free ∧ s.Tickets.Free ≤ s.Tickets.High)
instance (s : S_api_Super) : Decidable (supB s) := inferInstanceAs (Decidable (_ ∧ _))
def topOk (s : S_api_Super) : Prop := (s.Tickets.High = 0 → s.Tickets.Top = 0) ∧ (s.Tickets.High ≠ 0 → inB s s.Tickets.Top)
instance (s : S_api_Super) : Decidable (topOk s) := inferInstanceAs (Decidable (_ ∧ _))
def dirOk (s : S_api_Super) : Prop := s.Dir ≠ 0 → inB s s.Dir
instance (s : S_api_Super) : Decidable (dirOk s) := inferInstanceAs (Decidable (_ → _))
def apartC (l : List Int) : Prop := ∀ j, j < l.length → ix l (j : Int) ∉ l.take j
instance (l : List Int) : Decidable (apartC l) := inferInstanceAs (Decidable (∀ j, j < l.length → _))
def insC (s : S_api_Super) : Prop := ∀ j, j < s.Charts.length → inB s (ix s.Charts (j : Int))
instance (s : S_api_Super) : Decidable (insC s) := inferInstanceAs (Decidable (∀ j, j < s.Charts.length → _))
def SupOk (s : S_api_Super) : Prop := supA s ∧ supB s ∧ topOk s ∧ dirOk s ∧ (s.Charts.length : Int) = chartsN s.Tickets.Geometry ∧ insC s ∧ apartC s.Charts
instance (s : S_api_Super) : Decidable (SupOk s) := inferInstanceAs (Decidable (_ ∧ _))
theorem SupOk.len {s : S_api_Super} (h : SupOk s) : s.Charts.length ≤ 8 ∧ 1 ≤ s.Charts.length := by
  have h1 := h.1.2
  have h2 := h.2.2.2.2.1
  unfold geoOk at h1
  unfold chartsN at h2
  omega
theorem in_eq (fu : Nat) (x : Int) (s : S_api_Super) : super_Right_1__c.f fu x s = some (decide (inB s x)) := by
  unfold super_Right_1__c.f inB
  by_cases h : 2 ≤ x <;> simp [h]
theorem sup_g1 (fu : Nat) (s : S_api_Super) : (if (decide (s.Epoch < 1)) = true then some (true) else (if (decide (s.Epoch > 4611686018427387904)) = true then some (true) else ((geom_Right.f fu s.Tickets.Geometry : Option Bool).bind fun t11 => (if (!t11) = true then some (true) else (if (decide (s.Tickets.High < 0)) = true then some (true) else (if (decide (s.Tickets.High > s.Tickets.Geometry.Slots)) = true then some (true) else (if (decide (s.Tickets.Free < 0)) = true then some (true) else some ((decide (s.Tickets.Free > s.Tickets.High)))))))))) = some (!decide (supA s ∧ supB s)) := by
  rw [geom_eq, Option.bind_some]
  by_cases hA : supA s
  · have hA' := hA
    unfold supA at hA'
    have c1 : ¬ s.Epoch < 1 := by omega
    have c2 : ¬ s.Epoch > 4611686018427387904 := by omega
    rw [decide_eq_false c1, decide_eq_false c2, decide_eq_true hA'.2]
    by_cases hB : supB s
    · have hB' := hB
      unfold supB at hB'
      have c3 : ¬ s.Tickets.High < 0 := by omega
      have c4 : ¬ s.Tickets.High > s.Tickets.Geometry.Slots := by omega
      have c5 : ¬ s.Tickets.Free < 0 := by omega
      have c6 : ¬ s.Tickets.Free > s.Tickets.High := by omega
      rw [decide_eq_false c3, decide_eq_false c4, decide_eq_false c5, decide_eq_false c6, decide_eq_true (⟨hA, hB⟩ : supA s ∧ supB s)]
      rfl
    · rw [decide_eq_false (fun x : supA s ∧ supB s => hB x.2)]
      unfold supB at hB
      by_cases c3 : s.Tickets.High < 0
      · rw [decide_eq_true c3]
        rfl
      · by_cases c4 : s.Tickets.High > s.Tickets.Geometry.Slots
        · rw [decide_eq_false c3, decide_eq_true c4]
          rfl
        · by_cases c5 : s.Tickets.Free < 0
          · rw [decide_eq_false c3, decide_eq_false c4, decide_eq_true c5]
            rfl
          · have c6 : s.Tickets.Free > s.Tickets.High := by omega
            rw [decide_eq_false c3, decide_eq_false c4, decide_eq_false c5, decide_eq_true c6]
            rfl
  · rw [decide_eq_false (fun x : supA s ∧ supB s => hA x.1)]
    unfold supA at hA
    by_cases c1 : s.Epoch < 1
    · rw [decide_eq_true c1]
      rfl
    · by_cases c2 : s.Epoch > 4611686018427387904
      · rw [decide_eq_false c1, decide_eq_true c2]
        rfl
      · have c3 : ¬ geoOk s.Tickets.Geometry := fun x => hA ⟨by omega, x⟩
        rw [decide_eq_false c1, decide_eq_false c2, decide_eq_false c3]
        rfl
def lenOk (s : S_api_Super) : Prop := (s.Charts.length : Int) = chartsN s.Tickets.Geometry
instance (s : S_api_Super) : Decidable (lenOk s) := inferInstanceAs (Decidable (_ = _))
theorem sup_loop {fu : Nat} {s : S_api_Super} (hl : s.Charts.length ≤ 50) (hf : 100 < fu) : loopM (super_Right.s0 fu s) fu 0 = some (if insC s ∧ apartC s.Charts then .inr () else .inl false) := by
  have hs : ∀ j : Nat, j < s.Charts.length → super_Right.s0 fu s (j : Int) = some (if inB s (ix s.Charts (j : Int)) ∧ ix s.Charts (j : Int) ∉ s.Charts.take j then .inr ((j + 1 : Nat) : Int) else .inl (.inl false)) := by
    intro j hj
    unfold super_Right.s0
    have h1 : (j : Int) < (s.Charts.length : Int) := by omega
    have h2 : (j : Int) ≤ (s.Charts.length : Int) := by omega
    have c0 : 0 ≤ (j : Int) := by omega
    have w3 : IntKind.i64.wrap ((j : Int) + 1) = ((j + 1 : Nat) : Int) := by rw [w64 (by omega) (by omega)]; omega
    have ec : cut s.Charts 0 (j : Int) = s.Charts.take j := by unfold cut; simp
    have hc : slices_Contains.f fu (s.Charts.take j) (ix s.Charts (j : Int)) = some (decide (ix s.Charts (j : Int) ∈ s.Charts.take j)) := contains_eq (by rw [List.length_take]; omega) (by rw [List.length_take]; omega)
    simp only [h1, h2, c0, and_self, decide_true, if_true, w3, in_eq, Option.bind_some, ec, hc]
    by_cases g1 : inB s (ix s.Charts (j : Int))
    · by_cases g2 : ix s.Charts (j : Int) ∈ s.Charts.take j <;> simp [g1, g2]
    · simp [g1]
  by_cases h : insC s ∧ apartC s.Charts
  · rw [if_pos h]
    refine loopM_run (S := fun j => (j : Int)) s.Charts.length rfl (fun j hj => by rw [hs j hj, if_pos ⟨h.1 j hj, h.2 j hj⟩]) ?_ (by omega)
    unfold super_Right.s0
    simp
  · rw [if_neg h]
    refine loopM_bad (S := fun j => (j : Int)) s.Charts.length (fun j => inB s (ix s.Charts (j : Int)) ∧ ix s.Charts (j : Int) ∉ s.Charts.take j) rfl ?_ (fun j hj _ hg => by rw [hs j hj, if_pos hg]) (fun j hj _ hg => by rw [hs j hj, if_neg hg]) (by omega)
    apply Classical.byContradiction
    intro hx
    exact h ⟨fun i hi => Classical.byContradiction fun hg => hx ⟨i, hi, fun q => hg q.1⟩, fun i hi => Classical.byContradiction fun hg => hx ⟨i, hi, fun q => hg q.2⟩⟩
theorem superRight_eq {fu : Nat} {s : S_api_Super} (hf : 100 < fu) : super_Right.f fu s = some (decide (SupOk s)) := by
  unfold super_Right.f
  rw [sup_g1, Option.bind_some]
  by_cases hAB : supA s ∧ supB s
  · obtain ⟨hA, hB⟩ := hAB
    have hg := hA.2
    have hB' := hB
    unfold supB at hB'
    rw [decide_eq_true (⟨hA, hB⟩ : supA s ∧ supB s), charts_eq hg]
    simp only [Bool.not_true, Bool.false_eq_true, if_false, in_eq, Option.bind_some]
    have key : ∀ (b : Bool), b = decide (topOk s ∧ dirOk s ∧ lenOk s) → (if (!b) = true then some false else ((loopM (super_Right.s0 fu s) fu (0)).bind fun e131 => match e131 with | Sum.inl p => some p | Sum.inr x134 => some (true))) = some (decide (SupOk s)) := by
      intro b hb
      by_cases hT : topOk s ∧ dirOk s ∧ lenOk s
      · rw [hb, decide_eq_true hT]
        have hlen : s.Charts.length ≤ 50 := by
          have h1 := hT.2.2
          unfold lenOk chartsN at h1
          unfold geoOk at hg
          omega
        rw [sup_loop hlen hf]
        by_cases hq : insC s ∧ apartC s.Charts
        · have hS : SupOk s := ⟨hA, hB, hT.1, hT.2.1, hT.2.2, hq.1, hq.2⟩
          rw [if_pos hq, decide_eq_true hS]
          rfl
        · rw [if_neg hq, decide_eq_false (fun x : SupOk s => hq ⟨x.2.2.2.2.2.1, x.2.2.2.2.2.2⟩)]
          rfl
      · rw [hb, decide_eq_false hT, decide_eq_false (fun x : SupOk s => hT ⟨x.2.2.1, x.2.2.2.1, x.2.2.2.2.1⟩)]
        rfl
    by_cases h0 : s.Tickets.High = 0
    · have h1 : ¬ s.Tickets.High > 0 := by omega
      rw [decide_eq_true h0, decide_eq_false h1]
      by_cases ht : s.Tickets.Top = 0
      · rw [decide_eq_true ht]
        have hT : topOk s := ⟨fun _ => ht, fun x => absurd h0 x⟩
        by_cases hd : s.Dir = 0
        · rw [decide_eq_true hd]
          have hD : dirOk s := fun x => absurd hd x
          exact key (decide (lenOk s)) (decide_eq_decide.2 ⟨fun x => ⟨hT, hD, x⟩, fun x => x.2.2⟩)
        · rw [decide_eq_false hd]
          by_cases hi : inB s s.Dir
          · rw [decide_eq_true hi]
            exact key (decide (lenOk s)) (decide_eq_decide.2 ⟨fun x => ⟨hT, fun _ => hi, x⟩, fun x => x.2.2⟩)
          · rw [decide_eq_false hi]
            exact key false (decide_eq_false (fun x => hi (x.2.1 hd))).symm
      · rw [decide_eq_false ht]
        exact key false (decide_eq_false (fun x => ht (x.1.1 h0))).symm
    · have h1 : s.Tickets.High > 0 := by omega
      rw [decide_eq_false h0, decide_eq_true h1]
      by_cases ht : inB s s.Tickets.Top
      · rw [decide_eq_true ht]
        have hT : topOk s := ⟨fun x => absurd x h0, fun _ => ht⟩
        by_cases hd : s.Dir = 0
        · rw [decide_eq_true hd]
          have hD : dirOk s := fun x => absurd hd x
          exact key (decide (lenOk s)) (decide_eq_decide.2 ⟨fun x => ⟨hT, hD, x⟩, fun x => x.2.2⟩)
        · rw [decide_eq_false hd]
          by_cases hi : inB s s.Dir
          · rw [decide_eq_true hi]
            exact key (decide (lenOk s)) (decide_eq_decide.2 ⟨fun x => ⟨hT, fun _ => hi, x⟩, fun x => x.2.2⟩)
          · rw [decide_eq_false hi]
            exact key false (decide_eq_false (fun x => hi (x.2.1 hd))).symm
      · rw [decide_eq_false ht]
        exact key false (decide_eq_false (fun x => ht (x.1.2 h0))).symm
  · rw [decide_eq_false hAB, decide_eq_false (fun x : SupOk s => hAB ⟨x.1, x.2.1⟩)]
    rfl
end Go.Proofs.Ytjhajfkfhdnciaa.Pure

/- Superblocks in plain words: what the document answers; octets. -/
set_option linter.unusedVariables false
set_option linter.unusedSimpArgs false
namespace Go.Proofs.Ytjhajfkfhdnciaa.Pure
open Go Go.Xw
def needL (s : S_api_Super) : List Int := (if s.Tickets.High = 0 then [] else [s.Tickets.Top]) ++ (if s.Dir = 0 then [] else [s.Dir])
theorem needL_len (s : S_api_Super) : (needL s).length ≤ 2 := by
  unfold needL
  split <;> split <;> simp
theorem mem_ix {l : List Int} {p : Int → Prop} : (∀ x ∈ l, p x) ↔ ∀ j, j < l.length → p (ix l (j : Int)) := by
  constructor
  · intro h j hj
    rw [ix_nat hj]
    exact h _ (List.getElem_mem hj)
  · intro h x hx
    obtain ⟨j, hj, rfl⟩ := List.getElem_of_mem hx
    have := h j hj
    rwa [ix_nat hj] at this
theorem rs2_eq {fu : Nat} {s : S_api_Super} {nd : List Int} {j : Nat} (hj : j < s.Charts.length) (hl : s.Charts.length ≤ 50) (hf : 100 < fu) : loopM (rickyardref13_Right.s2 fu s (nd, (j : Int))) fu 0 = some (if ix s.Charts (j : Int) ∉ s.Charts.take j then .inr () else .inl (.inl (.inl false))) := by
  have hs : ∀ i : Nat, i < j → rickyardref13_Right.s2 fu s (nd, (j : Int)) (i : Int) = some (if ix s.Charts (i : Int) ≠ ix s.Charts (j : Int) then .inr ((i + 1 : Nat) : Int) else .inl (.inl (.inl (.inl false)))) := by
    intro i hi
    unfold rickyardref13_Right.s2
    have h1 : (i : Int) < (j : Int) := by omega
    have h2 : (i : Int) < (s.Charts.length : Int) := by omega
    have h3 : (j : Int) < (s.Charts.length : Int) := by omega
    have c0 : 0 ≤ (i : Int) := by omega
    have c1 : 0 ≤ (j : Int) := by omega
    have w3 : IntKind.i64.wrap ((i : Int) + 1) = ((i + 1 : Nat) : Int) := by rw [w64 (by omega) (by omega)]; omega
    simp only [h1, h2, h3, c0, c1, and_self, decide_true, if_true, w3]
    by_cases e : ix s.Charts (i : Int) = ix s.Charts (j : Int) <;> simp [e]
  have hmem : ix s.Charts (j : Int) ∉ s.Charts.take j ↔ ∀ i, i < j → ix s.Charts (i : Int) ≠ ix s.Charts (j : Int) := by
    constructor
    · intro h i hi e
      apply h
      rw [← e, ix_nat (show i < s.Charts.length by omega)]
      exact List.mem_take_iff_getElem.2 ⟨i, by omega, rfl⟩
    · intro h hm
      obtain ⟨i, hi, he⟩ := List.mem_take_iff_getElem.1 hm
      exact h i (by omega) (by rw [ix_nat (show i < s.Charts.length by omega)]; exact he)
  by_cases h : ix s.Charts (j : Int) ∉ s.Charts.take j
  · rw [if_pos h]
    refine loopM_run (S := fun i => (i : Int)) j rfl (fun i hi => by rw [hs i hi, if_pos (hmem.1 h i hi)]) ?_ (by omega)
    unfold rickyardref13_Right.s2
    simp
  · rw [if_neg h]
    refine loopM_bad (S := fun i => (i : Int)) j (fun i => ix s.Charts (i : Int) ≠ ix s.Charts (j : Int)) rfl ?_ (fun i hi _ hg => by rw [hs i hi, if_pos hg]) (fun i hi _ hg => by rw [hs i hi, if_neg hg]) (by omega)
    apply Classical.byContradiction
    intro hx
    exact h (hmem.2 fun i hi => Classical.byContradiction fun hg => hx ⟨i, hi, hg⟩)
theorem rs1_eq {fu : Nat} {s : S_api_Super} (hl : s.Charts.length ≤ 50) (hf : 100 < fu) : loopM (rickyardref13_Right.s1 fu s) fu (needL s, 0) = some (if apartC s.Charts then .inr (needL s ++ s.Charts) else .inl false) := by
  have hn := needL_len s
  have hs : ∀ j : Nat, j < s.Charts.length → rickyardref13_Right.s1 fu s (needL s ++ s.Charts.take j, (j : Int)) = some (if ix s.Charts (j : Int) ∉ s.Charts.take j then .inr (needL s ++ s.Charts.take (j + 1), ((j + 1 : Nat) : Int)) else .inl (.inl false)) := by
    intro j hj
    unfold rickyardref13_Right.s1
    have h2 : (j : Int) < (s.Charts.length : Int) := by omega
    have c0 : 0 ≤ (j : Int) := by omega
    have w3 : IntKind.i64.wrap ((j : Int) + 1) = ((j + 1 : Nat) : Int) := by rw [w64 (by omega) (by omega)]; omega
    have hlim : (needL s ++ s.Charts.take j).length + ([ix s.Charts (j : Int)] : List Int).length ≤ LIM := lim_of' (by rw [List.length_append, List.length_take]; simp; omega)
    have e : needL s ++ s.Charts.take (j + 1) = needL s ++ s.Charts.take j ++ [ix s.Charts (j : Int)] := by
      rw [List.take_add_one, List.getElem?_eq_getElem hj, ix_nat hj, List.append_assoc]
      rfl
    simp only [h2, c0, and_self, decide_true, if_true, w3, hlim, rs2_eq hj hl hf, e]
    by_cases g : ix s.Charts (j : Int) ∉ s.Charts.take j
    · rw [if_pos g, if_pos g]
      rfl
    · rw [if_neg g, if_neg g]
      rfl
  by_cases h : apartC s.Charts
  · rw [if_pos h]
    refine loopM_run (S := fun j => (needL s ++ s.Charts.take j, (j : Int))) s.Charts.length (by simp) (fun j hj => by rw [hs j hj, if_pos (h j hj)]) ?_ (by omega)
    unfold rickyardref13_Right.s1
    simp
  · rw [if_neg h]
    refine loopM_bad (S := fun j => (needL s ++ s.Charts.take j, (j : Int))) s.Charts.length (fun j => ix s.Charts (j : Int) ∉ s.Charts.take j) (by simp) ?_ (fun j hj _ hg => by rw [hs j hj, if_pos hg]) (fun j hj _ hg => by rw [hs j hj, if_neg hg]) (by omega)
    apply Classical.byContradiction
    intro hx
    exact h fun i hi => Classical.byContradiction fun hg => hx ⟨i, hi, hg⟩
theorem rs3_eq {fu : Nat} {s : S_api_Super} {l : List Int} (hl : l.length ≤ 60) (hf : 100 < fu) : loopM (rickyardref13_Right.s3 fu s l) fu 0 = some (if ∀ j, j < l.length → inB s (ix l (j : Int)) then .inr () else .inl false) := by
  have hs : ∀ j : Nat, j < l.length → rickyardref13_Right.s3 fu s l (j : Int) = some (if inB s (ix l (j : Int)) then .inr ((j + 1 : Nat) : Int) else .inl (.inl false)) := by
    intro j hj
    unfold rickyardref13_Right.s3
    have h2 : (j : Int) < (l.length : Int) := by omega
    have c0 : 0 ≤ (j : Int) := by omega
    have w3 : IntKind.i64.wrap ((j : Int) + 1) = ((j + 1 : Nat) : Int) := by rw [w64 (by omega) (by omega)]; omega
    simp only [h2, c0, and_self, decide_true, if_true, w3]
    by_cases g1 : ix l (j : Int) < 2
    · have g : ¬ inB s (ix l (j : Int)) := fun x => by unfold inB at x; omega
      rw [decide_eq_true g1, if_neg g]
      rfl
    · by_cases g2 : ix l (j : Int) ≥ s.Tickets.Geometry.Blocks
      · have g : ¬ inB s (ix l (j : Int)) := fun x => by unfold inB at x; omega
        rw [decide_eq_false g1, decide_eq_true g2, if_neg g]
        rfl
      · have g : inB s (ix l (j : Int)) := ⟨by omega, by omega⟩
        rw [decide_eq_false g1, decide_eq_false g2, if_pos g]
        rfl
  by_cases h : ∀ j, j < l.length → inB s (ix l (j : Int))
  · rw [if_pos h]
    refine loopM_run (S := fun j => (j : Int)) l.length rfl (fun j hj => by rw [hs j hj, if_pos (h j hj)]) ?_ (by omega)
    unfold rickyardref13_Right.s3
    simp
  · rw [if_neg h]
    refine loopM_bad (S := fun j => (j : Int)) l.length (fun j => inB s (ix l (j : Int))) rfl ?_ (fun j hj _ hg => by rw [hs j hj, if_pos hg]) (fun j hj _ hg => by rw [hs j hj, if_neg hg]) (by omega)
    apply Classical.byContradiction
    intro hx
    exact h fun i hi => Classical.byContradiction fun hg => hx ⟨i, hi, hg⟩
theorem rsuperRight_eq {fu : Nat} {s : S_api_Super} (hf : 100 < fu) : rickyardref13_Right.f fu s = some (decide (SupOk s)) := by
  unfold rickyardref13_Right.f
  rw [rgeom_eq]
  by_cases hA : supA s
  · have hA' := hA
    unfold supA at hA'
    have hg := hA.2
    have hg' := hg
    unfold geoOk at hg'
    have c1 : ¬ s.Epoch < 1 := by omega
    have c2 : ¬ s.Epoch > 4611686018427387904 := by omega
    rw [decide_eq_false c1, decide_eq_false c2, decide_eq_true hg, rcharts_eq hg hf]
    simp only [Bool.false_eq_true, if_false, Option.bind_some, Bool.not_true]
    by_cases hB : supB s
    · have hB' := hB
      unfold supB at hB'
      have c3 : ¬ s.Tickets.High < 0 := by omega
      have c4 : ¬ s.Tickets.High > s.Tickets.Geometry.Slots := by omega
      have c5 : ¬ s.Tickets.Free < 0 := by omega
      have c6 : ¬ s.Tickets.Free > s.Tickets.High := by omega
      rw [decide_eq_false c3, decide_eq_false c4, decide_eq_false c5, decide_eq_false c6]
      simp only [Bool.false_eq_true, if_false, Option.bind_some]
      by_cases hL : (s.Charts.length : Int) = chartsN s.Tickets.Geometry
      · rw [decide_eq_true hL]
        simp only [Bool.not_true, Bool.false_eq_true, if_false]
        have hlen : s.Charts.length ≤ 50 := by unfold chartsN at hL; omega
        have hn := needL_len s
        have fin : (((loopM (rickyardref13_Right.s1 fu s) fu (needL s, 0)).bind fun e99 => match e99 with | Sum.inl p => some p | Sum.inr x102 => ((loopM (rickyardref13_Right.s3 fu s x102) fu (0)).bind fun e150 => match e150 with | Sum.inl p => some p | Sum.inr x153 => some (true)))) = some (decide (apartC s.Charts ∧ ∀ x ∈ needL s ++ s.Charts, inB s x)) := by
          rw [rs1_eq hlen hf]
          by_cases ha : apartC s.Charts
          · rw [if_pos ha]
            simp only [Option.bind_some]
            rw [rs3_eq (by rw [List.length_append]; omega) hf]
            by_cases hi : ∀ j, j < (needL s ++ s.Charts).length → inB s (ix (needL s ++ s.Charts) (j : Int))
            · rw [if_pos hi, decide_eq_true (⟨ha, mem_ix.2 hi⟩ : apartC s.Charts ∧ ∀ x ∈ needL s ++ s.Charts, inB s x)]
              rfl
            · rw [if_neg hi, decide_eq_false (fun x : apartC s.Charts ∧ ∀ x ∈ needL s ++ s.Charts, inB s x => hi (mem_ix.1 x.2))]
              rfl
          · rw [if_neg ha, decide_eq_false (fun x : apartC s.Charts ∧ ∀ x ∈ needL s ++ s.Charts, inB s x => ha x.1)]
            rfl
        have same : (s.Tickets.High = 0 → s.Tickets.Top = 0) → (decide (apartC s.Charts ∧ ∀ x ∈ needL s ++ s.Charts, inB s x)) = decide (SupOk s) := by
          intro ht
          apply decide_eq_decide.2
          constructor
          · rintro ⟨ha, hi⟩
            refine ⟨hA, hB, ⟨ht, fun hh => hi _ ?_⟩, fun hd => hi _ ?_, hL, mem_ix.1 fun x hx => hi x (List.mem_append_right _ hx), ha⟩
            · apply List.mem_append_left
              unfold needL
              rw [if_neg hh]
              simp
            · apply List.mem_append_left
              unfold needL
              rw [if_neg hd]
              simp
          · intro h
            refine ⟨h.2.2.2.2.2.2, fun x hx => ?_⟩
            rcases List.mem_append.1 hx with hx | hx
            · unfold needL at hx
              rcases List.mem_append.1 hx with hx | hx
              · by_cases h0 : s.Tickets.High = 0
                · rw [if_pos h0] at hx
                  simp at hx
                · rw [if_neg h0] at hx
                  rw [List.mem_singleton.1 hx]
                  exact h.2.2.1.2 h0
              · by_cases h0 : s.Dir = 0
                · rw [if_pos h0] at hx
                  simp at hx
                · rw [if_neg h0] at hx
                  rw [List.mem_singleton.1 hx]
                  exact h.2.2.2.1 h0
            · exact mem_ix.2 h.2.2.2.2.2.1 x hx
        have l1 : ([] : List Int).length + ([s.Tickets.Top] : List Int).length ≤ LIM := lim_of' (by simp)
        by_cases h0 : s.Tickets.High = 0
        · rw [decide_eq_true h0]
          simp only [if_true]
          by_cases ht : s.Tickets.Top = 0
          · rw [decide_eq_true ht]
            simp only [Bool.not_true, Bool.false_eq_true, if_false, Option.bind_some]
            have hsame := same (fun _ => ht)
            by_cases hd : s.Dir = 0
            · rw [decide_eq_true hd]
              have hneed : needL s = [] := by unfold needL; rw [if_pos h0, if_pos hd]; rfl
              rw [← hsame, ← fin, hneed]
              rfl
            · rw [decide_eq_false hd]
              have hneed : needL s = [] ++ [s.Dir] := by unfold needL; rw [if_pos h0, if_neg hd]
              have l2 : ([] : List Int).length + ([s.Dir] : List Int).length ≤ LIM := lim_of' (by simp)
              rw [← hsame, ← fin, hneed]
              simp only [Bool.not_false, if_true, if_pos l2, Option.bind_some]
              rfl
          · rw [decide_eq_false ht]
            have : ¬ SupOk s := fun x => ht (x.2.2.1.1 h0)
            rw [decide_eq_false this]
            rfl
        · rw [decide_eq_false h0]
          simp only [Bool.false_eq_true, if_false, if_pos l1, Option.bind_some]
          have hsame := same (fun x => absurd x h0)
          by_cases hd : s.Dir = 0
          · rw [decide_eq_true hd]
            have hneed : needL s = [] ++ [s.Tickets.Top] := by unfold needL; rw [if_neg h0, if_pos hd]; rfl
            rw [← hsame, ← fin, hneed]
            rfl
          · rw [decide_eq_false hd]
            have hneed : needL s = [] ++ [s.Tickets.Top] ++ [s.Dir] := by unfold needL; rw [if_neg h0, if_neg hd]; rfl
            have l2 : ([] ++ [s.Tickets.Top] : List Int).length + ([s.Dir] : List Int).length ≤ LIM := lim_of' (by simp)
            rw [← hsame, ← fin, hneed]
            simp only [Bool.not_false, if_true, if_pos l2, Option.bind_some]
            rfl
      · rw [decide_eq_false hL, decide_eq_false (fun x : SupOk s => hL x.2.2.2.2.1)]
        rfl
    · rw [decide_eq_false (fun x : SupOk s => hB x.2.1)]
      unfold supB at hB
      by_cases c3 : s.Tickets.High < 0
      · rw [decide_eq_true c3]
        rfl
      · by_cases c4 : s.Tickets.High > s.Tickets.Geometry.Slots
        · rw [decide_eq_false c3, decide_eq_true c4]
          rfl
        · by_cases c5 : s.Tickets.Free < 0
          · rw [decide_eq_false c3, decide_eq_false c4, decide_eq_true c5]
            rfl
          · have c6 : s.Tickets.Free > s.Tickets.High := by omega
            rw [decide_eq_false c3, decide_eq_false c4, decide_eq_false c5, decide_eq_true c6]
            rfl
  · rw [decide_eq_false (fun x : SupOk s => hA x.1)]
    unfold supA at hA
    by_cases c1 : s.Epoch < 1
    · rw [decide_eq_true c1]
      rfl
    · by_cases c2 : s.Epoch > 4611686018427387904
      · rw [decide_eq_false c1, decide_eq_true c2]
        rfl
      · have c3 : ¬ geoOk s.Tickets.Geometry := fun x => hA ⟨by omega, x⟩
        rw [decide_eq_false c1, decide_eq_false c2, decide_eq_false c3]
        rfl
/-! ### Octets -/
def supH (s : S_api_Super) : List Int := lay (u64n s.Epoch) 8 ++ (lay (u64n s.Tickets.Geometry.Blocks) 4 ++ (lay (u64n s.Tickets.Geometry.Slots) 4 ++ (lay (u64n s.Tickets.Geometry.Gens) 4 ++ (lay (u64n s.Tickets.High) 4 ++ (lay (u64n s.Tickets.Free) 4 ++ (lay (u64n s.Tickets.Top) 2 ++ lay (u64n s.Dir) 2))))))
theorem supH_len (s : S_api_Super) : (supH s).length = 32 := by simp [supH, lay_len]
theorem supH_bytes (s : S_api_Super) : Bytes (supH s) := (lay_bytes _ _).app ((lay_bytes _ _).app ((lay_bytes _ _).app ((lay_bytes _ _).app ((lay_bytes _ _).app ((lay_bytes _ _).app ((lay_bytes _ _).app (lay_bytes _ _)))))))
def supE (s : S_api_Super) : List Int := supH s ++ rowE s.Charts s.Charts.length
theorem supE_len (s : S_api_Super) : (supE s).length = 32 + 2 * s.Charts.length := by simp [supE, supH_len, rowE_len]
theorem supE_bytes (s : S_api_Super) : Bytes (supE s) := (supH_bytes _).app (rowE_bytes _ _)
theorem octets1_eq {fu : Nat} {x : Int} (hf : 100 < fu) : octet_Octets.f fu [(IntKind.u64.wrap x)] = some (lay (u64n x) 8) := by
  unfold octet_Octets.f
  have hl : ∀ z : Int, octet_Lay.f fu (IntKind.u64.wrap z) 8 = some (lay (u64n z) 8) := fun z => olay64 (n := 8) (by decide) (by omega)
  have : loopM (octet_Octets.s0 fu [(IntKind.u64.wrap x)]) fu ([], 0) = some (lay (u64n x) 8) := by
    refine loopM_run (S := fun j => (if j = 0 then [] else lay (u64n x) 8, (j : Int))) 1 rfl ?_ ?_ (by omega)
    · intro j hj
      obtain rfl : j = 0 := by omega
      unfold octet_Octets.s0
      have l0 : (0 : Nat) + 8 ≤ LIM := lim_of' (by decide)
      simp [hl, ix, lay_len, w64, l0]
    · unfold octet_Octets.s0
      simp
  rw [this]
  rfl
def five (s : S_api_Super) (i : Nat) : Int := if i = 0 then s.Tickets.Geometry.Blocks else if i = 1 then s.Tickets.Geometry.Slots else if i = 2 then s.Tickets.Geometry.Gens else if i = 3 then s.Tickets.High else s.Tickets.Free
theorem superPut_eq {fu : Nat} {s : S_api_Super} (hf : 100 < fu) : super_Put.f fu s = some (if SupOk s then (sealed (summed 7 (s.Charts.length : Int) (supE s)), true) else ([], false)) := by
  unfold super_Put.f
  rw [superRight_eq hf]
  by_cases h : SupOk s
  · have k1 := h.len
    have hl4 : ∀ z : Int, octet_Lay.f fu (IntKind.u64.wrap z) 4 = some (lay (u64n z) 4) := fun z => olay64 (n := 4) (by decide) (by omega)
    have hl2 : ∀ z : Int, octet_Lay.f fu (IntKind.u64.wrap z) 2 = some (lay (u64n z) 2) := fun z => olay64 (n := 2) (by decide) (by omega)
    have hg : ∀ j : Nat, j < 5 → Arr.get (Arr.set (Arr.set (Arr.set (Arr.set (Arr.set (Arr.rep 5 (0 : Int)) 0 s.Tickets.Geometry.Blocks) 1 s.Tickets.Geometry.Slots) 2 s.Tickets.Geometry.Gens) 3 s.Tickets.High) 4 s.Tickets.Free) (j : Int) = five s j := by
      intro j hj
      have : j = 0 ∨ j = 1 ∨ j = 2 ∨ j = 3 ∨ j = 4 := by omega
      rcases this with rfl | rfl | rfl | rfl | rfl <;> rfl
    obtain ⟨A, hA⟩ : ∃ A, A = Arr.set (Arr.set (Arr.set (Arr.set (Arr.set (Arr.rep 5 (0 : Int)) 0 s.Tickets.Geometry.Blocks) 1 s.Tickets.Geometry.Slots) 2 s.Tickets.Geometry.Gens) 3 s.Tickets.High) 4 s.Tickets.Free := ⟨_, rfl⟩
    rw [← hA] at hg
    have loop0 : loopM (super_Put.s0 fu s) fu (lay (u64n s.Epoch) 8, 0) = some (lay (u64n s.Epoch) 8 ++ (List.range 5).flatMap fun i => lay (u64n (five s i)) 4) := by
      refine loopM_run (S := fun j => (lay (u64n s.Epoch) 8 ++ (List.range j).flatMap fun i => lay (u64n (five s i)) 4, (j : Int))) 5 (by simp) ?_ ?_ (by omega)
      · intro j hj
        unfold super_Put.s0
        rw [← hA]
        have h1 : (j : Int) < 5 := by omega
        have w3 : IntKind.i64.wrap ((j : Int) + 1) = ((j + 1 : Nat) : Int) := by rw [w64 (by omega) (by omega)]; omega
        have hfl : ((List.range j).flatMap fun i => lay (u64n (five s i)) 4).length = 4 * j := flat_len (fun i => lay_len _ _) j
        have hlim : (lay (u64n s.Epoch) 8 ++ (List.range j).flatMap fun i => lay (u64n (five s i)) 4).length + (lay (u64n (five s j)) 4).length ≤ LIM := lim_of' (by rw [List.length_append, hfl, lay_len, lay_len]; omega)
        simp only [h1, decide_true, if_true, w3, hg j hj, hl4, Option.bind_some]
        rw [if_pos ⟨by omega, trivial⟩, if_pos hlim, flat_succ, List.append_assoc]
      · unfold super_Put.s0
        simp
    have eH : lay (u64n s.Epoch) 8 ++ ((List.range 5).flatMap fun i => lay (u64n (five s i)) 4) ++ rowE ([s.Tickets.Top, s.Dir] ++ s.Charts) (2 + s.Charts.length) = supE s := by
      have e1 : rowE ([s.Tickets.Top, s.Dir] ++ s.Charts) (2 + s.Charts.length) = lay (u64n s.Tickets.Top) 2 ++ (lay (u64n s.Dir) 2 ++ rowE s.Charts s.Charts.length) := by
        unfold rowE
        rw [List.range_add, List.flatMap_append]
        have e0 : (List.range 2).flatMap (fun (i : Nat) => lay (u64n (ix ([s.Tickets.Top, s.Dir] ++ s.Charts) (i : Int))) 2) = lay (u64n s.Tickets.Top) 2 ++ lay (u64n s.Dir) 2 := by
          show lay _ 2 ++ (lay _ 2 ++ []) = _
          rw [List.append_nil]
          rfl
        rw [e0, List.append_assoc]
        congr 2
        rw [List.flatMap_map]
        apply flat_congr
        intro i hi
        congr 2
        unfold ix
        rw [Int.toNat_natCast, Int.toNat_natCast, List.getD_eq_getElem?_getD, List.getD_eq_getElem?_getD, List.getElem?_append_right (by simp)]
        congr 2
        simp
      rw [e1]
      have e2 : (List.range 5).flatMap (fun i => lay (u64n (five s i)) 4) = lay (u64n s.Tickets.Geometry.Blocks) 4 ++ (lay (u64n s.Tickets.Geometry.Slots) 4 ++ (lay (u64n s.Tickets.Geometry.Gens) 4 ++ (lay (u64n s.Tickets.High) 4 ++ lay (u64n s.Tickets.Free) 4))) := by
        show lay _ 4 ++ (lay _ 4 ++ (lay _ 4 ++ (lay _ 4 ++ (lay _ 4 ++ [])))) = _
        rw [List.append_nil]
        rfl
      rw [e2]
      unfold supE supH
      simp only [List.append_assoc]
    have hlen2 : ([s.Tickets.Top, s.Dir] ++ s.Charts).length = 2 + s.Charts.length := by simp; omega
    have h5 : (lay (u64n s.Epoch) 8 ++ (List.range 5).flatMap fun i => lay (u64n (five s i)) 4).length = 28 := by
      rw [List.length_append, lay_len, flat_len (w := 4) (fun i => lay_len _ _)]
    have loop1 : loopM (super_Put.s1 fu s) fu (lay (u64n s.Epoch) 8 ++ (List.range 5).flatMap fun i => lay (u64n (five s i)) 4, 0) = some (supE s) := by
      refine loopM_run (S := fun j => (lay (u64n s.Epoch) 8 ++ ((List.range 5).flatMap fun i => lay (u64n (five s i)) 4) ++ rowE ([s.Tickets.Top, s.Dir] ++ s.Charts) j, (j : Int))) (2 + s.Charts.length) (by simp [rowE]) ?_ ?_ (by omega)
      · intro j hj
        unfold super_Put.s1
        have h1 : (j : Int) < (([s.Tickets.Top, s.Dir] ++ s.Charts).length : Int) := by omega
        have c0 : 0 ≤ (j : Int) := by omega
        have w3 : IntKind.i64.wrap ((j : Int) + 1) = ((j + 1 : Nat) : Int) := by rw [w64 (by omega) (by omega)]; omega
        have hlim : (lay (u64n s.Epoch) 8 ++ ((List.range 5).flatMap fun i => lay (u64n (five s i)) 4) ++ rowE ([s.Tickets.Top, s.Dir] ++ s.Charts) j).length + (lay (u64n (ix ([s.Tickets.Top, s.Dir] ++ s.Charts) (j : Int))) 2).length ≤ LIM := lim_of' (by rw [List.length_append, h5, rowE_len, lay_len]; omega)
        simp only [h1, c0, and_self, decide_true, if_true, w3, hl2, Option.bind_some]
        rw [if_pos hlim, List.append_assoc]
        congr 4
        rw [rowE, rowE, flat_succ]
      · unfold super_Put.s1
        rw [hlen2, eH]
        simp
    have hlim3 : ([s.Tickets.Top, s.Dir] : List Int).length + s.Charts.length ≤ LIM := lim_of' (by simp; omega)
    have hs := seal_eq (fu := fu) (k := 7) (t := (s.Charts.length : Int)) (supE_bytes s) (by omega) (by omega) (by rw [supE_len]; omega) hf
    simp only [h, decide_true, Bool.not_true, Bool.false_eq_true, if_false, octets1_eq hf, Option.bind_some, loop0, if_pos hlim3, loop1, hs, if_true]
  · simp [h]
theorem rsuperPut_eq {fu : Nat} {s : S_api_Super} (hk : s.Charts.length ≤ 8) (hf : 100 < fu) : rickyardref13_Put.f fu s = some ((sealed (summed 7 (s.Charts.length : Int) (supE s))).map toB) := by
  unfold rickyardref13_Put.f
  have hl8 : ∀ z : Int, rickyardref01_Lay.f fu (IntKind.u64.wrap z) 8 = some ((lay (u64n z) 8).map toB) := fun z => rlay64 (n := 8) (by decide) (by omega)
  have hl4 : ∀ z : Int, rickyardref01_Lay.f fu (IntKind.u64.wrap z) 4 = some ((lay (u64n z) 4).map toB) := fun z => rlay64 (n := 4) (by decide) (by omega)
  have hl2 : ∀ z : Int, rickyardref01_Lay.f fu (IntKind.u64.wrap z) 2 = some ((lay (u64n z) 2).map toB) := fun z => rlay64 (n := 2) (by decide) (by omega)
  have e0 : (lay (u64n s.Epoch) 8).map toB ++ (lay (u64n s.Tickets.Geometry.Blocks) 4).map toB ++ (lay (u64n s.Tickets.Geometry.Slots) 4).map toB ++ (lay (u64n s.Tickets.Geometry.Gens) 4).map toB ++ (lay (u64n s.Tickets.High) 4).map toB ++ (lay (u64n s.Tickets.Free) 4).map toB ++ (lay (u64n s.Tickets.Top) 2).map toB ++ (lay (u64n s.Dir) 2).map toB = (supH s).map toB := by simp [supH]
  have lm : ∀ v n, ((lay v n).map toB).length = n := fun v n => by rw [List.length_map, lay_len]
  have lim : ∀ {a : List UInt8} {b : List UInt8}, a.length + b.length ≤ 1000 → a.length + b.length ≤ LIM := fun h => lim_of' h
  have hloop : loopM (rickyardref13_Put.s0 fu s) fu ((supH s).map toB, 0) = some ((supE s).map toB) := by
    refine loopM_run (S := fun j => ((supH s ++ rowE s.Charts j).map toB, (j : Int))) s.Charts.length (by simp [rowE]) ?_ ?_ (by omega)
    · intro j hj
      unfold rickyardref13_Put.s0
      have h1 : (j : Int) < (s.Charts.length : Int) := by omega
      have c0 : 0 ≤ (j : Int) := by omega
      have w3 : IntKind.i64.wrap ((j : Int) + 1) = ((j + 1 : Nat) : Int) := by rw [w64 (by omega) (by omega)]; omega
      have hlim : ((supH s ++ rowE s.Charts j).map toB).length + ((lay (u64n (ix s.Charts (j : Int))) 2).map toB).length ≤ LIM := lim_of' (by rw [List.length_map, List.length_map, List.length_append, supH_len, rowE_len, lay_len]; omega)
      simp only [h1, c0, and_self, decide_true, if_true, w3, hl2, Option.bind_some, hlim]
      rw [← List.map_append, List.append_assoc]
      congr 5
      rw [rowE, rowE, flat_succ]
    · unfold rickyardref13_Put.s0
      simp [supE]
  have hs := rseal_eq (fu := fu) (k := 7) (t := (s.Charts.length : Int)) (supE_bytes s) (by omega) (by omega) (by rw [supE_len]; omega) hf
  simp only [hl8, hl4, hl2, Option.bind_some]
  rw [if_pos (lim (by simp only [List.length_append, lm]; decide)), if_pos (lim (by simp only [List.length_append, lm]; decide)), if_pos (lim (by simp only [List.length_append, lm]; decide)), if_pos (lim (by simp only [List.length_append, lm]; decide)), if_pos (lim (by simp only [List.length_append, lm]; decide)), if_pos (lim (by simp only [List.length_append, lm]; decide)), if_pos (lim (by simp only [List.length_append, lm]; decide)), e0, hloop, Option.bind_some, hs]
  rfl
end Go.Proofs.Ytjhajfkfhdnciaa.Pure

/- Superblocks in plain words: what octets tell. -/
set_option linter.unusedVariables false
set_option linter.unusedSimpArgs false
namespace Go.Proofs.Ytjhajfkfhdnciaa.Pure
open Go Go.Xw
theorem part_drop (l : List Int) (i n : Nat) : part (l.drop i) 0 n = part l i n := by
  unfold part
  rw [List.drop_zero]
theorem intAt_drop (l : List Int) (i n : Nat) : intAt (l.drop i) 0 n = intAt l i n := by
  unfold intAt
  rw [part_drop]
theorem next_eq {fu : Nat} {b : List Int} {i n : Nat} (hb : Bytes b) (h : i + n ≤ b.length) (hn : n ≤ 8) (hf : 100 < fu) : super_reader_next.f fu ⟨b.drop i⟩ (n : Int) = some (intAt b i n, ⟨b.drop (i + n)⟩) := by
  unfold super_reader_next.f
  have hl : (b.drop i).length = b.length - i := List.length_drop
  have c1 : 0 ≤ (n : Int) ∧ (n : Int) ≤ ((b.drop i).length : Int) := by omega
  have e0 : cut (b.drop i) 0 (n : Int) = part b i n := by unfold cut part; simp
  have e1 : cut (b.drop i) (n : Int) ((b.drop i).length : Int) = b.drop (i + n) := by
    unfold cut
    rw [Int.toNat_natCast, Int.toNat_natCast, List.take_length, List.drop_drop]
  have hr : octet_Read.f fu (part b i n) = some ((num (part b i n) : Nat) : Int) := read_eq (part_bytes hb i n) (by rw [part_len h]; exact hn) (by rw [part_len h]; omega)
  simp only [if_pos c1, e0, e1, hr, Option.bind_some]
  rfl
def chartsOf (body : List Int) (t : Nat) : List Int := (List.range t).map fun i => intAt body (32 + 2 * i) 2
def supOf (body : List Int) (t : Nat) : S_api_Super := ⟨intAt body 0 8, ⟨⟨intAt body 8 4, intAt body 12 4, intAt body 16 4⟩, intAt body 28 2, intAt body 20 4, intAt body 24 4⟩, intAt body 30 2, chartsOf body t⟩
theorem supE_of {body : List Int} (hb : Bytes body) {t : Nat} (h : 32 + 2 * t ≤ body.length) : supE (supOf body t) = body.take (32 + 2 * t) := by
  have e1 : rowE (chartsOf body t) t = (body.drop 32).take (2 * t) := by
    rw [← field_flat (w := 2) t (by rw [List.length_drop]; omega)]
    apply flat_congr
    intro i hi
    unfold chartsOf
    rw [ix_map hi, lay_part hb (by omega) (by decide)]
    unfold part fieldAt
    rw [List.drop_drop]
  have hk : (chartsOf body t).length = t := by simp [chartsOf]
  have e2 : supH (supOf body t) = body.take 32 := by
    unfold supH supOf
    simp only
    rw [lay_part hb (by omega) (by decide), lay_part hb (by omega) (by decide), lay_part hb (by omega) (by decide), lay_part hb (by omega) (by decide), lay_part hb (by omega) (by decide), lay_part hb (by omega) (by decide), lay_part hb (by omega) (by decide), lay_part hb (by omega) (by decide)]
    unfold part
    rw [show (32 : Nat) = 0 + 8 + 4 + 4 + 4 + 4 + 4 + 2 + 2 from rfl, List.take_add, List.take_add, List.take_add, List.take_add, List.take_add, List.take_add, List.take_add, List.take_add]
    simp
  unfold supE
  have hk2 : (supOf body t).Charts = chartsOf body t := rfl
  rw [hk2, hk, e1, e2, List.take_add]
theorem supOf_E {s : S_api_Super} (h : SupOk s) (t : List Int) : supOf (supE s ++ t) s.Charts.length = s := by
  have hlen := h.len
  have hA := h.1
  have hB := h.2.1
  have hT := h.2.2.1
  have hD := h.2.2.2.1
  have hI := h.2.2.2.2.2.1
  unfold supA geoOk at hA
  unfold supB at hB
  have hTop : 0 ≤ s.Tickets.Top ∧ s.Tickets.Top ≤ 3072 := by
    by_cases h0 : s.Tickets.High = 0
    · have := hT.1 h0
      omega
    · have := hT.2 h0
      unfold inB at this
      omega
  have hDir : 0 ≤ s.Dir ∧ s.Dir ≤ 3072 := by
    by_cases h0 : s.Dir = 0
    · omega
    · have := hD h0
      unfold inB at this
      omega
  obtain ⟨R, hR⟩ : ∃ R, R = rowE s.Charts s.Charts.length ++ t := ⟨_, rfl⟩
  have e : supE s ++ t = lay (u64n s.Epoch) 8 ++ (lay (u64n s.Tickets.Geometry.Blocks) 4 ++ (lay (u64n s.Tickets.Geometry.Slots) 4 ++ (lay (u64n s.Tickets.Geometry.Gens) 4 ++ (lay (u64n s.Tickets.High) 4 ++ (lay (u64n s.Tickets.Free) 4 ++ (lay (u64n s.Tickets.Top) 2 ++ (lay (u64n s.Dir) 2 ++ R))))))) := by
    rw [hR]
    simp [supE, supH]
  have l8 : ∀ v, (lay v 8).length = 8 := fun v => lay_len v 8
  have l4 : ∀ v, (lay v 4).length = 4 := fun v => lay_len v 4
  have l2 : ∀ v, (lay v 2).length = 2 := fun v => lay_len v 2
  have d8 : (supE s ++ t).drop 8 = (lay (u64n s.Tickets.Geometry.Blocks) 4 ++ (lay (u64n s.Tickets.Geometry.Slots) 4 ++ (lay (u64n s.Tickets.Geometry.Gens) 4 ++ (lay (u64n s.Tickets.High) 4 ++ (lay (u64n s.Tickets.Free) 4 ++ (lay (u64n s.Tickets.Top) 2 ++ (lay (u64n s.Dir) 2 ++ R))))))) := by rw [e, List.drop_left' (l8 _)]
  have d12 : (supE s ++ t).drop 12 = (lay (u64n s.Tickets.Geometry.Slots) 4 ++ (lay (u64n s.Tickets.Geometry.Gens) 4 ++ (lay (u64n s.Tickets.High) 4 ++ (lay (u64n s.Tickets.Free) 4 ++ (lay (u64n s.Tickets.Top) 2 ++ (lay (u64n s.Dir) 2 ++ R)))))) := by rw [show (12 : Nat) = 8 + 4 from rfl, ← List.drop_drop, d8, List.drop_left' (l4 _)]
  have d16 : (supE s ++ t).drop 16 = (lay (u64n s.Tickets.Geometry.Gens) 4 ++ (lay (u64n s.Tickets.High) 4 ++ (lay (u64n s.Tickets.Free) 4 ++ (lay (u64n s.Tickets.Top) 2 ++ (lay (u64n s.Dir) 2 ++ R))))) := by rw [show (16 : Nat) = 12 + 4 from rfl, ← List.drop_drop, d12, List.drop_left' (l4 _)]
  have d20 : (supE s ++ t).drop 20 = (lay (u64n s.Tickets.High) 4 ++ (lay (u64n s.Tickets.Free) 4 ++ (lay (u64n s.Tickets.Top) 2 ++ (lay (u64n s.Dir) 2 ++ R)))) := by rw [show (20 : Nat) = 16 + 4 from rfl, ← List.drop_drop, d16, List.drop_left' (l4 _)]
  have d24 : (supE s ++ t).drop 24 = (lay (u64n s.Tickets.Free) 4 ++ (lay (u64n s.Tickets.Top) 2 ++ (lay (u64n s.Dir) 2 ++ R))) := by rw [show (24 : Nat) = 20 + 4 from rfl, ← List.drop_drop, d20, List.drop_left' (l4 _)]
  have d28 : (supE s ++ t).drop 28 = (lay (u64n s.Tickets.Top) 2 ++ (lay (u64n s.Dir) 2 ++ R)) := by rw [show (28 : Nat) = 24 + 4 from rfl, ← List.drop_drop, d24, List.drop_left' (l4 _)]
  have d30 : (supE s ++ t).drop 30 = (lay (u64n s.Dir) 2 ++ R) := by rw [show (30 : Nat) = 28 + 2 from rfl, ← List.drop_drop, d28, List.drop_left' (l2 _)]
  have d32 : (supE s ++ t).drop 32 = R := by rw [show (32 : Nat) = 30 + 2 from rfl, ← List.drop_drop, d30, List.drop_left' (l2 _)]
  have q8 : (256 : Nat) ^ 8 = 18446744073709551616 := by decide
  have q4 : (256 : Nat) ^ 4 = 4294967296 := by decide
  have q2 : (256 : Nat) ^ 2 = 65536 := by decide
  have val : ∀ (i n : Nat) (x : Int), part (supE s ++ t) i n = lay (u64n x) n → 0 ≤ x → x < ((256 ^ n : Nat) : Int) → x ≤ 9223372036854775807 → intAt (supE s ++ t) i n = x := by
    intro i n x hp h0 h1 h2
    unfold intAt
    rw [hp, num_lay, u64n_of h0 (by omega), Nat.mod_eq_of_lt (by omega), Int.toNat_of_nonneg h0, w64 (by omega) h2]
  have p0 : part (supE s ++ t) 0 8 = lay (u64n s.Epoch) 8 := by unfold part; rw [List.drop_zero, e, List.take_left' (l8 _)]
  have p8 : part (supE s ++ t) 8 4 = lay (u64n s.Tickets.Geometry.Blocks) 4 := by unfold part; rw [d8, List.take_left' (l4 _)]
  have p12 : part (supE s ++ t) 12 4 = lay (u64n s.Tickets.Geometry.Slots) 4 := by unfold part; rw [d12, List.take_left' (l4 _)]
  have p16 : part (supE s ++ t) 16 4 = lay (u64n s.Tickets.Geometry.Gens) 4 := by unfold part; rw [d16, List.take_left' (l4 _)]
  have p20 : part (supE s ++ t) 20 4 = lay (u64n s.Tickets.High) 4 := by unfold part; rw [d20, List.take_left' (l4 _)]
  have p24 : part (supE s ++ t) 24 4 = lay (u64n s.Tickets.Free) 4 := by unfold part; rw [d24, List.take_left' (l4 _)]
  have p28 : part (supE s ++ t) 28 2 = lay (u64n s.Tickets.Top) 2 := by unfold part; rw [d28, List.take_left' (l2 _)]
  have p30 : part (supE s ++ t) 30 2 = lay (u64n s.Dir) 2 := by unfold part; rw [d30, List.take_left' (l2 _)]
  have i0 := val 0 8 _ p0 (by omega) (by omega) (by omega)
  have i8 := val 8 4 _ p8 (by omega) (by omega) (by omega)
  have i12 := val 12 4 _ p12 (by omega) (by omega) (by omega)
  have i16 := val 16 4 _ p16 (by omega) (by omega) (by omega)
  have i20 := val 20 4 _ p20 (by omega) (by omega) (by omega)
  have i24 := val 24 4 _ p24 (by omega) (by omega) (by omega)
  have i28 := val 28 2 _ p28 (by omega) (by omega) (by omega)
  have i30 := val 30 2 _ p30 (by omega) (by omega) (by omega)
  have ik : chartsOf (supE s ++ t) s.Charts.length = s.Charts := by
    apply ix_ext (by simp [chartsOf])
    intro i hi
    have hi' : i < s.Charts.length := by simpa [chartsOf] using hi
    unfold chartsOf
    rw [ix_map hi']
    have hp : part (supE s ++ t) (32 + 2 * i) 2 = lay (u64n (ix s.Charts (i : Int))) 2 := by
      unfold part
      rw [← List.drop_drop, d32, hR]
      exact flat_field (fun i => lay_len _ _) hi' t
    have := hI i hi'
    unfold inB at this
    exact val _ 2 _ hp (by omega) (by omega) (by omega)
  unfold supOf
  rw [i0, i8, i12, i16, i20, i24, i28, i30, ik]
def noU : S_api_Super := ⟨0, ⟨⟨0, 0, 0⟩, 0, 0, 0⟩, 0, []⟩
def GetU (b : List Int) : Prop := Is b ∧ ix b 4 = 7 ∧ ix b 5 ≤ 8 ∧ SupOk (supOf (b.drop 8) (ix b 5).toNat) ∧ ∀ y ∈ (b.drop 8).drop (32 + 2 * (ix b 5).toNat), y = 0
instance (b : List Int) : Decidable (GetU b) := inferInstanceAs (Decidable (_ ∧ _))
theorem superGet_eq {fu : Nat} {b : List Int} (hb : Bytes b) (hl : b.length ≤ 9000000000000000000) (hf : 100 < fu) : super_Get.f fu b = some (if GetU b then (supOf (b.drop 8) (ix b 5).toNat, true) else (noU, false)) := by
  unfold super_Get.f
  rw [open_eq hb hl hf]
  by_cases hi : Is b
  · have h8 := is_body hi
    obtain ⟨b4, b5⟩ := is_tag hb hi
    rw [if_pos hi]
    simp only [Option.bind_some, Bool.not_true, Bool.false_eq_true, if_false]
    by_cases h4 : ix b 4 = 7
    · by_cases h5 : ix b 5 ≤ 8
      · have h5' : ¬ ix b 5 > 8 := by omega
        obtain ⟨t, ht⟩ : ∃ t : Nat, ix b 5 = (t : Int) := ⟨(ix b 5).toNat, by omega⟩
        have hbd := hb.drop 8
        obtain ⟨body, hbody⟩ : ∃ body, body = b.drop 8 := ⟨_, rfl⟩
        rw [← hbody] at h8 hbd
        have n0 : super_reader_next.f fu ⟨body⟩ 8 = some (intAt body 0 8, ⟨body.drop 8⟩) := next_eq (i := 0) (n := 8) hbd (by omega) (by decide) hf
        have n8 : super_reader_next.f fu ⟨body.drop 8⟩ 4 = some (intAt body 8 4, ⟨body.drop 12⟩) := next_eq (i := 8) (n := 4) hbd (by omega) (by decide) hf
        have n12 : super_reader_next.f fu ⟨body.drop 12⟩ 4 = some (intAt body 12 4, ⟨body.drop 16⟩) := next_eq (i := 12) (n := 4) hbd (by omega) (by decide) hf
        have n16 : super_reader_next.f fu ⟨body.drop 16⟩ 4 = some (intAt body 16 4, ⟨body.drop 20⟩) := next_eq (i := 16) (n := 4) hbd (by omega) (by decide) hf
        have n20 : super_reader_next.f fu ⟨body.drop 20⟩ 4 = some (intAt body 20 4, ⟨body.drop 24⟩) := next_eq (i := 20) (n := 4) hbd (by omega) (by decide) hf
        have n24 : super_reader_next.f fu ⟨body.drop 24⟩ 4 = some (intAt body 24 4, ⟨body.drop 28⟩) := next_eq (i := 24) (n := 4) hbd (by omega) (by decide) hf
        have n28 : super_reader_next.f fu ⟨body.drop 28⟩ 2 = some (intAt body 28 2, ⟨body.drop 30⟩) := next_eq (i := 28) (n := 2) hbd (by omega) (by decide) hf
        have n30 : super_reader_next.f fu ⟨body.drop 30⟩ 2 = some (intAt body 30 2, ⟨body.drop 32⟩) := next_eq (i := 30) (n := 2) hbd (by omega) (by decide) hf
        have hloop : loopM (super_Get.s0 fu (ix b 4, ix b 5, body, true)) fu (0, [], body.drop 32) = some (chartsOf body t, body.drop (32 + 2 * t)) := by
          refine loopM_run (S := fun j => ((j : Int), chartsOf body j, body.drop (32 + 2 * j))) t (by simp [chartsOf]) ?_ ?_ (by omega)
          · intro j hj
            unfold super_Get.s0
            have h1 : (j : Int) < ix b 5 := by omega
            have w3 : IntKind.i64.wrap ((j : Int) + 1) = ((j + 1 : Nat) : Int) := by rw [w64 (by omega) (by omega)]; omega
            have hn : super_reader_next.f fu ⟨body.drop (32 + 2 * j)⟩ 2 = some (intAt body (32 + 2 * j) 2, ⟨body.drop (32 + 2 * j + 2)⟩) := next_eq (n := 2) hbd (by omega) (by decide) hf
            have hlim : (chartsOf body j).length + ([intAt body (32 + 2 * j) 2] : List Int).length ≤ LIM := lim_of' (by simp [chartsOf]; omega)
            simp only [h1, decide_true, if_true, w3, hn, Option.bind_some, hlim]
            simp [chartsOf, List.range_succ, Nat.mul_add, Nat.add_assoc]
          · unfold super_Get.s0
            simp [ht]
        have hrl : (body.drop (32 + 2 * t)).length = 56 - (32 + 2 * t) := by rw [List.length_drop, h8]
        have hn := noughts_eq (fu := fu) (b := body.drop (32 + 2 * t)) (i := 0) (n := 56 - (32 + 2 * t)) (by omega) (by omega) (by omega)
        have e8 : ((body.drop (32 + 2 * t)).drop 0).take (56 - (32 + 2 * t)) = body.drop (32 + 2 * t) := by rw [List.drop_zero]; exact List.take_of_length_le (by omega)
        rw [e8, ← hrl] at hn
        have hn' := hn
        rw [show ((0 : Nat) : Int) = 0 from rfl] at hn'
        have hN : (⟨intAt body 0 8, ⟨⟨intAt body 8 4, intAt body 12 4, intAt body 16 4⟩, intAt body 28 2, intAt body 20 4, intAt body 24 4⟩, intAt body 30 2, chartsOf body t⟩ : S_api_Super) = supOf body t := rfl
        rw [← hbody]
        simp only [h4, h5', decide_true, decide_false, Bool.not_true, Bool.false_eq_true, if_false] at hloop ⊢
        simp only [n0, n8, n12, n16, n20, n24, n28, n30, Option.bind_some, hloop]
        simp only [hn', hN, superRight_eq hf, Option.bind_some]
        have hgi : GetU b ↔ (SupOk (supOf body t) ∧ ∀ y ∈ body.drop (32 + 2 * t), y = 0) := by
          unfold GetU
          rw [ht, ← hbody, Int.toNat_natCast]
          exact ⟨fun x => x.2.2.2, fun x => ⟨hi, h4, by omega, x⟩⟩
        rw [ht, Int.toNat_natCast]
        by_cases hr : SupOk (supOf body t)
        · by_cases hz : ∀ y ∈ body.drop (32 + 2 * t), y = 0
          · rw [if_pos (hgi.2 ⟨hr, hz⟩), decide_eq_true hr, decide_eq_true hz]
            rfl
          · rw [if_neg (fun x => hz (hgi.1 x).2), decide_eq_true hr, decide_eq_false hz]
            rfl
        · rw [if_neg (fun x => hr (hgi.1 x).1), decide_eq_false hr]
          rfl
      · have h5' : ix b 5 > 8 := by omega
        have hg : ¬ GetU b := fun x => h5 x.2.2.1
        rw [if_neg hg, decide_eq_true h4, decide_eq_true h5']
        rfl
    · have hg : ¬ GetU b := fun x => h4 x.2.1
      rw [if_neg hg, decide_eq_false h4]
      rfl
  · have hg : ¬ GetU b := fun x => hi x.1
    rw [if_neg hi, if_neg hg]
    rfl
theorem rsuperGet_eq {fu : Nat} {b : List Int} (hb : Bytes b) (hf : 100 < fu) : rickyardref13_Get.f fu b = some (if GetU b then (supOf (b.drop 8) (ix b 5).toNat, true) else (noU, false)) := by
  unfold rickyardref13_Get.f
  rw [ropen_eq hb hf]
  by_cases hi : Is b
  · have h8 := is_body hi
    obtain ⟨b4, b5⟩ := is_tag hb hi
    rw [if_pos hi]
    simp only [Option.bind_some, Bool.not_true, Bool.false_eq_true, if_false]
    by_cases h4 : ix b 4 = 7
    · by_cases h5 : ix b 5 ≤ 8
      · have h5' : ¬ ix b 5 > 8 := by omega
        obtain ⟨t, ht⟩ : ∃ t : Nat, ix b 5 = (t : Int) := ⟨(ix b 5).toNat, by omega⟩
        have hbd := hb.drop 8
        obtain ⟨body, hbody⟩ : ∃ body, body = b.drop 8 := ⟨_, rfl⟩
        have hq0 : ∀ {k tg : Int} {bd : List Int}, (0 ≤ k ∧ k ≤ 255) → (0 ≤ tg ∧ tg ≤ 255) → Bytes bd → bd.length ≤ 56 → ((sealed (summed k tg bd)).map toB = b.map toB ↔ k = ix b 4 ∧ tg = ix b 5 ∧ bd ++ List.replicate (56 - bd.length) 0 = b.drop 8) := fun h1 h2 h3 h4 => sealed_map_iff hb hi h1 h2 h3 h4
        rw [← hbody] at h8 hbd
        have n0 : rickyardref01_Int.f fu (cut (body.map toB) 0 8) = some (intAt body 0 8) := rintAt_eq (i := 0) (n := 8) hbd (by omega) (by decide) hf
        have n8 : rickyardref01_Int.f fu (cut (body.map toB) 8 12) = some (intAt body 8 4) := rintAt_eq (i := 8) (n := 4) hbd (by omega) (by decide) hf
        have n12 : rickyardref01_Int.f fu (cut (body.map toB) 12 16) = some (intAt body 12 4) := rintAt_eq (i := 12) (n := 4) hbd (by omega) (by decide) hf
        have n16 : rickyardref01_Int.f fu (cut (body.map toB) 16 20) = some (intAt body 16 4) := rintAt_eq (i := 16) (n := 4) hbd (by omega) (by decide) hf
        have n20 : rickyardref01_Int.f fu (cut (body.map toB) 20 24) = some (intAt body 20 4) := rintAt_eq (i := 20) (n := 4) hbd (by omega) (by decide) hf
        have n24 : rickyardref01_Int.f fu (cut (body.map toB) 24 28) = some (intAt body 24 4) := rintAt_eq (i := 24) (n := 4) hbd (by omega) (by decide) hf
        have n28 : rickyardref01_Int.f fu (cut (body.map toB) 28 30) = some (intAt body 28 2) := rintAt_eq (i := 28) (n := 2) hbd (by omega) (by decide) hf
        have n30 : rickyardref01_Int.f fu (cut (body.map toB) 30 32) = some (intAt body 30 2) := rintAt_eq (i := 30) (n := 2) hbd (by omega) (by decide) hf
        have hloop : loopM (rickyardref13_Get.s0 fu (ix b 4, ix b 5, body.map toB, true)) fu (0, []) = some (chartsOf body t) := by
          refine loopM_run (S := fun j => ((j : Int), chartsOf body j)) t (by simp [chartsOf]) ?_ ?_ (by omega)
          · intro j hj
            unfold rickyardref13_Get.s0
            have h1 : (j : Int) < ix b 5 := by omega
            have w3 : IntKind.i64.wrap ((j : Int) + 1) = ((j + 1 : Nat) : Int) := by rw [w64 (by omega) (by omega)]; omega
            have w4 : IntKind.i64.wrap (2 * (j : Int)) = ((2 * j : Nat) : Int) := by rw [w64 (by omega) (by omega)]; omega
            have w5 : IntKind.i64.wrap (32 + ((2 * j : Nat) : Int)) = ((32 + 2 * j : Nat) : Int) := by rw [w64 (by omega) (by omega)]; omega
            have w6 : IntKind.i64.wrap (34 + ((2 * j : Nat) : Int)) = ((32 + 2 * j + 2 : Nat) : Int) := by rw [w64 (by omega) (by omega)]; omega
            have hn : rickyardref01_Int.f fu (cut (body.map toB) ((32 + 2 * j : Nat) : Int) ((32 + 2 * j + 2 : Nat) : Int)) = some (intAt body (32 + 2 * j) 2) := rintAt_eq (n := 2) hbd (by omega) (by decide) hf
            have hlim : (chartsOf body j).length + ([intAt body (32 + 2 * j) 2] : List Int).length ≤ LIM := lim_of' (by simp [chartsOf]; omega)
            have c1 : (0 : Int) ≤ ((32 + 2 * j : Nat) : Int) ∧ ((32 + 2 * j : Nat) : Int) ≤ ((32 + 2 * j + 2 : Nat) : Int) ∧ ((32 + 2 * j + 2 : Nat) : Int) ≤ ((body.map toB).length : Int) := by rw [List.length_map]; omega
            simp only [h1, decide_true, if_true, w3, w4, w5, w6, hn, Option.bind_some, hlim, if_pos c1]
            simp [chartsOf, List.range_succ]
          · unfold rickyardref13_Get.s0
            simp [ht]
        have hN : (⟨intAt body 0 8, ⟨⟨intAt body 8 4, intAt body 12 4, intAt body 16 4⟩, intAt body 28 2, intAt body 20 4, intAt body 24 4⟩, intAt body 30 2, chartsOf body t⟩ : S_api_Super) = supOf body t := rfl
        have hkl : (supOf body t).Charts.length = t := by simp [supOf, chartsOf]
        have hgi : GetU b ↔ (SupOk (supOf body t) ∧ ∀ y ∈ body.drop (32 + 2 * t), y = 0) := by
          unfold GetU
          rw [ht, ← hbody, Int.toNat_natCast]
          exact ⟨fun x => x.2.2.2, fun x => ⟨hi, h4, by omega, x⟩⟩
        have cl : ((body.map toB).length : Int) = 56 := by rw [List.length_map]; omega
        rw [← hbody]
        simp only [h4, h5', decide_true, decide_false, Bool.not_true, Bool.false_eq_true, if_false] at hloop ⊢
        have k8 : (8 : Int) ≤ ((body.map toB).length : Int) := by omega
        have k12 : (12 : Int) ≤ ((body.map toB).length : Int) := by omega
        have k16 : (16 : Int) ≤ ((body.map toB).length : Int) := by omega
        have k20 : (20 : Int) ≤ ((body.map toB).length : Int) := by omega
        have k24 : (24 : Int) ≤ ((body.map toB).length : Int) := by omega
        have k28 : (28 : Int) ≤ ((body.map toB).length : Int) := by omega
        have k30 : (30 : Int) ≤ ((body.map toB).length : Int) := by omega
        have k32 : (32 : Int) ≤ ((body.map toB).length : Int) := by omega
        simp only [n0, n8, n12, n16, n20, n24, n28, n30, Option.bind_some, hloop, if_pos k8, if_pos k12, if_pos k16, if_pos k20, if_pos k24, if_pos k28, if_pos k30, if_pos k32]
        have hput := rsuperPut_eq (fu := fu) (s := supOf body t) (by rw [hkl]; omega) hf
        simp only [hN, rsuperRight_eq hf, hput, Option.bind_some]
        have hel := supE_len (supOf body t)
        rw [hkl] at hel
        have hq := hq0 (k := 7) (tg := (t : Int)) (bd := supE (supOf body t)) (by omega) (by omega) (supE_bytes _) (by omega)
        have hfl := full_iff (body := supE (supOf body t)) (full := body) (by omega) h8
        rw [← hbody] at hq
        rw [hel, supE_of hbd (show 32 + 2 * t ≤ body.length by omega)] at hfl
        rw [hel, supE_of hbd (show 32 + 2 * t ≤ body.length by omega)] at hq
        rw [hkl, supE_of hbd (show 32 + 2 * t ≤ body.length by omega), ht, Int.toNat_natCast]
        by_cases hr : SupOk (supOf body t)
        · by_cases hz : ∀ y ∈ body.drop (32 + 2 * t), y = 0
          · rw [if_pos (hgi.2 ⟨hr, hz⟩), decide_eq_true hr, decide_eq_true (hq.2 ⟨h4.symm, ht.symm, hfl.2 ⟨rfl, hz⟩⟩)]
            rfl
          · rw [if_neg (fun x => hz (hgi.1 x).2), decide_eq_true hr, decide_eq_false (fun x => hz (hfl.1 (hq.1 x).2.2).2)]
            rfl
        · rw [if_neg (fun x => hr (hgi.1 x).1), decide_eq_false hr]
          rfl
      · have h5' : ix b 5 > 8 := by omega
        have hg : ¬ GetU b := fun x => h5 x.2.2.1
        rw [if_neg hg, decide_eq_true h4, decide_eq_true h5']
        rfl
    · have hg : ¬ GetU b := fun x => h4 x.2.1
      rw [if_neg hg, decide_eq_false h4]
      rfl
  · have hg : ¬ GetU b := fun x => hi x.1
    rw [if_neg hi, if_neg hg]
    rfl
theorem sup_get {s : S_api_Super} (h : SupOk s) : GetU (sealed (summed 7 (s.Charts.length : Int) (supE s))) ∧ supOf ((sealed (summed 7 (s.Charts.length : Int) (supE s))).drop 8) (ix (sealed (summed 7 (s.Charts.length : Int) (supE s))) 5).toNat = s := by
  have k1 := h.len
  have hl := supE_len s
  obtain ⟨p4, p5, p8⟩ := sealed_parts 7 (s.Charts.length : Int) (supE s)
  have hno := supOf_E h (List.replicate (56 - (supE s).length) 0)
  refine ⟨⟨is_sealed (by decide) (by omega), p4, by rw [p5]; omega, ?_, ?_⟩, by rw [p8, p5, Int.toNat_natCast, hno]⟩
  · rw [p8, p5, Int.toNat_natCast, hno]
    exact h
  · rw [p8, p5, Int.toNat_natCast, ← hl, List.drop_left' rfl]
    intro y hy
    exact List.eq_of_mem_replicate hy
theorem sup_sealed {s : S_api_Super} (h : SupOk s) : Bytes (sealed (summed 7 (s.Charts.length : Int) (supE s))) ∧ (sealed (summed 7 (s.Charts.length : Int) (supE s))).length = 64 := by
  have k1 := h.len
  have hl := supE_len s
  exact ⟨sealed_bytes (summed_bytes (by omega) (by omega) (supE_bytes s)), sealed_len (summed_len (by omega))⟩
theorem superGet_put {fu : Nat} {s : S_api_Super} (h : SupOk s) (hf : 100 < fu) : super_Get.f fu (sealed (summed 7 (s.Charts.length : Int) (supE s))) = some (s, true) := by
  obtain ⟨h1, h2⟩ := sup_sealed h
  obtain ⟨h3, h4⟩ := sup_get h
  rw [superGet_eq h1 (by omega) hf, if_pos h3, h4]
theorem same_sup {a b : S_api_Super} : (a = b) ↔ a.Epoch = b.Epoch ∧ a.Tickets = b.Tickets ∧ a.Dir = b.Dir ∧ a.Charts = b.Charts := by
  cases a
  cases b
  simp
theorem same_tick {a b : S_api_Tickets} : (a = b) ↔ a.Geometry = b.Geometry ∧ a.Top = b.Top ∧ a.High = b.High ∧ a.Free = b.Free := by
  cases a
  cases b
  simp
theorem superSame_eq {fu : Nat} {a b : S_api_Super} (hl : a.Charts.length ≤ 9000000000000000000) (hf : a.Charts.length < fu) : super_Same.f fu a b = some (decide (a = b)) := by
  unfold super_Same.f
  rw [equal_eq hl hf]
  by_cases h1 : a.Epoch = b.Epoch
  · by_cases h2 : a.Tickets = b.Tickets
    · by_cases h3 : a.Dir = b.Dir
      · by_cases h4 : a.Charts = b.Charts
        · rw [decide_eq_true h1, decide_eq_true h2, decide_eq_true h3, decide_eq_true h4, decide_eq_true (same_sup.2 ⟨h1, h2, h3, h4⟩)]
          rfl
        · rw [decide_eq_true h1, decide_eq_true h2, decide_eq_true h3, decide_eq_false h4, decide_eq_false (fun x => h4 (same_sup.1 x).2.2.2)]
          rfl
      · rw [decide_eq_true h1, decide_eq_true h2, decide_eq_false h3, decide_eq_false (fun x => h3 (same_sup.1 x).2.2.1)]
        rfl
    · rw [decide_eq_true h1, decide_eq_false h2, decide_eq_false (fun x => h2 (same_sup.1 x).2.1)]
      rfl
  · rw [decide_eq_false h1, decide_eq_false (fun x => h1 (same_sup.1 x).1)]
    rfl
theorem rsuperSame_eq {fu : Nat} {a b : S_api_Super} (hl : a.Charts.length ≤ 9000000000000000000) (hf : a.Charts.length < fu) : rickyardref13_Same.f fu a b = some (decide (a = b)) := by
  unfold rickyardref13_Same.f
  rw [ints2_eq hl hf]
  have hab : a = b ↔ a.Epoch = b.Epoch ∧ (a.Tickets.Geometry = b.Tickets.Geometry ∧ a.Tickets.Top = b.Tickets.Top ∧ a.Tickets.High = b.Tickets.High ∧ a.Tickets.Free = b.Tickets.Free) ∧ a.Dir = b.Dir ∧ a.Charts = b.Charts := by
    rw [same_sup, same_tick]
  by_cases h1 : a.Epoch = b.Epoch
  · by_cases h2 : a.Tickets.Geometry = b.Tickets.Geometry
    · by_cases h3 : a.Tickets.High = b.Tickets.High
      · by_cases h4 : a.Tickets.Free = b.Tickets.Free
        · by_cases h5 : a.Tickets.Top = b.Tickets.Top
          · by_cases h6 : a.Dir = b.Dir
            · by_cases h7 : a.Charts = b.Charts
              · rw [decide_eq_true h1, decide_eq_true h2, decide_eq_true h3, decide_eq_true h4, decide_eq_true h5, decide_eq_true h6, decide_eq_true h7, decide_eq_true (hab.2 ⟨h1, ⟨h2, h5, h3, h4⟩, h6, h7⟩)]
                rfl
              · rw [decide_eq_true h1, decide_eq_true h2, decide_eq_true h3, decide_eq_true h4, decide_eq_true h5, decide_eq_true h6, decide_eq_false h7, decide_eq_false (fun x => h7 (hab.1 x).2.2.2)]
                rfl
            · rw [decide_eq_true h1, decide_eq_true h2, decide_eq_true h3, decide_eq_true h4, decide_eq_true h5, decide_eq_false h6, decide_eq_false (fun x => h6 (hab.1 x).2.2.1)]
              rfl
          · rw [decide_eq_true h1, decide_eq_true h2, decide_eq_true h3, decide_eq_true h4, decide_eq_false h5, decide_eq_false (fun x => h5 (hab.1 x).2.1.2.1)]
            rfl
        · rw [decide_eq_true h1, decide_eq_true h2, decide_eq_true h3, decide_eq_false h4, decide_eq_false (fun x => h4 (hab.1 x).2.1.2.2.2)]
          rfl
      · rw [decide_eq_true h1, decide_eq_true h2, decide_eq_false h3, decide_eq_false (fun x => h3 (hab.1 x).2.1.2.2.1)]
        rfl
    · rw [decide_eq_true h1, decide_eq_false h2, decide_eq_false (fun x => h2 (hab.1 x).2.1.1)]
      rfl
  · rw [decide_eq_false h1, decide_eq_false (fun x => h1 (hab.1 x).1)]
    rfl
theorem ex13 : SupOk ⟨1, ⟨⟨16, 1, 1⟩, 0, 0, 0⟩, 0, [2]⟩ := by decide
theorem awake13 {fu : Nat} (hf : 100 < fu) : rickyardlaw13_awake.f fu = some true := by
  unfold rickyardlaw13_awake.f
  have h1 := superPut_eq (fu := fu) (s := ⟨1, ⟨⟨16, 1, 1⟩, 0, 0, 0⟩, 0, [2]⟩) hf
  have h2 := superGet_put (fu := fu) ex13 hf
  rw [if_pos ex13] at h1
  have l1 := (sup_sealed ex13).2
  rw [h1]
  simp only [Option.bind_some, h2, l1]
  simp
end Go.Proofs.Ytjhajfkfhdnciaa.Pure

/- Bits turned side by side in a block: the sum tells. -/
set_option linter.unusedVariables false
set_option linter.unusedSimpArgs false
namespace Go.Proofs.Ytjhajfkfhdnciaa.Pure
open Go Go.Xw
def bit (c : Bool) : BitVec 32 := if c then 1#32 else 0#32
def feed (x : BitVec 32) : List Bool → BitVec 32
  | [] => x
  | c :: cs => feed (stp (x ^^^ bit c)) cs
theorem feed_append (x : BitVec 32) : ∀ (a b : List Bool), feed x (a ++ b) = feed (feed x a) b := by
  intro a
  induction a generalizing x with
  | nil => intro b; rfl
  | cons c a ih => intro b; exact ih _ b
theorem bit_xor (a b : Bool) : bit (a ^^ b) = bit a ^^^ bit b := by cases a <;> cases b <;> decide
theorem feed_xor : ∀ (a b : List Bool) (x y : BitVec 32), a.length = b.length → feed (x ^^^ y) (List.zipWith (fun p q => p ^^ q) a b) = feed x a ^^^ feed y b
  | [], [], x, y, _ => rfl
  | [], _ :: _, x, y, h => by simp at h
  | _ :: _, [], x, y, h => by simp at h
  | p :: a, q :: b, x, y, h => by
    simp only [List.zipWith_cons_cons, feed]
    rw [bit_xor, xor4, stp_xor]
    exact feed_xor a b _ _ (by simpa using h)
theorem stp_zero : stp 0#32 = 0#32 := by decide
theorem stps_zero : ∀ n, stps n 0#32 = 0#32
  | 0 => rfl
  | n + 1 => by
    unfold stps
    rw [stp_zero]
    exact stps_zero n
theorem feed_noughts : ∀ (n : Nat) (x : BitVec 32), feed x (List.replicate n false) = stps n x
  | 0, x => rfl
  | n + 1, x => by
    rw [List.replicate_succ]
    simp only [feed, bit, Bool.false_eq_true, if_false, BitVec.xor_zero]
    exact feed_noughts n _
/-- The lowest n bits of a number, fed one by one: as n steps over them all at once. -/
theorem feed_low : ∀ (n w : Nat) (x : BitVec 32), n ≤ 32 → w < 2 ^ n → feed x ((List.range n).map fun i => w.testBit i) = stps n (x ^^^ BitVec.ofNat 32 w)
  | 0, w, x, _, hw => by
    have : w = 0 := by omega
    subst this
    simp [feed, stps]
  | n + 1, w, x, hn, hw => by
    rw [List.range_succ_eq_map, List.map_cons, List.map_map]
    have hf : ((fun i => w.testBit i) ∘ Nat.succ) = fun i => (w / 2).testBit i := by
      funext i
      simp [Function.comp, Nat.testBit_succ]
    rw [hf]
    show feed (stp (x ^^^ bit (w.testBit 0))) ((List.range n).map fun i => (w / 2).testBit i) = stps n (stp (x ^^^ BitVec.ofNat 32 w))
    rw [feed_low n (w / 2) _ (by omega) (by rw [Nat.pow_succ] at hw; omega)]
    congr 1
    have e : BitVec.ofNat 32 w = bit (w.testBit 0) ^^^ (BitVec.ofNat 32 w &&& ~~~ 1#32) := by
      apply BitVec.eq_of_getLsbD_eq
      intro i hi
      rw [BitVec.getLsbD_xor, BitVec.getLsbD_and, BitVec.getLsbD_not, BitVec.getLsbD_ofNat]
      cases i with
      | zero =>
        unfold bit
        cases w.testBit 0 <;> simp
      | succ i =>
        have h1 : (bit (w.testBit 0)).getLsbD (i + 1) = false := by
          unfold bit
          cases w.testBit 0 <;> simp [BitVec.getLsbD_one]
        have h2 : (1#32).getLsbD (i + 1) = false := by simp [BitVec.getLsbD_one]
        rw [h1, h2]
        simp [hi]
    have hz : (BitVec.ofNat 32 w &&& ~~~ 1#32).getLsbD 0 = false := by
      rw [BitVec.getLsbD_and, BitVec.getLsbD_not]
      simp
    have key : stp (x ^^^ BitVec.ofNat 32 w) = stp (x ^^^ bit (w.testBit 0)) ^^^ ((BitVec.ofNat 32 w &&& ~~~ 1#32) >>> 1) := by
      conv => lhs; rw [e]
      rw [← BitVec.xor_assoc, stp_xor (x ^^^ bit (w.testBit 0)), stp_even hz]
    rw [key]
    congr 1
    apply BitVec.eq_of_getLsbD_eq
    intro i hi
    rw [BitVec.getLsbD_ushiftRight, BitVec.getLsbD_and, BitVec.getLsbD_not, BitVec.getLsbD_ofNat, BitVec.getLsbD_ofNat]
    have h2 : (1#32).getLsbD (1 + i) = false := by
      rw [Nat.add_comm]
      simp [BitVec.getLsbD_one]
    rw [h2, Nat.add_comm 1 i, Nat.testBit_succ]
    by_cases h : i + 1 < 32
    · simp [h, hi]
    · have : (w / 2).testBit i = false := by
        apply Nat.testBit_lt_two_pow
        have h31 : n ≤ i := by omega
        exact Nat.lt_of_lt_of_le (by rw [Nat.pow_succ] at hw; omega) (Nat.pow_le_pow_right (by decide) h31)
      simp [this]
def bitAt (l : List Int) (p : Nat) : Bool := (ix l ((p / 8 : Nat) : Int)).toNat.testBit (p % 8)
def bitsOf (l : List Int) : List Bool := (List.range (8 * l.length)).map (bitAt l)
theorem bitsOf_cons (c : Int) (l : List Int) : bitsOf (c :: l) = ((List.range 8).map fun i => c.toNat.testBit i) ++ bitsOf l := by
  unfold bitsOf
  rw [List.length_cons, show 8 * (l.length + 1) = 8 + 8 * l.length from by omega, List.range_add, List.map_append, List.map_map]
  congr 1
  apply List.map_congr_left
  intro i hi
  unfold bitAt
  simp only [Function.comp]
  rw [show (8 + i) / 8 = i / 8 + 1 from by omega, show (8 + i) % 8 = i % 8 from by omega]
  rfl
theorem regs_feed : ∀ (l : List Int) (x : BitVec 32), Bytes l → regs x l = feed x (bitsOf l)
  | [], x, _ => rfl
  | c :: l, x, h => by
    have hc := h c (by simp)
    rw [bitsOf_cons, feed_append, feed_low 8 c.toNat x (by decide) (by show c.toNat < 256; omega)]
    exact regs_feed l _ fun y hy => h y (by simp [hy])
/-- A pattern of up to 32 bits between noughts leaves a trace. -/
theorem trace {j w m : Nat} (hw : w < 2 ^ 32) (h0 : w ≠ 0) : feed 0#32 (List.replicate j false ++ (((List.range 32).map fun i => w.testBit i) ++ List.replicate m false)) ≠ 0#32 := by
  rw [feed_append, feed_append, feed_noughts j, stps_zero, feed_low 32 w _ (Nat.le_refl _) hw, feed_noughts, BitVec.zero_xor]
  intro h
  have h1 := stps_inj0 32 (stps_inj0 m h)
  have h2 := congrArg BitVec.toNat h1
  rw [BitVec.toNat_ofNat, Nat.mod_eq_of_lt hw] at h2
  exact h0 h2
theorem byte_ext {c d : Nat} (hc : c < 256) (hd : d < 256) (h : ∀ j, j < 8 → c.testBit j = d.testBit j) : c = d := by
  apply Nat.eq_of_testBit_eq
  intro j
  by_cases hj : j < 8
  · exact h j hj
  · have h8 : 256 ≤ 2 ^ j := by
      have := Nat.pow_le_pow_right (n := 2) (by decide) (by omega : 8 ≤ j)
      exact this
    rw [Nat.testBit_lt_two_pow (by omega), Nat.testBit_lt_two_pow (by omega)]
theorem ext_bits {a b : List Int} (ha : Bytes a) (hb : Bytes b) (hl : a.length = b.length) (h : ∀ p, p < 8 * a.length → bitAt a p = bitAt b p) : a = b := by
  apply List.ext_getElem hl
  intro i h1 h2
  have ca := ha _ (List.getElem_mem h1)
  have cb := hb _ (List.getElem_mem h2)
  have : a[i].toNat = b[i].toNat := by
    apply byte_ext (by omega) (by omega)
    intro j hj
    have := h (8 * i + j) (by omega)
    unfold bitAt at this
    rw [show (8 * i + j) / 8 = i from by omega, show (8 * i + j) % 8 = j from by omega, ix_nat h1, ix_nat h2] at this
    exact this
  omega
theorem bitAt_take {l : List Int} {n p : Nat} (h : p < 8 * n) (hn : n ≤ l.length) : bitAt (l.take n) p = bitAt l p := by
  unfold bitAt
  rw [ix_nat (by rw [List.length_take]; omega), ix_nat (by omega), List.getElem_take]
theorem bitAt_drop {l : List Int} {n p : Nat} (h : p < 8 * (l.length - n)) : bitAt (l.drop n) p = bitAt l (8 * n + p) := by
  unfold bitAt
  rw [show (8 * n + p) / 8 = n + p / 8 from by omega, show (8 * n + p) % 8 = p % 8 from by omega, ix_nat (by rw [List.length_drop]; omega), ix_nat (by omega), List.getElem_drop]
def pat (j w p : Nat) : Bool := decide (j ≤ p ∧ p < j + 32) && w.testBit (p - j)
theorem pat_list {j w m : Nat} : (List.range (j + (32 + m))).map (pat j w) = List.replicate j false ++ (((List.range 32).map fun i => w.testBit i) ++ List.replicate m false) := by
  apply List.ext_getElem
  · simp
  · intro i h1 h2
    simp only [List.length_map, List.length_range] at h1
    rw [List.getElem_map, List.getElem_range, List.getElem_append]
    split
    · rename_i h
      simp only [List.length_replicate] at h
      rw [List.getElem_replicate]
      unfold pat
      have : ¬ (j ≤ i ∧ i < j + 32) := by omega
      simp [this]
    · rename_i h
      simp only [List.length_replicate] at h
      rw [List.getElem_append]
      split
      · rename_i h3
        simp only [List.length_map, List.length_range, List.length_replicate] at h3
        rw [List.getElem_map, List.getElem_range]
        unfold pat
        have : j ≤ i ∧ i < j + 32 := by omega
        simp only [List.length_replicate, this, and_self, decide_true, Bool.true_and]
      · rename_i h3
        simp only [List.length_map, List.length_range, List.length_replicate] at h3
        rw [List.getElem_replicate]
        unfold pat
        have : ¬ (j ≤ i ∧ i < j + 32) := by omega
        simp [this]
theorem turned {b e : List Int} {k w : Nat} (hb : Bytes b) (he : Bytes e) (hbl : b.length = 64) (hel : e.length = 64) (hw : w < 2 ^ 32) (h0 : w ≠ 0) (hk : k = 0 ∨ 32 ≤ k ∧ k + 32 ≤ 512) (hbit : ∀ p, p < 512 → bitAt e p = (bitAt b p ^^ pat k w p)) (hi : Is b) : ¬ Is e := by
  intro hi2
  have i1 := ((is_iff hb hbl).1 hi.2.2).2
  have i2 := ((is_iff he hel).1 hi2.2.2).2
  have db : (b.drop 4).length = 60 := by rw [List.length_drop, hbl]
  have de : (e.drop 4).length = 60 := by rw [List.length_drop, hel]
  have tb : (b.take 4).length = 4 := by rw [List.length_take, hbl]; rfl
  have te : (e.take 4).length = 4 := by rw [List.length_take, hel]; rfl
  rcases hk with rfl | ⟨hk1, hk2⟩
  · have hd : e.drop 4 = b.drop 4 := by
      apply ext_bits (he.drop 4) (hb.drop 4) (by rw [de, db])
      intro p hp
      rw [de] at hp
      rw [bitAt_drop (by rw [hel]; omega), bitAt_drop (by rw [hbl]; omega), hbit _ (by omega)]
      have : pat 0 w (8 * 4 + p) = false := by
        unfold pat
        simp
        omega
      rw [this]
      simp
    have hn : num (e.take 4) = num (b.take 4) := by rw [i2, hd, ← i1]
    have ht : e.take 4 = b.take 4 := by
      have l1 := lay_num (he.take 4)
      have l2 := lay_num (hb.take 4)
      rw [te] at l1
      rw [tb] at l2
      rw [← l1, ← l2, hn]
    have heq : e = b := by rw [← List.take_append_drop 4 e, ← List.take_append_drop 4 b, ht, hd]
    apply h0
    apply Nat.eq_of_testBit_eq
    intro p
    rw [Nat.zero_testBit]
    by_cases hp : p < 32
    · have := hbit p (by omega)
      rw [heq] at this
      have hpat : pat 0 w p = w.testBit p := by
        unfold pat
        simp
        intro _
        omega
      rw [hpat] at this
      cases hx : w.testBit p
      · rfl
      · rw [hx] at this
        cases hy : bitAt b p <;> rw [hy] at this <;> simp at this
    · exact Nat.testBit_lt_two_pow (Nat.lt_of_lt_of_le hw (Nat.pow_le_pow_right (by decide) (by omega)))
  · obtain ⟨j, rfl⟩ : ∃ j, k = 32 + j := ⟨k - 32, by omega⟩
    have ht : e.take 4 = b.take 4 := by
      apply ext_bits (he.take 4) (hb.take 4) (by rw [te, tb])
      intro p hp
      rw [te] at hp
      rw [bitAt_take (by omega) (by omega), bitAt_take (by omega) (by omega), hbit _ (by omega)]
      have : pat (32 + j) w p = false := by
        unfold pat
        have : ¬ (32 + j ≤ p) := by omega
        simp [this]
      rw [this]
      simp
    have hbits : bitsOf (e.drop 4) = List.zipWith (fun p q => p ^^ q) (bitsOf (b.drop 4)) ((List.range (j + (32 + (448 - j)))).map (pat j w)) := by
      apply List.ext_getElem
      · simp [bitsOf, de, db]
        omega
      · intro p h1 h2
        simp only [bitsOf, List.length_map, List.length_range, de] at h1
        simp only [bitsOf, List.getElem_zipWith, List.getElem_map, List.getElem_range]
        rw [bitAt_drop (by rw [hel]; omega), bitAt_drop (by rw [hbl]; omega), hbit _ (by omega)]
        congr 1
        unfold pat
        rw [show 8 * 4 + p - (32 + j) = p - j from by omega]
        congr 1
        apply decide_eq_decide.2
        omega
    have hlen : (bitsOf (b.drop 4)).length = ((List.range (j + (32 + (448 - j)))).map (pat j w)).length := by
      simp [bitsOf, db]
      omega
    have hr : regs ones (e.drop 4) = regs ones (b.drop 4) ^^^ feed 0#32 ((List.range (j + (32 + (448 - j)))).map (pat j w)) := by
      rw [regs_feed _ _ (he.drop 4), regs_feed _ _ (hb.drop 4), hbits]
      have := feed_xor (bitsOf (b.drop 4)) ((List.range (j + (32 + (448 - j)))).map (pat j w)) ones 0#32 hlen
      rw [BitVec.xor_zero] at this
      exact this
    have hc : crc (e.drop 4) = crc (b.drop 4) := by
      apply BitVec.eq_of_toNat_eq
      rw [← i1, ← i2, ht]
    unfold crc at hc
    rw [hr, pat_list] at hc
    refine trace (j := j) (w := w) (m := 448 - j) hw h0 ?_
    generalize feed 0#32 _ = d at hc ⊢
    have h3 := congrArg (fun z => regs ones (b.drop 4) ^^^ (z ^^^ ones)) hc
    simp only [BitVec.xor_assoc] at h3
    rw [BitVec.xor_self, BitVec.xor_zero, BitVec.xor_zero, BitVec.xor_self, ← BitVec.xor_assoc, BitVec.xor_self, BitVec.zero_xor] at h3
    exact h3
theorem shl8 {r : Nat} (h : r < 8) : shL .u8 1 (r : Int) = ((2 ^ r : Nat) : Int) := by
  have h8 : 2 ^ r ≤ 128 := Nat.pow_le_pow_right (n := 2) (by decide) (by omega : r ≤ 7)
  unfold shL
  rw [Int.toNat_natCast, Nat.min_eq_left (by show r ≤ 8; omega), Int.one_mul]
  have : (2 : Int) ^ r = ((2 ^ r : Nat) : Int) := by rw [Int.natCast_pow]; rfl
  rw [this]
  generalize 2 ^ r = q at h8 ⊢
  exact wu8 (by omega) (by omega)
theorem xor8 {c d : Nat} (hc : c < 256) (hd : d < 256) : bXor .u8 (c : Int) (d : Int) = ((c ^^^ d : Nat) : Int) := by
  have hx : c ^^^ d < 2 ^ 8 := Nat.xor_lt_two_pow hc hd
  unfold bXor
  show IntKind.u8.wrap (((BitVec.ofInt 8 (c : Int) ^^^ BitVec.ofInt 8 (d : Int)).toNat : Nat) : Int) = _
  rw [BitVec.ofInt_natCast, BitVec.ofInt_natCast, BitVec.toNat_xor, BitVec.toNat_ofNat, BitVec.toNat_ofNat, Nat.mod_eq_of_lt hc, Nat.mod_eq_of_lt hd]
  exact wu8 (by omega) (by omega)
def flip (l : List Int) (p : Nat) : List Int := l.set (p / 8) (bXor .u8 (ix l ((p / 8 : Nat) : Int)) (shL .u8 1 ((p % 8 : Nat) : Int)))
theorem flip_len (l : List Int) (p : Nat) : (flip l p).length = l.length := by simp [flip]
theorem flip_val {l : List Int} (hb : Bytes l) {p : Nat} (hp : p < 8 * l.length) : ∃ c : Nat, c < 256 ∧ ix l ((p / 8 : Nat) : Int) = (c : Int) ∧ bXor .u8 (ix l ((p / 8 : Nat) : Int)) (shL .u8 1 ((p % 8 : Nat) : Int)) = ((c ^^^ 2 ^ (p % 8) : Nat) : Int) ∧ c ^^^ 2 ^ (p % 8) < 256 := by
  have h := ix_byte hb (p / 8) (by omega)
  have h8 : 2 ^ (p % 8) ≤ 128 := Nat.pow_le_pow_right (n := 2) (by decide) (by omega : p % 8 ≤ 7)
  refine ⟨(ix l ((p / 8 : Nat) : Int)).toNat, by omega, by omega, ?_, Nat.xor_lt_two_pow (n := 8) (by show _ < 256; omega) (by show _ < 256; omega)⟩
  rw [shl8 (by omega)]
  have := xor8 (c := (ix l ((p / 8 : Nat) : Int)).toNat) (d := 2 ^ (p % 8)) (by omega) (by omega)
  rwa [Int.toNat_of_nonneg h.1] at this
theorem flip_bytes {l : List Int} (hb : Bytes l) {p : Nat} (hp : p < 8 * l.length) : Bytes (flip l p) := by
  obtain ⟨c, h1, h2, h3, h4⟩ := flip_val hb hp
  intro x hx
  unfold flip at hx
  rw [h3] at hx
  rcases List.mem_or_eq_of_mem_set hx with h | rfl
  · exact hb x h
  · omega
theorem flip_bit {l : List Int} (hb : Bytes l) {p q : Nat} (hp : p < 8 * l.length) (hq : q < 8 * l.length) : bitAt (flip l p) q = (bitAt l q ^^ decide (q = p)) := by
  obtain ⟨c, h1, h2, h3, h4⟩ := flip_val hb hp
  unfold bitAt
  rw [ix_nat (by rw [flip_len]; omega), ix_nat (l := l) (j := q / 8) (by omega)]
  unfold flip
  rw [List.getElem_set]
  by_cases e : p / 8 = q / 8
  · rw [if_pos e, h3, Int.toNat_natCast, Nat.testBit_xor, Nat.testBit_two_pow]
    have hl : l[q / 8] = (c : Int) := by
      rw [← h2, ← ix_nat (l := l) (j := q / 8) (by omega), e]
    rw [hl, Int.toNat_natCast]
    congr 1
    apply decide_eq_decide.2
    omega
  · rw [if_neg e]
    have : ¬ q = p := fun h => e (by rw [h])
    simp [this]
/-- The first i bits of a pattern turned in, from place k on. -/
def flips (b : List Int) (k w : Nat) : Nat → List Int
  | 0 => b
  | i + 1 => if w.testBit i = true then flip (flips b k w i) (k + i) else flips b k w i
theorem flips_ok {b : List Int} {k w : Nat} (hb : Bytes b) : ∀ i, k + i ≤ 8 * b.length → Bytes (flips b k w i) ∧ (flips b k w i).length = b.length ∧ ∀ p, p < 8 * b.length → bitAt (flips b k w i) p = (bitAt b p ^^ (decide (k ≤ p ∧ p < k + i) && w.testBit (p - k)))
  | 0, _ => by
    refine ⟨hb, rfl, fun p hp => ?_⟩
    have : ¬ (k ≤ p ∧ p < k + 0) := by omega
    simp only [flips, this, decide_false, Bool.false_and, Bool.xor_false]
  | i + 1, h => by
    obtain ⟨h1, h2, h3⟩ := flips_ok (b := b) (k := k) (w := w) hb i (by omega)
    unfold flips
    by_cases hw : w.testBit i = true
    · rw [if_pos hw]
      refine ⟨flip_bytes h1 (by rw [h2]; omega), by rw [flip_len, h2], fun p hp => ?_⟩
      rw [flip_bit h1 (by rw [h2]; omega) (by rw [h2]; omega), h3 p hp, Bool.xor_assoc]
      congr 1
      by_cases e : p = k + i
      · subst e
        have a1 : ¬ (k ≤ k + i ∧ k + i < k + i) := by omega
        have a2 : k ≤ k + i ∧ k + i < k + (i + 1) := by omega
        rw [show k + i - k = i from by omega, hw]
        rw [decide_eq_false a1, decide_eq_true a2, decide_eq_true rfl]
        rfl
      · have a1 : (k ≤ p ∧ p < k + (i + 1)) ↔ (k ≤ p ∧ p < k + i) := by omega
        simp only [a1, e, decide_false, Bool.xor_false]
    · rw [if_neg hw]
      refine ⟨h1, h2, fun p hp => ?_⟩
      rw [h3 p hp]
      congr 1
      by_cases e : p = k + i
      · subst e
        have hf : w.testBit i = false := by simpa using hw
        rw [show k + i - k = i from by omega, hf]
        simp
      · have a1 : (k ≤ p ∧ p < k + (i + 1)) ↔ (k ≤ p ∧ p < k + i) := by omega
        simp only [a1]
end Go.Proofs.Ytjhajfkfhdnciaa.Pure

/- One octet of a block turned, in plain words. -/
set_option linter.unusedVariables false
set_option linter.unusedSimpArgs false
namespace Go.Proofs.Ytjhajfkfhdnciaa.Pure
open Go Go.Xw
theorem rest64 {fu : Nat} {a : Int} : rickyardref01_Rest.f fu a 64 = some (a % 64) := by
  unfold rickyardref01_Rest.f
  have e : Int.tmod a 64 = a % 64 ∨ Int.tmod a 64 = a % 64 - 64 ∧ a % 64 ≠ 0 := by
    rw [Int.tmod_eq_emod]
    split
    · left
      simp
    · right
      rename_i hd
      exact ⟨rfl, by omega⟩
  have w1 : IntKind.i64.wrap (Int.tmod a 64 + 64) = Int.tmod a 64 + 64 := w64 (by omega) (by omega)
  have e2 : Int.tmod (Int.tmod a 64 + 64) 64 = a % 64 := by
    rw [Int.tmod_eq_emod_of_nonneg (by omega)]
    omega
  simp [w1, e2]
/-- One octet turned by w. -/
def turn1 (b : List Int) (k w : Nat) : List Int := b.set k (bXor .u8 (ix b (k : Int)) (w : Int))
theorem turn1_ok {b : List Int} {k w : Nat} (hb : Bytes b) (hk : k < b.length) (hw : w < 256) : Bytes (turn1 b k w) ∧ (turn1 b k w).length = b.length ∧ turn1 (turn1 b k w) k w = b ∧ ∀ p, p < 8 * b.length → bitAt (turn1 b k w) p = (bitAt b p ^^ (decide (p / 8 = k) && w.testBit (p % 8))) := by
  have hc := ix_byte hb k hk
  obtain ⟨c, hcc⟩ : ∃ c : Nat, ix b (k : Int) = (c : Int) := ⟨(ix b (k : Int)).toNat, by omega⟩
  have hx : bXor .u8 (ix b (k : Int)) (w : Int) = ((c ^^^ w : Nat) : Int) := by
    rw [hcc]
    exact xor8 (by omega) hw
  have hlt : c ^^^ w < 2 ^ 8 := Nat.xor_lt_two_pow (by show c < 256; omega) hw
  have hg : b[k] = (c : Int) := by rw [← hcc, ix_nat hk]
  have ht : turn1 b k w = b.set k ((c ^^^ w : Nat) : Int) := by
    unfold turn1
    rw [hx]
  refine ⟨?_, by simp [turn1], ?_, ?_⟩
  · intro x hxm
    rw [ht] at hxm
    rcases List.mem_or_eq_of_mem_set hxm with h | rfl
    · exact hb x h
    · have : (2 : Nat) ^ 8 = 256 := rfl
      omega
  · rw [ht]
    unfold turn1
    have hk2 : k < (b.set k ((c ^^^ w : Nat) : Int)).length := by simpa using hk
    rw [ix_nat hk2, List.getElem_set_self, xor8 hlt hw, Nat.xor_assoc, Nat.xor_self, Nat.xor_zero, List.set_set, ← hg, List.set_getElem_self]
  · intro p hp
    rw [ht]
    unfold bitAt
    rw [ix_nat (by rw [List.length_set]; omega), ix_nat (l := b) (j := p / 8) (by omega), List.getElem_set]
    by_cases e : k = p / 8
    · subst e
      rw [if_pos rfl, hg, Int.toNat_natCast, Int.toNat_natCast, Nat.testBit_xor]
      simp
    · rw [if_neg e]
      have : ¬ p / 8 = k := fun h => e h.symm
      simp [this]
theorem octet_is {b : List Int} {k w : Nat} (hb : Bytes b) (hbl : b.length = 64) (hk : k < 64) (hw : w < 256) (h0 : w ≠ 0) (hi : Is b) : ¬ Is (turn1 b k w) := by
  obtain ⟨t1, t2, _, t3⟩ := turn1_ok (w := w) hb (by omega : k < b.length) hw
  obtain ⟨K, s, hK, hks, hs⟩ : ∃ K s : Nat, (K = 0 ∨ 32 ≤ K ∧ K + 32 ≤ 512) ∧ 8 * k = K + s ∧ s ≤ 24 := by
    by_cases h4 : k < 4
    · exact ⟨0, 8 * k, .inl rfl, by omega, by omega⟩
    · by_cases h60 : k ≤ 60
      · exact ⟨8 * k, 0, .inr (by omega), by omega, by omega⟩
      · exact ⟨480, 8 * k - 480, .inr (by omega), by omega, by omega⟩
  have hlt : w <<< s < 2 ^ 32 := by
    rw [Nat.shiftLeft_eq]
    have h1 : 2 ^ s ≤ 2 ^ 24 := Nat.pow_le_pow_right (by decide) hs
    have h2 : w * 2 ^ s ≤ 255 * 2 ^ 24 := Nat.mul_le_mul (by omega) h1
    exact Nat.lt_of_le_of_lt h2 (by decide)
  have hne : w <<< s ≠ 0 := by
    rw [Nat.shiftLeft_eq]
    have : 0 < 2 ^ s := Nat.pow_pos (by decide)
    exact Nat.mul_ne_zero h0 (by omega)
  refine turned (k := K) (w := w <<< s) hb t1 hbl (by rw [t2, hbl]) hlt hne hK ?_ hi
  intro p hp
  rw [t3 p (by omega)]
  congr 1
  unfold pat
  rw [Nat.testBit_shiftLeft]
  by_cases hin : p / 8 = k
  · have a1 : K ≤ p ∧ p < K + 32 := by omega
    have a2 : p - K ≥ s := by omega
    rw [show p - K - s = p % 8 from by omega, decide_eq_true hin, decide_eq_true a1, decide_eq_true a2]
    rfl
  · rw [decide_eq_false hin]
    by_cases a1 : K ≤ p ∧ p < K + 32
    · by_cases a2 : p - K ≥ s
      · have : w.testBit (p - K - s) = false := by
          apply Nat.testBit_lt_two_pow
          have h8 : 8 ≤ p - K - s := by omega
          exact Nat.lt_of_lt_of_le hw (Nat.pow_le_pow_right (n := 2) (by decide) h8)
        simp [this]
      · simp [a2]
    · simp [a1]
end Go.Proofs.Ytjhajfkfhdnciaa.Pure

/- The pure statement of SuperOctets. -/
set_option linter.unusedVariables false
set_option linter.unusedSimpArgs false
namespace Go.Proofs.Ytjhajfkfhdnciaa.Pure
open Go Go.Xw
theorem SuperOctets : ∀ (a0 : S_api_Super) (a1 : Int) (a2 : Int), ok_api_Super a0 → (Lit.int .i64 a1).wf = true → (Lit.int .u8 a2).wf = true → ∃ fu, rickyardlaw13_SuperOctets.f fu a0 a1 a2 = some true := by
  intro s at_ x hs ha hx
  refine ⟨400, ?_⟩
  have hx' := wf8.1 hx
  unfold rickyardlaw13_SuperOctets.f
  rw [awake13 (by decide)]
  by_cases h2 : (s.Charts.length : Int) > 100
  · rw [decide_eq_true h2]
    rfl
  · rw [decide_eq_false h2, rsuperRight_eq (by decide), superPut_eq (by decide)]
    by_cases h : SupOk s
    · obtain ⟨b1, b2⟩ := sup_sealed h
      have hget := superGet_put (fu := 400) h (by decide)
      obtain ⟨g1, _⟩ := sup_get h
      obtain ⟨b, hb⟩ : ∃ b, b = sealed (summed 7 (s.Charts.length : Int) (supE s)) := ⟨_, rfl⟩
      rw [← hb] at b1 b2 hget g1
      rw [if_pos h, ← hb, decide_eq_true h]
      obtain ⟨k, hk⟩ : ∃ k : Nat, at_ % 64 = (k : Int) := ⟨(at_ % 64).toNat, by omega⟩
      have hkl : k < b.length := by omega
      have hbl : (b.length : Int) = 64 := by omega
      have ck : 0 ≤ (k : Int) ∧ (k : Int) < (b.length : Int) := by omega
      rw [rest64, hk]
      simp only [Option.bind_some, Bool.not_true, Bool.false_eq_true, if_false, decide_eq_true hbl, if_pos ck, Int.toNat_natCast]
      have hc := ix_byte b1 k hkl
      by_cases e : ix b (k : Int) = x
      · have hset : b.set k x = b := by
          rw [← e, ix_nat hkl]
          exact List.set_getElem_self _
        rw [hset, hget, decide_eq_true e]
        rfl
      · obtain ⟨c, hcc⟩ : ∃ c : Nat, ix b (k : Int) = (c : Int) := ⟨(ix b (k : Int)).toNat, by omega⟩
        obtain ⟨y, hy⟩ : ∃ y : Nat, x = (y : Int) := ⟨x.toNat, by omega⟩
        have hlt : c ^^^ y < 2 ^ 8 := Nat.xor_lt_two_pow (by show c < 256; omega) (by show y < 256; omega)
        have hne : c ^^^ y ≠ 0 := by
          intro h0
          have : c = y := by
            have h1 : c ^^^ y ^^^ y = y := by rw [h0, Nat.zero_xor]
            rwa [Nat.xor_assoc, Nat.xor_self, Nat.xor_zero] at h1
          exact e (by rw [hcc, hy, this])
        have hset : b.set k x = turn1 b k (c ^^^ y) := by
          unfold turn1
          rw [hcc, xor8 (by omega) hlt, ← Nat.xor_assoc, Nat.xor_self, Nat.zero_xor, hy]
        have hno := octet_is b1 b2 (by omega : k < 64) hlt hne g1.1
        have ht := (turn1_ok (w := c ^^^ y) b1 hkl hlt)
        have hg2 : super_Get.f 400 (b.set k x) = some (noU, false) := by
          rw [hset, superGet_eq ht.1 (by rw [ht.2.1]; omega) (by decide), if_neg (fun q => hno q.1)]
        have hsm := rsuperSame_eq (fu := 400) (a := noU) (b := noU) (by decide) (by decide)
        unfold noU at hg2 hsm
        rw [hg2, decide_eq_false e]
        simp only [Option.bind_some, hsm]
        rfl
    · rw [decide_eq_false h]
      rfl
end Go.Proofs.Ytjhajfkfhdnciaa.Pure

/- The law SuperOctets holds for every input: the row, out of the walk of the law's function and of its pure statement. Written by rows.py. -/
namespace Go.Proofs.Ytjhajfkfhdnciaa.superOctets
open Go.ChangeShapes Go.WideShapes Go.ChangeAt Go.RowKit
open Go.ChangeMaps (open_string shut_string)
open Go Go.Xw
set_option linter.unusedVariables false
theorem own : ownKnob Try.prog.godebug = none := Facts.own
theorem laidOut : laidOutB Try.prog = true := Facts.laid
theorem closed : joinedFacts Try.pinned.checked.prog 24 Try.f24 Rows.superOctetsSpec Rows.superOctetsRow = true := by
  unfold joinedFacts
  rw [Facts.enter, Facts.lifts, Facts.make, Facts.laid, Facts.rowed, Facts.plain, Facts.heard]
  kernel_rfl
theorem enc_seg {α : Type} (K : Kd α) (a : α) : K.enc a = cellsOf [Kd.seg K a] := by simp [cellsOf, Kd.seg]
def start : Input := ⟨#[], #[.agg #[.int .i64 0, .int .i64 0, .int .i64 0, .int .i64 0, .int .i64 0, .int .i64 0, .int .i64 0, .int .i64 0, .slice none 0 0], .int .i64 0, .int .u8 0], []⟩
set_option maxRecDepth 100000 in
set_option maxHeartbeats 1000000 in
theorem lifted (os : Os) (started : os.Started) (H : Type) (enc : TypeId × Value → H) :
    ReturnsInHanded {} Try.checked os 24 .any (Rows.superOctetsSpec.pre6 enc Try.prog Try.f24 Rows.superOctetsRow.domain false) (Rows.superOctetsSpec.post enc Try.prog Try.f24 false true false false) := by
  refine returnsInHanded_of_change_sized (C := Try.checked) own started (by kernel_rfl) Try.func24
    (ChangeSpec.witness6 (enc := enc) (C := Try.checked) false start 8 (by kernel_rfl) (by kernel_rfl) (by kernel_rfl) (by kernel_rfl)) ?_
  intro W base args ds gs before hval0 hW hcnd hsz0 _
  have hval : ∀ (j : Nat) t v, Try.f24.params[j]? = some t → args[j]? = some v → Value.okWide Try.prog W .any base t v := hval0
  have hW' := hW
  obtain ⟨p, q, hA0, hV, rfl, hfz, hnd⟩ := hW
  have hA : DataW.TrodAll enc Try.prog W 0 (fun _ => true) true Try.f24.params.toList args.toList ds p := hA0
  rw [Try.params24] at hA hval
  obtain ⟨v0, vs0, d0, ds0, p0, q0, hargs, rfl, rfl, h0, r0⟩ := trodAll_cons hA
  obtain ⟨v1, vs1, d1, ds1, p1, q1, rfl, rfl, rfl, h1, r1⟩ := trodAll_cons r0
  obtain ⟨v2, vs2, d2, ds2, p2, q2, rfl, rfl, rfl, h2, r2⟩ := trodAll_cons r1
  obtain ⟨rfl, rfl, rfl⟩ := trodAll_nil r2
  obtain rfl : args = #[v0, v1, v2] := by cases args; simp_all
  obtain ⟨rfl, rfl⟩ := trodVars_none hV
  have k0 := h0
  have lt0 : ∀ x ∈ p0, x.block < W.heap.size := by obtain ⟨m, hm⟩ := k0; exact DataW.trod_lt m _ _ _ hm
  obtain ⟨fu0, hf0⟩ := h0
  obtain ⟨a0, V0_0, R0_0, e0, o0⟩ := opn_api_Super enc _ _ _ _ _ _ hf0
  obtain rfl := agg_of (by kernel_rfl) (hval 0 120 v0 rfl rfl) e0
  obtain ⟨a1, rfl, rfl, rfl, w1⟩ := open_int Try.underlying3 (hval 1 3 v1 rfl rfl) h1
  obtain ⟨a2, rfl, rfl, rfl, w2⟩ := open_int Try.underlying5 (hval 2 5 v2 rfl rfl) h2
  obtain ⟨fu, hfu⟩ := Pure.SuperOctets a0 a1 a2 o0 w1 w2
  refine Calls.mono (rickyardlaw13_SuperOctets.ok fu W a0 _ R0_0 a1 a2 true hfu) fun e W' hr => ?_
  obtain ⟨v, rfl, rfl, gr⟩ := hr
  have bel := Fr.below gr
  exact ⟨_, rfl, _, _, _, [], _, [], hW', trodAll_mk1 (shut_bool Try.underlying4 _), (trodAll_cons_mk (Below.trod laidOut (by kernel_rfl) (of_decide_eq_true (by kernel_rfl)) k0 bel lt0) (trodAll_cons_mk (shut_int Try.underlying3 w1) (trodAll_cons_mk (shut_int Try.underlying5 w2) trodAll_mk0))), rfl, bel.frame _, fun h => by cases h⟩
theorem over : Rows.superOctetsRow.holds Try.pinned (OpenSpec.ofChange Rows.superOctetsSpec) :=
  OpenClaim.holds_of_wide 24 Try.f24 rfl rfl rfl rfl rfl rfl rfl ⟨rfl, rfl, rfl, rfl, rfl⟩ rfl rfl rfl rfl rfl (by kernel_rfl) Try.func24 closed
    (of_decide_eq_true (by kernel_rfl)) (by unfold Func.isWrapper; first | (rw [if_pos (by decide +kernel)]; kernel_rfl) | (rw [if_neg (by decide +kernel)]; exact ⟨rfl, rfl⟩))
    (fun os started H enc _ => lifted os started H enc)
theorem proved : Rows.SuperOctetsSaid := over
end Go.Proofs.Ytjhajfkfhdnciaa.superOctets
namespace Go.Proofs.Ytjhajfkfhdnciaa
/-- The law holds. -/
theorem superOctets_holds : Rows.SuperOctetsSaid := superOctets.proved
#print axioms superOctets_holds
end Go.Proofs.Ytjhajfkfhdnciaa
