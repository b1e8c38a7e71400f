/- CellKids: texts merged, part 8 of 8. The last part proves that the law CellKids holds for every input. -/
import Derived.Test.YtdifnahlheogdaaGreatPkCellKids7
import Derived.OpenShut
import Derived.ProofKit
import Derived.ChangeOld
import Derived.Below
import Derived.SizedLaws
set_option maxRecDepth 100000
set_option maxHeartbeats 4000000
set_option linter.unusedVariables false
set_option linter.unusedSimpArgs false
set_option linter.unusedSectionVars false
namespace Go.Proofs.YtdifnahlheogdaaGreat.Pure
open Go Go.Xw Go.Yw
theorem contains_eq {fu : Nat} {l : List Int} {x : Int} (hl : l.length ≤ 9000000000000000000) (hf : l.length < fu) : slices_Contains.f fu l x = some (decide (x ∈ l)) := by
  unfold slices_Contains.f
  have hs : ∀ j : Nat, j < l.length → slices_Index.s0 fu l x (j : Int) = some (if x ≠ ix l (j : Int) then .inr ((j + 1 : Nat) : Int) else .inl (.inl (j : Int))) := by
    intro j hj
    unfold slices_Index.s0
    have h1 : (j : Int) < (l.length : Int) := by omega
    have c0 : 0 ≤ (j : Int) := by omega
    have w3 : IntKind.i64.wrap ((j : Int) + 1) = ((j + 1 : Nat) : Int) := by rw [w64 (by omega) (by omega)]; omega
    simp only [h1, c0, and_self, decide_true, if_true, w3]
    by_cases e : x = ix l (j : Int) <;> simp [e]
  have hi : ∃ r : Int, slices_Index.f fu l x = some r ∧ (r ≥ 0 ↔ x ∈ l) := by
    unfold slices_Index.f
    by_cases hk : x ∈ l
    · have hmin : ∀ m j, j ≤ m → (j < l.length ∧ x = ix l (j : Int)) → ∃ q, (q < l.length ∧ x = ix l (q : Int)) ∧ ∀ i, i < q → x ≠ ix l (i : Int) := by
        intro m
        induction m with
        | zero =>
          intro j hj hjj
          exact ⟨j, hjj, fun i hi => by omega⟩
        | succ m ih =>
          intro j hj hjj
          by_cases hx : ∃ i, i < j ∧ x = ix l (i : Int)
          · obtain ⟨i, hi, hgi⟩ := hx
            exact ih i (by omega) ⟨by omega, hgi⟩
          · exact ⟨j, hjj, fun i hi hg => hx ⟨i, hi, hg⟩⟩
      obtain ⟨j, hj, hjx⟩ := List.getElem_of_mem hk
      obtain ⟨q, ⟨hq, hg⟩, hall⟩ := hmin j j (Nat.le_refl _) ⟨hj, by rw [ix_nat hj, hjx]⟩
      have : loopM (slices_Index.s0 fu l x) fu 0 = some (.inl (q : Int)) :=
        loopM_run (S := fun j => (j : Int)) q rfl (fun i hi => by rw [hs i (by omega), if_pos (hall i hi)]) (by rw [hs q hq, if_neg (fun h => h hg)]) (by omega)
      rw [this]
      refine ⟨(q : Int), rfl, ?_⟩
      simp only [hk, iff_true]
      omega
    · have : loopM (slices_Index.s0 fu l x) fu 0 = some (.inr ()) := by
        refine loopM_run (S := fun j => (j : Int)) l.length rfl (fun j hj => ?_) ?_ hf
        · rw [hs j hj, if_pos]
          intro e
          rw [ix_nat hj] at e
          exact hk (by rw [e]; exact List.getElem_mem hj)
        · unfold slices_Index.s0
          simp
      rw [this]
      exact ⟨-1, rfl, by simp [hk]⟩
  obtain ⟨r, hr, hrk⟩ := hi
  rw [hr]
  exact congrArg some (decide_eq_decide.2 hrk)
def geoOk (g : S_api_Geometry) : Prop := (16 ≤ g.Blocks ∧ g.Blocks ≤ 3072) ∧ (1 ≤ g.Slots ∧ g.Slots ≤ 1792) ∧ (1 ≤ g.Gens ∧ g.Gens ≤ 4294967295)
instance (g : S_api_Geometry) : Decidable (geoOk g) := inferInstanceAs (Decidable (_ ∧ _))
theorem geo_form (g : S_api_Geometry) : (if (decide (g.Blocks ≥ 16)) = true then (if (decide (g.Blocks ≤ 3072)) = true then (if (decide (g.Slots ≥ 1)) = true then (if (decide (g.Slots ≤ 1792)) = true then (if (decide (g.Gens ≥ 1)) = true then (decide (g.Gens ≤ 4294967295)) else false) else false) else false) else false) else false) = decide (geoOk g) := by
  rw [Bool.eq_iff_iff]
  unfold geoOk
  simp only [decide_eq_true_eq, ge_iff_le]
  by_cases c1 : 16 ≤ g.Blocks
  · by_cases c2 : g.Blocks ≤ 3072
    · by_cases c3 : 1 ≤ g.Slots
      · by_cases c4 : g.Slots ≤ 1792
        · by_cases c5 : 1 ≤ g.Gens <;> simp [c1, c2, c3, c4, c5]
        · simp [c1, c2, c3, c4]
      · simp [c1, c2, c3]
    · simp [c1, c2]
  · simp [c1]
theorem geom_eq (fu : Nat) (g : S_api_Geometry) : geom_Right.f fu g = some (decide (geoOk g)) := by
  rw [← geo_form g]
  unfold geom_Right.f
  generalize decide (g.Blocks ≥ 16) = b1
  generalize decide (g.Blocks ≤ 3072) = b2
  generalize decide (g.Slots ≥ 1) = b3
  generalize decide (g.Slots ≤ 1792) = b4
  generalize decide (g.Gens ≥ 1) = b5
  cases b1 <;> cases b2 <;> cases b3 <;> cases b4 <;> cases b5 <;> rfl
theorem rgeom_eq (fu : Nat) (g : S_api_Geometry) : rickyardref12_Right.f fu g = some (decide (geoOk g)) := by
  rw [← geo_form g]
  unfold rickyardref12_Right.f
  generalize decide (g.Blocks ≥ 16) = b1
  generalize decide (g.Blocks ≤ 3072) = b2
  generalize decide (g.Slots ≥ 1) = b3
  generalize decide (g.Slots ≤ 1792) = b4
  generalize decide (g.Gens ≥ 1) = b5
  cases b1 <;> cases b2 <;> cases b3 <;> cases b4 <;> cases b5 <;> rfl
def chartsN (g : S_api_Geometry) : Int := (g.Blocks + 383) / 384
theorem charts_eq {fu : Nat} {g : S_api_Geometry} (h : geoOk g) : geom_Charts.f fu g = some (chartsN g) := by
  unfold geom_Charts.f geom_up.f
  rw [geom_eq, decide_eq_true h]
  unfold geoOk at h
  have w1 : IntKind.i64.wrap (g.Blocks + 384) = g.Blocks + 384 := w64 (by omega) (by omega)
  have w2 : IntKind.i64.wrap (g.Blocks + 384 - 1) = g.Blocks + 383 := by rw [w64 (by omega) (by omega)]; omega
  have e1 : Int.tdiv (g.Blocks + 383) 384 = (g.Blocks + 383) / 384 := Int.tdiv_eq_ediv_of_nonneg (by omega)
  have w3 : IntKind.i64.wrap ((g.Blocks + 383) / 384) = (g.Blocks + 383) / 384 := w64 (by omega) (by omega)
  simp [w1, w2, e1, w3, chartsN]
theorem rcharts_eq {fu : Nat} {g : S_api_Geometry} (h : geoOk g) (hf : 100 < fu) : rickyardref12_Charts.f fu g = some (chartsN g) := by
  unfold rickyardref12_Charts.f rickyardref12_Need.f
  unfold geoOk at h
  obtain ⟨n, hn⟩ : ∃ n : Nat, chartsN g = (n : Int) := ⟨(chartsN g).toNat, by unfold chartsN; omega⟩
  have hn' := hn
  unfold chartsN at hn'
  have : loopM (rickyardref12_Need.s0 fu g.Blocks 384) fu 0 = some (n : Int) := by
    refine loopM_run (S := fun j => (j : Int)) n rfl (fun j hj => ?_) ?_ (by omega)
    · unfold rickyardref12_Need.s0
      have w1 : IntKind.i64.wrap ((j : Int) * 384) = (j : Int) * 384 := w64 (by omega) (by omega)
      have w3 : IntKind.i64.wrap ((j : Int) + 1) = ((j + 1 : Nat) : Int) := by rw [w64 (by omega) (by omega)]; omega
      have h1 : (j : Int) * 384 < g.Blocks := by omega
      simp only [w1, w3, h1, decide_true, if_true]
    · unfold rickyardref12_Need.s0
      have w1 : IntKind.i64.wrap ((n : Int) * 384) = (n : Int) * 384 := w64 (by omega) (by omega)
      have h1 : ¬ (n : Int) * 384 < g.Blocks := by omega
      simp only [w1, h1, decide_false, Bool.false_eq_true, if_false]
  rw [this, hn]
  rfl
def inB (s : S_api_Super) (x : Int) : Prop := 2 ≤ x ∧ x < s.Tickets.Geometry.Blocks
instance (s : S_api_Super) (x : Int) : Decidable (inB s x) := inferInstanceAs (Decidable (_ ∧ _))
def supA (s : S_api_Super) : Prop := (1 ≤ s.Epoch ∧ s.Epoch ≤ 4611686018427387904) ∧ geoOk s.Tickets.Geometry
instance (s : S_api_Super) : Decidable (supA s) := inferInstanceAs (Decidable (_ ∧ _))
def supB (s : S_api_Super) : Prop := (0 ≤ s.Tickets.High ∧ s.Tickets.High ≤ s.Tickets.Geometry.Slots) ∧ (0 ≤ s.Tickets.Free ∧ s.Tickets.Free ≤ s.Tickets.High)
instance (s : S_api_Super) : Decidable (supB s) := inferInstanceAs (Decidable (_ ∧ _))
def topOk (s : S_api_Super) : Prop := (s.Tickets.High = 0 → s.Tickets.Top = 0) ∧ (s.Tickets.High ≠ 0 → inB s s.Tickets.Top)
instance (s : S_api_Super) : Decidable (topOk s) := inferInstanceAs (Decidable (_ ∧ _))
def dirNOk (s : S_api_Super) : Prop := s.Dir ≠ 0 → inB s s.Dir
instance (s : S_api_Super) : Decidable (dirNOk s) := inferInstanceAs (Decidable (_ → _))
def apartC (l : List Int) : Prop := ∀ j, j < l.length → ix l (j : Int) ∉ l.take j
instance (l : List Int) : Decidable (apartC l) := inferInstanceAs (Decidable (∀ j, j < l.length → _))
def insC (s : S_api_Super) : Prop := ∀ j, j < s.Charts.length → inB s (ix s.Charts (j : Int))
instance (s : S_api_Super) : Decidable (insC s) := inferInstanceAs (Decidable (∀ j, j < s.Charts.length → _))
def SupOk (s : S_api_Super) : Prop := supA s ∧ supB s ∧ topOk s ∧ dirNOk s ∧ (s.Charts.length : Int) = chartsN s.Tickets.Geometry ∧ insC s ∧ apartC s.Charts
instance (s : S_api_Super) : Decidable (SupOk s) := inferInstanceAs (Decidable (_ ∧ _))
theorem SupOk.len {s : S_api_Super} (h : SupOk s) : s.Charts.length ≤ 8 ∧ 1 ≤ s.Charts.length := by
  have h1 := h.1.2
  have h2 := h.2.2.2.2.1
  unfold geoOk at h1
  unfold chartsN at h2
  omega
theorem in_eq (fu : Nat) (x : Int) (s : S_api_Super) : super_Right_1_z1.f fu x s = some (decide (inB s x)) := by
  unfold super_Right_1_z1.f inB
  by_cases h : 2 ≤ x <;> simp [h]
def lenOk (s : S_api_Super) : Prop := (s.Charts.length : Int) = chartsN s.Tickets.Geometry
instance (s : S_api_Super) : Decidable (lenOk s) := inferInstanceAs (Decidable (_ = _))
theorem sup_loop {fu : Nat} {s : S_api_Super} (hl : s.Charts.length ≤ 50) (hf : 100 < fu) : loopM (super_Right.s0 fu s) fu 0 = some (if insC s ∧ apartC s.Charts then .inr () else .inl false) := by
  have hs : ∀ j : Nat, j < s.Charts.length → super_Right.s0 fu s (j : Int) = some (if inB s (ix s.Charts (j : Int)) ∧ ix s.Charts (j : Int) ∉ s.Charts.take j then .inr ((j + 1 : Nat) : Int) else .inl (.inl false)) := by
    intro j hj
    unfold super_Right.s0
    have h1 : (j : Int) < (s.Charts.length : Int) := by omega
    have h2 : (j : Int) ≤ (s.Charts.length : Int) := by omega
    have c0 : 0 ≤ (j : Int) := by omega
    have w3 : IntKind.i64.wrap ((j : Int) + 1) = ((j + 1 : Nat) : Int) := by rw [w64 (by omega) (by omega)]; omega
    have ec : cut s.Charts 0 (j : Int) = s.Charts.take j := by unfold cut; simp
    have hc : slices_Contains.f fu (s.Charts.take j) (ix s.Charts (j : Int)) = some (decide (ix s.Charts (j : Int) ∈ s.Charts.take j)) := contains_eq (by rw [List.length_take]; omega) (by rw [List.length_take]; omega)
    simp only [h1, h2, c0, and_self, decide_true, if_true, w3, in_eq, Option.bind_some, ec, hc]
    by_cases g1 : inB s (ix s.Charts (j : Int))
    · by_cases g2 : ix s.Charts (j : Int) ∈ s.Charts.take j <;> simp [g1, g2, c0, h2, ec, hc, w3]
    · simp [g1]
  by_cases h : insC s ∧ apartC s.Charts
  · rw [if_pos h]
    refine loopM_run (S := fun j => (j : Int)) s.Charts.length rfl (fun j hj => by rw [hs j hj, if_pos ⟨h.1 j hj, h.2 j hj⟩]) ?_ (by omega)
    unfold super_Right.s0
    simp
  · rw [if_neg h]
    refine loopM_bad (S := fun j => (j : Int)) s.Charts.length (fun j => inB s (ix s.Charts (j : Int)) ∧ ix s.Charts (j : Int) ∉ s.Charts.take j) rfl ?_ (fun j hj _ hg => by rw [hs j hj, if_pos hg]) (fun j hj _ hg => by rw [hs j hj, if_neg hg]) (by omega)
    apply Classical.byContradiction
    intro hx
    exact h ⟨fun i hi => Classical.byContradiction fun hg => hx ⟨i, hi, fun q => hg q.1⟩, fun i hi => Classical.byContradiction fun hg => hx ⟨i, hi, fun q => hg q.2⟩⟩
theorem superRight_eq {fu : Nat} {s : S_api_Super} (hf : 100 < fu) : super_Right.f fu s = some (decide (SupOk s)) := by
  unfold super_Right.f
  rw [show super_Right.s1 fu s = super_Right.s0 fu s from rfl, show super_Right.s2 fu s = super_Right.s0 fu s from rfl, show super_Right.s3 fu s = super_Right.s0 fu s from rfl, show super_Right.s4 fu s = super_Right.s0 fu s from rfl, show super_Right.s5 fu s = super_Right.s0 fu s from rfl, show super_Right.s6 fu s = super_Right.s0 fu s from rfl, show super_Right.s7 fu s = super_Right.s0 fu s from rfl]
  rw [geom_eq, Option.bind_some]
  by_cases hA : supA s
  · have hA' := hA
    unfold supA at hA'
    have c1 : ¬ s.Epoch < 1 := by omega
    have c2 : ¬ s.Epoch > 4611686018427387904 := by omega
    have hg := hA'.2
    rw [decide_eq_false c1, decide_eq_false c2, decide_eq_true hg]
    by_cases hB : supB s
    · have hB' := hB
      unfold supB at hB'
      have c3 : ¬ s.Tickets.High < 0 := by omega
      have c4 : ¬ s.Tickets.High > s.Tickets.Geometry.Slots := by omega
      have c5 : ¬ s.Tickets.Free < 0 := by omega
      have c6 : ¬ s.Tickets.Free > s.Tickets.High := by omega
      rw [decide_eq_false c3, decide_eq_false c4, decide_eq_false c5, decide_eq_false c6]
      simp only [Bool.not_true, Bool.false_eq_true, if_false, in_eq, charts_eq hg, Option.bind_some]
      generalize hK : (if (!decide ((s.Charts.length : Int) = chartsN s.Tickets.Geometry)) = true then some false else _) = K
      have key : K = some (decide (lenOk s ∧ insC s ∧ apartC s.Charts)) := by
        rw [← hK]
        by_cases hT : lenOk s
        · have hT' := hT
          unfold lenOk at hT'
          rw [decide_eq_true hT']
          have hlen : s.Charts.length ≤ 50 := by
            unfold chartsN at hT'
            unfold geoOk at hg
            omega
          rw [sup_loop hlen hf]
          by_cases hq : insC s ∧ apartC s.Charts
          · rw [if_pos hq, decide_eq_true (⟨hT, hq⟩ : lenOk s ∧ insC s ∧ apartC s.Charts)]
            rfl
          · rw [if_neg hq, decide_eq_false (fun x : lenOk s ∧ insC s ∧ apartC s.Charts => hq x.2)]
            rfl
        · have hT' : ¬ (s.Charts.length : Int) = chartsN s.Tickets.Geometry := hT
          rw [decide_eq_false hT', decide_eq_false (fun x : lenOk s ∧ insC s ∧ apartC s.Charts => hT x.1)]
          rfl
      have hS : SupOk s ↔ topOk s ∧ dirNOk s ∧ lenOk s ∧ insC s ∧ apartC s.Charts := ⟨fun x => ⟨x.2.2.1, x.2.2.2.1, x.2.2.2.2.1, x.2.2.2.2.2.1, x.2.2.2.2.2.2⟩, fun x => ⟨hA, hB, x.1, x.2.1, x.2.2.1, x.2.2.2.1, x.2.2.2.2⟩⟩
      rw [key, show decide (SupOk s) = decide (topOk s ∧ dirNOk s ∧ lenOk s ∧ insC s ∧ apartC s.Charts) from decide_eq_decide.2 hS]
      by_cases h0 : s.Tickets.High = 0
      · have h1 : ¬ s.Tickets.High > 0 := by omega
        by_cases ht : s.Tickets.Top = 0
        · have hT : topOk s := ⟨fun _ => ht, fun x => absurd h0 x⟩
          by_cases hd : s.Dir = 0
          · have hD : dirNOk s := fun x => absurd hd x
            simp [h0, ht, hd, hT, hD]
          · by_cases hi : inB s s.Dir
            · have hD : dirNOk s := fun _ => hi
              simp [h0, ht, hd, hi, hT, hD]
            · have hD : ¬ dirNOk s := fun x => hi (x hd)
              simp [h0, ht, hd, hi, hT, hD]
        · have hT : ¬ topOk s := fun x => ht (x.1 h0)
          simp [h0, ht, hT]
      · have h1 : s.Tickets.High > 0 := by omega
        by_cases ht : inB s s.Tickets.Top
        · have hT : topOk s := ⟨fun x => absurd x h0, fun _ => ht⟩
          by_cases hd : s.Dir = 0
          · have hD : dirNOk s := fun x => absurd hd x
            simp [h0, h1, ht, hd, hT, hD]
          · by_cases hi : inB s s.Dir
            · have hD : dirNOk s := fun _ => hi
              simp [h0, h1, ht, hd, hi, hT, hD]
            · have hD : ¬ dirNOk s := fun x => hi (x hd)
              simp [h0, h1, ht, hd, hi, hT, hD]
        · have hT : ¬ topOk s := fun x => ht (x.2 h0)
          simp [h0, h1, ht, hT]
    · rw [decide_eq_false (fun x : SupOk s => hB x.2.1)]
      unfold supB at hB
      by_cases c3 : s.Tickets.High < 0
      · rw [decide_eq_true c3]
        rfl
      · by_cases c4 : s.Tickets.High > s.Tickets.Geometry.Slots
        · rw [decide_eq_false c3, decide_eq_true c4]
          rfl
        · by_cases c5 : s.Tickets.Free < 0
          · rw [decide_eq_false c3, decide_eq_false c4, decide_eq_true c5]
            rfl
          · have c6 : s.Tickets.Free > s.Tickets.High := by omega
            rw [decide_eq_false c3, decide_eq_false c4, decide_eq_false c5, decide_eq_true c6]
            rfl
  · rw [decide_eq_false (fun x : SupOk s => hA x.1)]
    unfold supA at hA
    by_cases c1 : s.Epoch < 1
    · rw [decide_eq_true c1]
      rfl
    · by_cases c2 : s.Epoch > 4611686018427387904
      · rw [decide_eq_false c1, decide_eq_true c2]
        rfl
      · have c3 : ¬ geoOk s.Tickets.Geometry := fun x => hA ⟨by omega, x⟩
        rw [decide_eq_false c1, decide_eq_false c2, decide_eq_false c3]
        rfl
def needL (s : S_api_Super) : List Int := (if s.Tickets.High = 0 then [] else [s.Tickets.Top]) ++ (if s.Dir = 0 then [] else [s.Dir])
theorem needL_len (s : S_api_Super) : (needL s).length ≤ 2 := by
  unfold needL
  split <;> split <;> simp
theorem mem_ix {l : List Int} {p : Int → Prop} : (∀ x ∈ l, p x) ↔ ∀ j, j < l.length → p (ix l (j : Int)) := by
  constructor
  · intro h j hj
    rw [ix_nat hj]
    exact h _ (List.getElem_mem hj)
  · intro h x hx
    obtain ⟨j, hj, rfl⟩ := List.getElem_of_mem hx
    have := h j hj
    rwa [ix_nat hj] at this
theorem rs2_eq {fu : Nat} {s : S_api_Super} {nd : List Int} {j : Nat} (hj : j < s.Charts.length) (hl : s.Charts.length ≤ 50) (hf : 100 < fu) : loopM (rickyardref13_Right.s1 fu s (nd, (j : Int))) fu 0 = some (if ix s.Charts (j : Int) ∉ s.Charts.take j then .inr () else .inl (.inl (.inl false))) := by
  have hs : ∀ i : Nat, i < j → rickyardref13_Right.s1 fu s (nd, (j : Int)) (i : Int) = some (if ix s.Charts (i : Int) ≠ ix s.Charts (j : Int) then .inr ((i + 1 : Nat) : Int) else .inl (.inl (.inl (.inl false)))) := by
    intro i hi
    unfold rickyardref13_Right.s1
    have h1 : (i : Int) < (j : Int) := by omega
    have h2 : (i : Int) < (s.Charts.length : Int) := by omega
    have h3 : (j : Int) < (s.Charts.length : Int) := by omega
    have c0 : 0 ≤ (i : Int) := by omega
    have c1 : 0 ≤ (j : Int) := by omega
    have w3 : IntKind.i64.wrap ((i : Int) + 1) = ((i + 1 : Nat) : Int) := by rw [w64 (by omega) (by omega)]; omega
    simp only [h1, h2, h3, c0, c1, and_self, decide_true, if_true, w3]
    by_cases e : ix s.Charts (i : Int) = ix s.Charts (j : Int) <;> simp [e]
  have hmem : ix s.Charts (j : Int) ∉ s.Charts.take j ↔ ∀ i, i < j → ix s.Charts (i : Int) ≠ ix s.Charts (j : Int) := by
    constructor
    · intro h i hi e
      apply h
      rw [← e, ix_nat (show i < s.Charts.length by omega)]
      exact List.mem_take_iff_getElem.2 ⟨i, by omega, rfl⟩
    · intro h hm
      obtain ⟨i, hi, he⟩ := List.mem_take_iff_getElem.1 hm
      exact h i (by omega) (by rw [ix_nat (show i < s.Charts.length by omega)]; exact he)
  by_cases h : ix s.Charts (j : Int) ∉ s.Charts.take j
  · rw [if_pos h]
    refine loopM_run (S := fun i => (i : Int)) j rfl (fun i hi => by rw [hs i hi, if_pos (hmem.1 h i hi)]) ?_ (by omega)
    unfold rickyardref13_Right.s1
    simp
  · rw [if_neg h]
    refine loopM_bad (S := fun i => (i : Int)) j (fun i => ix s.Charts (i : Int) ≠ ix s.Charts (j : Int)) rfl ?_ (fun i hi _ hg => by rw [hs i hi, if_pos hg]) (fun i hi _ hg => by rw [hs i hi, if_neg hg]) (by omega)
    apply Classical.byContradiction
    intro hx
    exact h (hmem.2 fun i hi => Classical.byContradiction fun hg => hx ⟨i, hi, hg⟩)
theorem rs1_eq {fu : Nat} {s : S_api_Super} (hl : s.Charts.length ≤ 50) (hf : 100 < fu) : loopM (rickyardref13_Right.s0 fu s) fu (needL s, 0) = some (if apartC s.Charts then .inr (needL s ++ s.Charts) else .inl false) := by
  have hn := needL_len s
  have hs : ∀ j : Nat, j < s.Charts.length → rickyardref13_Right.s0 fu s (needL s ++ s.Charts.take j, (j : Int)) = some (if ix s.Charts (j : Int) ∉ s.Charts.take j then .inr (needL s ++ s.Charts.take (j + 1), ((j + 1 : Nat) : Int)) else .inl (.inl false)) := by
    intro j hj
    unfold rickyardref13_Right.s0
    have h2 : (j : Int) < (s.Charts.length : Int) := by omega
    have c0 : 0 ≤ (j : Int) := by omega
    have w3 : IntKind.i64.wrap ((j : Int) + 1) = ((j + 1 : Nat) : Int) := by rw [w64 (by omega) (by omega)]; omega
    have hlim : (needL s ++ s.Charts.take j).length + ([ix s.Charts (j : Int)] : List Int).length ≤ LIM := lim_of' (by rw [List.length_append, List.length_take]; simp; omega)
    have e : needL s ++ s.Charts.take (j + 1) = needL s ++ s.Charts.take j ++ [ix s.Charts (j : Int)] := by
      rw [List.take_add_one, List.getElem?_eq_getElem hj, ix_nat hj, List.append_assoc]
      rfl
    simp only [h2, c0, and_self, decide_true, if_true, w3, hlim, rs2_eq hj hl hf, e]
    by_cases g : ix s.Charts (j : Int) ∉ s.Charts.take j
    · rw [if_pos g, if_pos g]
      rfl
    · rw [if_neg g, if_neg g]
      rfl
  by_cases h : apartC s.Charts
  · rw [if_pos h]
    refine loopM_run (S := fun j => (needL s ++ s.Charts.take j, (j : Int))) s.Charts.length (by simp) (fun j hj => by rw [hs j hj, if_pos (h j hj)]) ?_ (by omega)
    unfold rickyardref13_Right.s0
    simp
  · rw [if_neg h]
    refine loopM_bad (S := fun j => (needL s ++ s.Charts.take j, (j : Int))) s.Charts.length (fun j => ix s.Charts (j : Int) ∉ s.Charts.take j) (by simp) ?_ (fun j hj _ hg => by rw [hs j hj, if_pos hg]) (fun j hj _ hg => by rw [hs j hj, if_neg hg]) (by omega)
    apply Classical.byContradiction
    intro hx
    exact h fun i hi => Classical.byContradiction fun hg => hx ⟨i, hi, hg⟩
theorem rs3_eq {fu : Nat} {s : S_api_Super} {l : List Int} (hl : l.length ≤ 60) (hf : 100 < fu) : loopM (rickyardref13_Right.s2 fu s l) fu 0 = some (if ∀ j, j < l.length → inB s (ix l (j : Int)) then .inr () else .inl false) := by
  have hs : ∀ j : Nat, j < l.length → rickyardref13_Right.s2 fu s l (j : Int) = some (if inB s (ix l (j : Int)) then .inr ((j + 1 : Nat) : Int) else .inl (.inl false)) := by
    intro j hj
    unfold rickyardref13_Right.s2
    have h2 : (j : Int) < (l.length : Int) := by omega
    have c0 : 0 ≤ (j : Int) := by omega
    have w3 : IntKind.i64.wrap ((j : Int) + 1) = ((j + 1 : Nat) : Int) := by rw [w64 (by omega) (by omega)]; omega
    simp only [h2, c0, and_self, decide_true, if_true, w3]
    by_cases g1 : ix l (j : Int) < 2
    · have g : ¬ inB s (ix l (j : Int)) := fun x => by unfold inB at x; omega
      rw [decide_eq_true g1, if_neg g]
      rfl
    · by_cases g2 : ix l (j : Int) ≥ s.Tickets.Geometry.Blocks
      · have g : ¬ inB s (ix l (j : Int)) := fun x => by unfold inB at x; omega
        rw [decide_eq_false g1, decide_eq_true g2, if_neg g]
        rfl
      · have g : inB s (ix l (j : Int)) := ⟨by omega, by omega⟩
        rw [decide_eq_false g1, decide_eq_false g2, if_pos g]
        rfl
  by_cases h : ∀ j, j < l.length → inB s (ix l (j : Int))
  · rw [if_pos h]
    refine loopM_run (S := fun j => (j : Int)) l.length rfl (fun j hj => by rw [hs j hj, if_pos (h j hj)]) ?_ (by omega)
    unfold rickyardref13_Right.s2
    simp
  · rw [if_neg h]
    refine loopM_bad (S := fun j => (j : Int)) l.length (fun j => inB s (ix l (j : Int))) rfl ?_ (fun j hj _ hg => by rw [hs j hj, if_pos hg]) (fun j hj _ hg => by rw [hs j hj, if_neg hg]) (by omega)
    apply Classical.byContradiction
    intro hx
    exact h fun i hi => Classical.byContradiction fun hg => hx ⟨i, hi, hg⟩
theorem rsuperRight_eq {fu : Nat} {s : S_api_Super} (hf : 100 < fu) : rickyardref13_Right.f fu s = some (decide (SupOk s)) := by
  unfold rickyardref13_Right.f
  rw [rgeom_eq]
  by_cases hA : supA s
  · have hA' := hA
    unfold supA at hA'
    have hg := hA.2
    have hg' := hg
    unfold geoOk at hg'
    have c1 : ¬ s.Epoch < 1 := by omega
    have c2 : ¬ s.Epoch > 4611686018427387904 := by omega
    rw [decide_eq_false c1, decide_eq_false c2, decide_eq_true hg, rcharts_eq hg hf]
    simp only [Bool.false_eq_true, if_false, Option.bind_some, Bool.not_true]
    by_cases hB : supB s
    · have hB' := hB
      unfold supB at hB'
      have c3 : ¬ s.Tickets.High < 0 := by omega
      have c4 : ¬ s.Tickets.High > s.Tickets.Geometry.Slots := by omega
      have c5 : ¬ s.Tickets.Free < 0 := by omega
      have c6 : ¬ s.Tickets.Free > s.Tickets.High := by omega
      rw [decide_eq_false c3, decide_eq_false c4, decide_eq_false c5, decide_eq_false c6]
      simp only [Bool.false_eq_true, if_false, Option.bind_some]
      by_cases hL : (s.Charts.length : Int) = chartsN s.Tickets.Geometry
      · rw [decide_eq_true hL]
        simp only [Bool.not_true, Bool.false_eq_true, if_false]
        have hlen : s.Charts.length ≤ 50 := by unfold chartsN at hL; omega
        have hn := needL_len s
        have fin : (((loopM (rickyardref13_Right.s0 fu s) fu (needL s, 0)).bind fun e99 => match e99 with | Sum.inl p => some p | Sum.inr x102 => ((loopM (rickyardref13_Right.s2 fu s x102) fu (0)).bind fun e150 => match e150 with | Sum.inl p => some p | Sum.inr x153 => some (true)))) = some (decide (apartC s.Charts ∧ ∀ x ∈ needL s ++ s.Charts, inB s x)) := by
          rw [rs1_eq hlen hf]
          by_cases ha : apartC s.Charts
          · rw [if_pos ha]
            simp only [Option.bind_some]
            rw [rs3_eq (by rw [List.length_append]; omega) hf]
            by_cases hi : ∀ j, j < (needL s ++ s.Charts).length → inB s (ix (needL s ++ s.Charts) (j : Int))
            · rw [if_pos hi, decide_eq_true (⟨ha, mem_ix.2 hi⟩ : apartC s.Charts ∧ ∀ x ∈ needL s ++ s.Charts, inB s x)]
              rfl
            · rw [if_neg hi, decide_eq_false (fun x : apartC s.Charts ∧ ∀ x ∈ needL s ++ s.Charts, inB s x => hi (mem_ix.1 x.2))]
              rfl
          · rw [if_neg ha, decide_eq_false (fun x : apartC s.Charts ∧ ∀ x ∈ needL s ++ s.Charts, inB s x => ha x.1)]
            rfl
        have same : (s.Tickets.High = 0 → s.Tickets.Top = 0) → (decide (apartC s.Charts ∧ ∀ x ∈ needL s ++ s.Charts, inB s x)) = decide (SupOk s) := by
          intro ht
          apply decide_eq_decide.2
          constructor
          · rintro ⟨ha, hi⟩
            refine ⟨hA, hB, ⟨ht, fun hh => hi _ ?_⟩, fun hd => hi _ ?_, hL, mem_ix.1 fun x hx => hi x (List.mem_append_right _ hx), ha⟩
            · apply List.mem_append_left
              unfold needL
              rw [if_neg hh]
              simp
            · apply List.mem_append_left
              unfold needL
              rw [if_neg hd]
              simp
          · intro h
            refine ⟨h.2.2.2.2.2.2, fun x hx => ?_⟩
            rcases List.mem_append.1 hx with hx | hx
            · unfold needL at hx
              rcases List.mem_append.1 hx with hx | hx
              · by_cases h0 : s.Tickets.High = 0
                · rw [if_pos h0] at hx
                  simp at hx
                · rw [if_neg h0] at hx
                  rw [List.mem_singleton.1 hx]
                  exact h.2.2.1.2 h0
              · by_cases h0 : s.Dir = 0
                · rw [if_pos h0] at hx
                  simp at hx
                · rw [if_neg h0] at hx
                  rw [List.mem_singleton.1 hx]
                  exact h.2.2.2.1 h0
            · exact mem_ix.2 h.2.2.2.2.2.1 x hx
        have l1 : ([] : List Int).length + ([s.Tickets.Top] : List Int).length ≤ LIM := lim_of' (by simp)
        by_cases h0 : s.Tickets.High = 0
        · rw [decide_eq_true h0]
          simp only [if_true]
          by_cases ht : s.Tickets.Top = 0
          · rw [decide_eq_true ht]
            simp only [Bool.not_true, Bool.false_eq_true, if_false, Option.bind_some]
            have hsame := same (fun _ => ht)
            by_cases hd : s.Dir = 0
            · rw [decide_eq_true hd]
              have hneed : needL s = [] := by unfold needL; rw [if_pos h0, if_pos hd]; rfl
              rw [← hsame, ← fin, hneed]
              rfl
            · rw [decide_eq_false hd]
              have hneed : needL s = [] ++ [s.Dir] := by unfold needL; rw [if_pos h0, if_neg hd]
              have l2 : ([] : List Int).length + ([s.Dir] : List Int).length ≤ LIM := lim_of' (by simp)
              rw [← hsame, ← fin, hneed]
              simp only [Bool.not_false, if_true, if_pos l2, Option.bind_some]
              rfl
          · rw [decide_eq_false ht]
            have : ¬ SupOk s := fun x => ht (x.2.2.1.1 h0)
            rw [decide_eq_false this]
            rfl
        · rw [decide_eq_false h0]
          simp only [Bool.false_eq_true, if_false, if_pos l1, Option.bind_some]
          have hsame := same (fun x => absurd x h0)
          by_cases hd : s.Dir = 0
          · rw [decide_eq_true hd]
            have hneed : needL s = [] ++ [s.Tickets.Top] := by unfold needL; rw [if_neg h0, if_pos hd]; rfl
            rw [← hsame, ← fin, hneed]
            rfl
          · rw [decide_eq_false hd]
            have hneed : needL s = [] ++ [s.Tickets.Top] ++ [s.Dir] := by unfold needL; rw [if_neg h0, if_neg hd]; rfl
            have l2 : ([] ++ [s.Tickets.Top] : List Int).length + ([s.Dir] : List Int).length ≤ LIM := lim_of' (by simp)
            rw [← hsame, ← fin, hneed]
            simp only [Bool.not_false, if_true, if_pos l2, Option.bind_some]
            rfl
      · rw [decide_eq_false hL, decide_eq_false (fun x : SupOk s => hL x.2.2.2.2.1)]
        rfl
    · rw [decide_eq_false (fun x : SupOk s => hB x.2.1)]
      unfold supB at hB
      by_cases c3 : s.Tickets.High < 0
      · rw [decide_eq_true c3]
        rfl
      · by_cases c4 : s.Tickets.High > s.Tickets.Geometry.Slots
        · rw [decide_eq_false c3, decide_eq_true c4]
          rfl
        · by_cases c5 : s.Tickets.Free < 0
          · rw [decide_eq_false c3, decide_eq_false c4, decide_eq_true c5]
            rfl
          · have c6 : s.Tickets.Free > s.Tickets.High := by omega
            rw [decide_eq_false c3, decide_eq_false c4, decide_eq_false c5, decide_eq_true c6]
            rfl
  · rw [decide_eq_false (fun x : SupOk s => hA x.1)]
    unfold supA at hA
    by_cases c1 : s.Epoch < 1
    · rw [decide_eq_true c1]
      rfl
    · by_cases c2 : s.Epoch > 4611686018427387904
      · rw [decide_eq_false c1, decide_eq_true c2]
        rfl
      · have c3 : ¬ geoOk s.Tickets.Geometry := fun x => hA ⟨by omega, x⟩
        rw [decide_eq_false c1, decide_eq_false c2, decide_eq_false c3]
        rfl
def supH (s : S_api_Super) : List Int := lay (u64n s.Epoch) 8 ++ (lay (u64n s.Tickets.Geometry.Blocks) 4 ++ (lay (u64n s.Tickets.Geometry.Slots) 4 ++ (lay (u64n s.Tickets.Geometry.Gens) 4 ++ (lay (u64n s.Tickets.High) 4 ++ (lay (u64n s.Tickets.Free) 4 ++ (lay (u64n s.Tickets.Top) 2 ++ lay (u64n s.Dir) 2))))))
theorem supH_len (s : S_api_Super) : (supH s).length = 32 := by simp [supH, lay_len]
theorem supH_bytes (s : S_api_Super) : Bytes (supH s) := (lay_bytes _ _).app ((lay_bytes _ _).app ((lay_bytes _ _).app ((lay_bytes _ _).app ((lay_bytes _ _).app ((lay_bytes _ _).app ((lay_bytes _ _).app (lay_bytes _ _)))))))
def supE (s : S_api_Super) : List Int := supH s ++ rowE s.Charts s.Charts.length
theorem supE_len (s : S_api_Super) : (supE s).length = 32 + 2 * s.Charts.length := by simp [supE, supH_len, rowE_len]
theorem supE_bytes (s : S_api_Super) : Bytes (supE s) := (supH_bytes _).app (rowE_bytes _ _)
theorem octets1_eq {fu : Nat} {x : Int} (hf : 100 < fu) : octet_Octets.f fu [(IntKind.u64.wrap x)] = some (lay (u64n x) 8) := by
  unfold octet_Octets.f
  have hl : ∀ z : Int, octet_Lay.f fu (IntKind.u64.wrap z) 8 = some (lay (u64n z) 8) := fun z => olay64 (n := 8) (by decide) (by omega)
  have : loopM (octet_Octets.s0 fu [(IntKind.u64.wrap x)]) fu ([], 0) = some (lay (u64n x) 8) := by
    refine loopM_run (S := fun j => (if j = 0 then [] else lay (u64n x) 8, (j : Int))) 1 rfl ?_ ?_ (by omega)
    · intro j hj
      obtain rfl : j = 0 := by omega
      unfold octet_Octets.s0
      have l0 : (0 : Nat) + 8 ≤ LIM := lim_of' (by decide)
      simp [hl, ix, lay_len, w64, l0]
    · unfold octet_Octets.s0
      simp
  rw [this]
  rfl
def five (s : S_api_Super) (i : Nat) : Int := if i = 0 then s.Tickets.Geometry.Blocks else if i = 1 then s.Tickets.Geometry.Slots else if i = 2 then s.Tickets.Geometry.Gens else if i = 3 then s.Tickets.High else s.Tickets.Free
theorem superPut_eq {fu : Nat} {s : S_api_Super} (hf : 100 < fu) : super_Put.f fu s = some (if SupOk s then (sealed (summed 7 (s.Charts.length : Int) (supE s)), true) else ([], false)) := by
  unfold super_Put.f
  rw [superRight_eq hf]
  by_cases h : SupOk s
  · have k1 := h.len
    have hl4 : ∀ z : Int, octet_Lay.f fu (IntKind.u64.wrap z) 4 = some (lay (u64n z) 4) := fun z => olay64 (n := 4) (by decide) (by omega)
    have hl2 : ∀ z : Int, octet_Lay.f fu (IntKind.u64.wrap z) 2 = some (lay (u64n z) 2) := fun z => olay64 (n := 2) (by decide) (by omega)
    have eH : lay (u64n s.Epoch) 8 ++ ((List.range 5).flatMap fun i => lay (u64n (five s i)) 4) ++ rowE ([s.Tickets.Top, s.Dir] ++ s.Charts) (2 + s.Charts.length) = supE s := by
      have e1 : rowE ([s.Tickets.Top, s.Dir] ++ s.Charts) (2 + s.Charts.length) = lay (u64n s.Tickets.Top) 2 ++ (lay (u64n s.Dir) 2 ++ rowE s.Charts s.Charts.length) := by
        unfold rowE
        rw [List.range_add, List.flatMap_append]
        have e0 : (List.range 2).flatMap (fun (i : Nat) => lay (u64n (ix ([s.Tickets.Top, s.Dir] ++ s.Charts) (i : Int))) 2) = lay (u64n s.Tickets.Top) 2 ++ lay (u64n s.Dir) 2 := by
          show lay _ 2 ++ (lay _ 2 ++ []) = _
          rw [List.append_nil]
          rfl
        rw [e0, List.append_assoc]
        congr 2
        rw [List.flatMap_map]
        apply flat_congr
        intro i hi
        congr 2
        unfold ix
        rw [Int.toNat_natCast, Int.toNat_natCast, List.getD_eq_getElem?_getD, List.getD_eq_getElem?_getD, List.getElem?_append_right (by simp)]
        congr 2
        simp
      rw [e1]
      have e2 : (List.range 5).flatMap (fun i => lay (u64n (five s i)) 4) = lay (u64n s.Tickets.Geometry.Blocks) 4 ++ (lay (u64n s.Tickets.Geometry.Slots) 4 ++ (lay (u64n s.Tickets.Geometry.Gens) 4 ++ (lay (u64n s.Tickets.High) 4 ++ lay (u64n s.Tickets.Free) 4))) := by
        show lay _ 4 ++ (lay _ 4 ++ (lay _ 4 ++ (lay _ 4 ++ (lay _ 4 ++ [])))) = _
        rw [List.append_nil]
        rfl
      rw [e2]
      unfold supE supH
      simp only [List.append_assoc]
    have hlen2 : ([s.Tickets.Top, s.Dir] ++ s.Charts).length = 2 + s.Charts.length := by simp; omega
    have h5 : (lay (u64n s.Epoch) 8 ++ (List.range 5).flatMap fun i => lay (u64n (five s i)) 4).length = 28 := by
      rw [List.length_append, lay_len, flat_len (w := 4) (fun i => lay_len _ _)]
    have loop1 : loopM (super_Put.s0 fu s) fu (lay (u64n s.Epoch) 8 ++ (List.range 5).flatMap fun i => lay (u64n (five s i)) 4, 0) = some (supE s) := by
      refine loopM_run (S := fun j => (lay (u64n s.Epoch) 8 ++ ((List.range 5).flatMap fun i => lay (u64n (five s i)) 4) ++ rowE ([s.Tickets.Top, s.Dir] ++ s.Charts) j, (j : Int))) (2 + s.Charts.length) (by simp [rowE]) ?_ ?_ (by omega)
      · intro j hj
        unfold super_Put.s0
        have h1 : (j : Int) < (([s.Tickets.Top, s.Dir] ++ s.Charts).length : Int) := by omega
        have c0 : 0 ≤ (j : Int) := by omega
        have w3 : IntKind.i64.wrap ((j : Int) + 1) = ((j + 1 : Nat) : Int) := by rw [w64 (by omega) (by omega)]; omega
        have hlim : (lay (u64n s.Epoch) 8 ++ ((List.range 5).flatMap fun i => lay (u64n (five s i)) 4) ++ rowE ([s.Tickets.Top, s.Dir] ++ s.Charts) j).length + (lay (u64n (ix ([s.Tickets.Top, s.Dir] ++ s.Charts) (j : Int))) 2).length ≤ LIM := lim_of' (by rw [List.length_append, h5, rowE_len, lay_len]; omega)
        simp only [h1, c0, and_self, decide_true, if_true, w3, hl2, Option.bind_some]
        rw [if_pos hlim, List.append_assoc]
        congr 4
        rw [rowE, rowE, flat_succ]
      · unfold super_Put.s0
        rw [hlen2, eH]
        simp
    have hlim3 : ([s.Tickets.Top, s.Dir] : List Int).length + s.Charts.length ≤ LIM := lim_of' (by simp; omega)
    have hs := seal_eq (fu := fu) (k := 7) (t := (s.Charts.length : Int)) (supE_bytes s) (by omega) (by omega) (by rw [supE_len]; omega) hf
    have e5 : ((((lay (u64n s.Epoch) 8 ++ lay (u64n s.Tickets.Geometry.Blocks) 4) ++ lay (u64n s.Tickets.Geometry.Slots) 4) ++ lay (u64n s.Tickets.Geometry.Gens) 4) ++ lay (u64n s.Tickets.High) 4) ++ lay (u64n s.Tickets.Free) 4 = lay (u64n s.Epoch) 8 ++ (List.range 5).flatMap fun i => lay (u64n (five s i)) 4 := by
      show _ = lay (u64n s.Epoch) 8 ++ (lay _ 4 ++ (lay _ 4 ++ (lay _ 4 ++ (lay _ 4 ++ (lay _ 4 ++ [])))))
      rw [List.append_nil]
      simp only [List.append_assoc]
      rfl
    have lim : ∀ {a : List Int} {b : List Int}, a.length + b.length ≤ 1000 → a.length + b.length ≤ LIM := fun h => lim_of' h
    rw [decide_eq_true h, if_pos h]
    simp only [Bool.not_true, Bool.false_eq_true, if_false, octets1_eq hf, hl4, Option.bind_some]
    rw [if_pos (lim (by simp only [List.length_append, lay_len]; decide)), if_pos (lim (by simp only [List.length_append, lay_len]; decide)), if_pos (lim (by simp only [List.length_append, lay_len]; decide)), if_pos (lim (by simp only [List.length_append, lay_len]; decide)), if_pos (lim (by simp only [List.length_append, lay_len]; decide)), if_pos hlim3, e5, loop1, Option.bind_some, hs]
    rfl
  · simp [h]
theorem rsuperPut_eq {fu : Nat} {s : S_api_Super} (hk : s.Charts.length ≤ 8) (hf : 100 < fu) : rickyardref13_Put.f fu s = some ((sealed (summed 7 (s.Charts.length : Int) (supE s))).map toB) := by
  unfold rickyardref13_Put.f
  have hl8 : ∀ z : Int, rickyardref01_Lay.f fu (IntKind.u64.wrap z) 8 = some ((lay (u64n z) 8).map toB) := fun z => rlay64 (n := 8) (by decide) (by omega)
  have hl4 : ∀ z : Int, rickyardref01_Lay.f fu (IntKind.u64.wrap z) 4 = some ((lay (u64n z) 4).map toB) := fun z => rlay64 (n := 4) (by decide) (by omega)
  have hl2 : ∀ z : Int, rickyardref01_Lay.f fu (IntKind.u64.wrap z) 2 = some ((lay (u64n z) 2).map toB) := fun z => rlay64 (n := 2) (by decide) (by omega)
  have e0 : (lay (u64n s.Epoch) 8).map toB ++ (lay (u64n s.Tickets.Geometry.Blocks) 4).map toB ++ (lay (u64n s.Tickets.Geometry.Slots) 4).map toB ++ (lay (u64n s.Tickets.Geometry.Gens) 4).map toB ++ (lay (u64n s.Tickets.High) 4).map toB ++ (lay (u64n s.Tickets.Free) 4).map toB ++ (lay (u64n s.Tickets.Top) 2).map toB ++ (lay (u64n s.Dir) 2).map toB = (supH s).map toB := by simp [supH]
  have lm : ∀ v n, ((lay v n).map toB).length = n := fun v n => by rw [List.length_map, lay_len]
  have lim : ∀ {a : List UInt8} {b : List UInt8}, a.length + b.length ≤ 1000 → a.length + b.length ≤ LIM := fun h => lim_of' h
  have hloop : loopM (rickyardref13_Put.s0 fu s) fu ((supH s).map toB, 0) = some ((supE s).map toB) := by
    refine loopM_run (S := fun j => ((supH s ++ rowE s.Charts j).map toB, (j : Int))) s.Charts.length (by simp [rowE]) ?_ ?_ (by omega)
    · intro j hj
      unfold rickyardref13_Put.s0
      have h1 : (j : Int) < (s.Charts.length : Int) := by omega
      have c0 : 0 ≤ (j : Int) := by omega
      have w3 : IntKind.i64.wrap ((j : Int) + 1) = ((j + 1 : Nat) : Int) := by rw [w64 (by omega) (by omega)]; omega
      have hlim : ((supH s ++ rowE s.Charts j).map toB).length + ((lay (u64n (ix s.Charts (j : Int))) 2).map toB).length ≤ LIM := lim_of' (by rw [List.length_map, List.length_map, List.length_append, supH_len, rowE_len, lay_len]; omega)
      simp only [h1, c0, and_self, decide_true, if_true, w3, hl2, Option.bind_some, hlim]
      rw [← List.map_append, List.append_assoc]
      congr 5
      rw [rowE, rowE, flat_succ]
    · unfold rickyardref13_Put.s0
      simp [supE]
  have hs := rseal_eq (fu := fu) (k := 7) (t := (s.Charts.length : Int)) (supE_bytes s) (by omega) (by omega) (by rw [supE_len]; omega) hf
  simp only [hl8, hl4, hl2, Option.bind_some]
  rw [if_pos (lim (by simp only [List.length_append, lm]; decide)), if_pos (lim (by simp only [List.length_append, lm]; decide)), if_pos (lim (by simp only [List.length_append, lm]; decide)), if_pos (lim (by simp only [List.length_append, lm]; decide)), if_pos (lim (by simp only [List.length_append, lm]; decide)), if_pos (lim (by simp only [List.length_append, lm]; decide)), if_pos (lim (by simp only [List.length_append, lm]; decide)), e0, hloop, Option.bind_some, hs]
  rfl
theorem next_eq {fu : Nat} {b : List Int} {i n : Nat} (hb : Bytes b) (h : i + n ≤ b.length) (hn : n ≤ 8) (hf : 100 < fu) : super_reader_next.f fu ⟨b.drop i⟩ (n : Int) = some (intAt b i n, ⟨b.drop (i + n)⟩) := by
  unfold super_reader_next.f
  have hl : (b.drop i).length = b.length - i := List.length_drop
  have c1 : 0 ≤ (n : Int) ∧ (n : Int) ≤ ((b.drop i).length : Int) := by omega
  have e0 : cut (b.drop i) 0 (n : Int) = part b i n := by unfold cut part; simp
  have e1 : cut (b.drop i) (n : Int) ((b.drop i).length : Int) = b.drop (i + n) := by
    unfold cut
    rw [Int.toNat_natCast, Int.toNat_natCast, List.take_length, List.drop_drop]
  have hr : octet_Read.f fu (part b i n) = some ((num (part b i n) : Nat) : Int) := read_eq (part_bytes hb i n) (by rw [part_len h]; exact hn) (by rw [part_len h]; omega)
  simp only [if_pos c1, e0, e1, hr, Option.bind_some]
  rfl
def chartsOf (body : List Int) (t : Nat) : List Int := (List.range t).map fun i => intAt body (32 + 2 * i) 2
def supOf (body : List Int) (t : Nat) : S_api_Super := ⟨intAt body 0 8, ⟨⟨intAt body 8 4, intAt body 12 4, intAt body 16 4⟩, intAt body 28 2, intAt body 20 4, intAt body 24 4⟩, intAt body 30 2, chartsOf body t⟩
theorem supE_of {body : List Int} (hb : Bytes body) {t : Nat} (h : 32 + 2 * t ≤ body.length) : supE (supOf body t) = body.take (32 + 2 * t) := by
  have e1 : rowE (chartsOf body t) t = (body.drop 32).take (2 * t) := by
    rw [← field_flat (w := 2) t (by rw [List.length_drop]; omega)]
    apply flat_congr
    intro i hi
    unfold chartsOf
    rw [ix_map hi, lay_part hb (by omega) (by decide)]
    unfold part fieldAt
    rw [List.drop_drop]
  have hk : (chartsOf body t).length = t := by simp [chartsOf]
  have e2 : supH (supOf body t) = body.take 32 := by
    unfold supH supOf
    simp only
    rw [lay_part hb (by omega) (by decide), lay_part hb (by omega) (by decide), lay_part hb (by omega) (by decide), lay_part hb (by omega) (by decide), lay_part hb (by omega) (by decide), lay_part hb (by omega) (by decide), lay_part hb (by omega) (by decide), lay_part hb (by omega) (by decide)]
    unfold part
    rw [show (32 : Nat) = 0 + 8 + 4 + 4 + 4 + 4 + 4 + 2 + 2 from rfl, List.take_add, List.take_add, List.take_add, List.take_add, List.take_add, List.take_add, List.take_add, List.take_add]
    simp
  unfold supE
  have hk2 : (supOf body t).Charts = chartsOf body t := rfl
  rw [hk2, hk, e1, e2, List.take_add]
theorem supOf_E {s : S_api_Super} (h : SupOk s) (t : List Int) : supOf (supE s ++ t) s.Charts.length = s := by
  have hlen := h.len
  have hA := h.1
  have hB := h.2.1
  have hT := h.2.2.1
  have hD := h.2.2.2.1
  have hI := h.2.2.2.2.2.1
  unfold supA geoOk at hA
  unfold supB at hB
  have hTop : 0 ≤ s.Tickets.Top ∧ s.Tickets.Top ≤ 3072 := by
    by_cases h0 : s.Tickets.High = 0
    · have := hT.1 h0
      omega
    · have := hT.2 h0
      unfold inB at this
      omega
  have hDir : 0 ≤ s.Dir ∧ s.Dir ≤ 3072 := by
    by_cases h0 : s.Dir = 0
    · omega
    · have := hD h0
      unfold inB at this
      omega
  obtain ⟨R, hR⟩ : ∃ R, R = rowE s.Charts s.Charts.length ++ t := ⟨_, rfl⟩
  have e : supE s ++ t = lay (u64n s.Epoch) 8 ++ (lay (u64n s.Tickets.Geometry.Blocks) 4 ++ (lay (u64n s.Tickets.Geometry.Slots) 4 ++ (lay (u64n s.Tickets.Geometry.Gens) 4 ++ (lay (u64n s.Tickets.High) 4 ++ (lay (u64n s.Tickets.Free) 4 ++ (lay (u64n s.Tickets.Top) 2 ++ (lay (u64n s.Dir) 2 ++ R))))))) := by
    rw [hR]
    simp [supE, supH]
  have l8 : ∀ v, (lay v 8).length = 8 := fun v => lay_len v 8
  have l4 : ∀ v, (lay v 4).length = 4 := fun v => lay_len v 4
  have l2 : ∀ v, (lay v 2).length = 2 := fun v => lay_len v 2
  have d8 : (supE s ++ t).drop 8 = (lay (u64n s.Tickets.Geometry.Blocks) 4 ++ (lay (u64n s.Tickets.Geometry.Slots) 4 ++ (lay (u64n s.Tickets.Geometry.Gens) 4 ++ (lay (u64n s.Tickets.High) 4 ++ (lay (u64n s.Tickets.Free) 4 ++ (lay (u64n s.Tickets.Top) 2 ++ (lay (u64n s.Dir) 2 ++ R))))))) := by rw [e, List.drop_left' (l8 _)]
  have d12 : (supE s ++ t).drop 12 = (lay (u64n s.Tickets.Geometry.Slots) 4 ++ (lay (u64n s.Tickets.Geometry.Gens) 4 ++ (lay (u64n s.Tickets.High) 4 ++ (lay (u64n s.Tickets.Free) 4 ++ (lay (u64n s.Tickets.Top) 2 ++ (lay (u64n s.Dir) 2 ++ R)))))) := by rw [show (12 : Nat) = 8 + 4 from rfl, ← List.drop_drop, d8, List.drop_left' (l4 _)]
  have d16 : (supE s ++ t).drop 16 = (lay (u64n s.Tickets.Geometry.Gens) 4 ++ (lay (u64n s.Tickets.High) 4 ++ (lay (u64n s.Tickets.Free) 4 ++ (lay (u64n s.Tickets.Top) 2 ++ (lay (u64n s.Dir) 2 ++ R))))) := by rw [show (16 : Nat) = 12 + 4 from rfl, ← List.drop_drop, d12, List.drop_left' (l4 _)]
  have d20 : (supE s ++ t).drop 20 = (lay (u64n s.Tickets.High) 4 ++ (lay (u64n s.Tickets.Free) 4 ++ (lay (u64n s.Tickets.Top) 2 ++ (lay (u64n s.Dir) 2 ++ R)))) := by rw [show (20 : Nat) = 16 + 4 from rfl, ← List.drop_drop, d16, List.drop_left' (l4 _)]
  have d24 : (supE s ++ t).drop 24 = (lay (u64n s.Tickets.Free) 4 ++ (lay (u64n s.Tickets.Top) 2 ++ (lay (u64n s.Dir) 2 ++ R))) := by rw [show (24 : Nat) = 20 + 4 from rfl, ← List.drop_drop, d20, List.drop_left' (l4 _)]
  have d28 : (supE s ++ t).drop 28 = (lay (u64n s.Tickets.Top) 2 ++ (lay (u64n s.Dir) 2 ++ R)) := by rw [show (28 : Nat) = 24 + 4 from rfl, ← List.drop_drop, d24, List.drop_left' (l4 _)]
  have d30 : (supE s ++ t).drop 30 = (lay (u64n s.Dir) 2 ++ R) := by rw [show (30 : Nat) = 28 + 2 from rfl, ← List.drop_drop, d28, List.drop_left' (l2 _)]
  have d32 : (supE s ++ t).drop 32 = R := by rw [show (32 : Nat) = 30 + 2 from rfl, ← List.drop_drop, d30, List.drop_left' (l2 _)]
  have q8 : (256 : Nat) ^ 8 = 18446744073709551616 := by decide
  have q4 : (256 : Nat) ^ 4 = 4294967296 := by decide
  have q2 : (256 : Nat) ^ 2 = 65536 := by decide
  have val : ∀ (i n : Nat) (x : Int), part (supE s ++ t) i n = lay (u64n x) n → 0 ≤ x → x < ((256 ^ n : Nat) : Int) → x ≤ 9223372036854775807 → intAt (supE s ++ t) i n = x := by
    intro i n x hp h0 h1 h2
    unfold intAt
    rw [hp, num_lay, u64n_of h0 (by omega), Nat.mod_eq_of_lt (by omega), Int.toNat_of_nonneg h0, w64 (by omega) h2]
  have p0 : part (supE s ++ t) 0 8 = lay (u64n s.Epoch) 8 := by unfold part; rw [List.drop_zero, e, List.take_left' (l8 _)]
  have p8 : part (supE s ++ t) 8 4 = lay (u64n s.Tickets.Geometry.Blocks) 4 := by unfold part; rw [d8, List.take_left' (l4 _)]
  have p12 : part (supE s ++ t) 12 4 = lay (u64n s.Tickets.Geometry.Slots) 4 := by unfold part; rw [d12, List.take_left' (l4 _)]
  have p16 : part (supE s ++ t) 16 4 = lay (u64n s.Tickets.Geometry.Gens) 4 := by unfold part; rw [d16, List.take_left' (l4 _)]
  have p20 : part (supE s ++ t) 20 4 = lay (u64n s.Tickets.High) 4 := by unfold part; rw [d20, List.take_left' (l4 _)]
  have p24 : part (supE s ++ t) 24 4 = lay (u64n s.Tickets.Free) 4 := by unfold part; rw [d24, List.take_left' (l4 _)]
  have p28 : part (supE s ++ t) 28 2 = lay (u64n s.Tickets.Top) 2 := by unfold part; rw [d28, List.take_left' (l2 _)]
  have p30 : part (supE s ++ t) 30 2 = lay (u64n s.Dir) 2 := by unfold part; rw [d30, List.take_left' (l2 _)]
  have i0 := val 0 8 _ p0 (by omega) (by omega) (by omega)
  have i8 := val 8 4 _ p8 (by omega) (by omega) (by omega)
  have i12 := val 12 4 _ p12 (by omega) (by omega) (by omega)
  have i16 := val 16 4 _ p16 (by omega) (by omega) (by omega)
  have i20 := val 20 4 _ p20 (by omega) (by omega) (by omega)
  have i24 := val 24 4 _ p24 (by omega) (by omega) (by omega)
  have i28 := val 28 2 _ p28 (by omega) (by omega) (by omega)
  have i30 := val 30 2 _ p30 (by omega) (by omega) (by omega)
  have ik : chartsOf (supE s ++ t) s.Charts.length = s.Charts := by
    apply ix_ext (by simp [chartsOf])
    intro i hi
    have hi' : i < s.Charts.length := by simpa [chartsOf] using hi
    unfold chartsOf
    rw [ix_map hi']
    have hp : part (supE s ++ t) (32 + 2 * i) 2 = lay (u64n (ix s.Charts (i : Int))) 2 := by
      unfold part
      rw [← List.drop_drop, d32, hR]
      exact flat_field (fun i => lay_len _ _) hi' t
    have := hI i hi'
    unfold inB at this
    exact val _ 2 _ hp (by omega) (by omega) (by omega)
  unfold supOf
  rw [i0, i8, i12, i16, i20, i24, i28, i30, ik]
def noU : S_api_Super := ⟨0, ⟨⟨0, 0, 0⟩, 0, 0, 0⟩, 0, []⟩
def GetU (b : List Int) : Prop := Is b ∧ ix b 4 = 7 ∧ ix b 5 ≤ 8 ∧ SupOk (supOf (b.drop 8) (ix b 5).toNat) ∧ ∀ y ∈ (b.drop 8).drop (32 + 2 * (ix b 5).toNat), y = 0
instance (b : List Int) : Decidable (GetU b) := inferInstanceAs (Decidable (_ ∧ _))
theorem superGet_eq {fu : Nat} {b : List Int} (hb : Bytes b) (hl : b.length ≤ 9000000000000000000) (hf : 100 < fu) : super_Get.f fu b = some (if GetU b then (supOf (b.drop 8) (ix b 5).toNat, true) else (noU, false)) := by
  unfold super_Get.f
  rw [open_eq hb hl hf]
  by_cases hi : Is b
  · have h8 := is_body hi
    obtain ⟨b4, b5⟩ := is_tag hb hi
    rw [if_pos hi]
    simp only [Option.bind_some, Bool.not_true, Bool.false_eq_true, if_false]
    by_cases h4 : ix b 4 = 7
    · by_cases h5 : ix b 5 ≤ 8
      · have h5' : ¬ ix b 5 > 8 := by omega
        obtain ⟨t, ht⟩ : ∃ t : Nat, ix b 5 = (t : Int) := ⟨(ix b 5).toNat, by omega⟩
        have hbd := hb.drop 8
        obtain ⟨body, hbody⟩ : ∃ body, body = b.drop 8 := ⟨_, rfl⟩
        rw [← hbody] at h8 hbd
        have n0 : super_reader_next.f fu ⟨body⟩ 8 = some (intAt body 0 8, ⟨body.drop 8⟩) := next_eq (i := 0) (n := 8) hbd (by omega) (by decide) hf
        have n8 : super_reader_next.f fu ⟨body.drop 8⟩ 4 = some (intAt body 8 4, ⟨body.drop 12⟩) := next_eq (i := 8) (n := 4) hbd (by omega) (by decide) hf
        have n12 : super_reader_next.f fu ⟨body.drop 12⟩ 4 = some (intAt body 12 4, ⟨body.drop 16⟩) := next_eq (i := 12) (n := 4) hbd (by omega) (by decide) hf
        have n16 : super_reader_next.f fu ⟨body.drop 16⟩ 4 = some (intAt body 16 4, ⟨body.drop 20⟩) := next_eq (i := 16) (n := 4) hbd (by omega) (by decide) hf
        have n20 : super_reader_next.f fu ⟨body.drop 20⟩ 4 = some (intAt body 20 4, ⟨body.drop 24⟩) := next_eq (i := 20) (n := 4) hbd (by omega) (by decide) hf
        have n24 : super_reader_next.f fu ⟨body.drop 24⟩ 4 = some (intAt body 24 4, ⟨body.drop 28⟩) := next_eq (i := 24) (n := 4) hbd (by omega) (by decide) hf
        have n28 : super_reader_next.f fu ⟨body.drop 28⟩ 2 = some (intAt body 28 2, ⟨body.drop 30⟩) := next_eq (i := 28) (n := 2) hbd (by omega) (by decide) hf
        have n30 : super_reader_next.f fu ⟨body.drop 30⟩ 2 = some (intAt body 30 2, ⟨body.drop 32⟩) := next_eq (i := 30) (n := 2) hbd (by omega) (by decide) hf
        have hloop : loopM (super_Get.s0 fu (ix b 4, ix b 5, body, true)) fu (0, [], ⟨body.drop 32⟩) = some (chartsOf body t, ⟨body.drop (32 + 2 * t)⟩) := by
          refine loopM_run (S := fun j => ((j : Int), chartsOf body j, (⟨body.drop (32 + 2 * j)⟩ : S_super_reader))) t (by simp [chartsOf]) ?_ ?_ (by omega)
          · intro j hj
            unfold super_Get.s0
            have h1 : (j : Int) < ix b 5 := by omega
            have w3 : IntKind.i64.wrap ((j : Int) + 1) = ((j + 1 : Nat) : Int) := by rw [w64 (by omega) (by omega)]; omega
            have hn : super_reader_next.f fu ⟨body.drop (32 + 2 * j)⟩ 2 = some (intAt body (32 + 2 * j) 2, ⟨body.drop (32 + 2 * j + 2)⟩) := next_eq (n := 2) hbd (by omega) (by decide) hf
            have hlim : (chartsOf body j).length + ([intAt body (32 + 2 * j) 2] : List Int).length ≤ LIM := lim_of' (by simp [chartsOf]; omega)
            simp only [h1, decide_true, if_true, w3, hn, Option.bind_some, hlim]
            simp [chartsOf, List.range_succ, Nat.mul_add, Nat.add_assoc]
          · unfold super_Get.s0
            simp [ht]
        have hrl : (body.drop (32 + 2 * t)).length = 56 - (32 + 2 * t) := by rw [List.length_drop, h8]
        have hn := noughts_eq (fu := fu) (b := body.drop (32 + 2 * t)) (i := 0) (n := 56 - (32 + 2 * t)) (by omega) (by omega) (by omega)
        have e8 : ((body.drop (32 + 2 * t)).drop 0).take (56 - (32 + 2 * t)) = body.drop (32 + 2 * t) := by rw [List.drop_zero]; exact List.take_of_length_le (by omega)
        rw [e8, ← hrl] at hn
        have hn' := hn
        rw [show ((0 : Nat) : Int) = 0 from rfl] at hn'
        have hN : (⟨intAt body 0 8, ⟨⟨intAt body 8 4, intAt body 12 4, intAt body 16 4⟩, intAt body 28 2, intAt body 20 4, intAt body 24 4⟩, intAt body 30 2, chartsOf body t⟩ : S_api_Super) = supOf body t := rfl
        rw [← hbody]
        simp only [h4, h5', decide_true, decide_false, Bool.not_true, Bool.false_eq_true, if_false] at hloop ⊢
        simp only [n0, n8, n12, n16, n20, n24, n28, n30, Option.bind_some, hloop]
        simp only [hn', hN, superRight_eq hf, Option.bind_some]
        have hgi : GetU b ↔ (SupOk (supOf body t) ∧ ∀ y ∈ body.drop (32 + 2 * t), y = 0) := by
          unfold GetU
          rw [ht, ← hbody, Int.toNat_natCast]
          exact ⟨fun x => x.2.2.2, fun x => ⟨hi, h4, by omega, x⟩⟩
        rw [ht, Int.toNat_natCast]
        by_cases hr : SupOk (supOf body t)
        · by_cases hz : ∀ y ∈ body.drop (32 + 2 * t), y = 0
          · rw [if_pos (hgi.2 ⟨hr, hz⟩), decide_eq_true hr, decide_eq_true hz]
            rfl
          · rw [if_neg (fun x => hz (hgi.1 x).2), decide_eq_true hr, decide_eq_false hz]
            rfl
        · rw [if_neg (fun x => hr (hgi.1 x).1), decide_eq_false hr]
          rfl
      · have h5' : ix b 5 > 8 := by omega
        have hg : ¬ GetU b := fun x => h5 x.2.2.1
        rw [if_neg hg, decide_eq_true h4, decide_eq_true h5']
        rfl
    · have hg : ¬ GetU b := fun x => h4 x.2.1
      rw [if_neg hg, decide_eq_false h4]
      rfl
  · have hg : ¬ GetU b := fun x => hi x.1
    rw [if_neg hi, if_neg hg]
    rfl
theorem rsuperGet_eq {fu : Nat} {b : List Int} (hb : Bytes b) (hf : 100 < fu) : rickyardref13_Get.f fu b = some (if GetU b then (supOf (b.drop 8) (ix b 5).toNat, true) else (noU, false)) := by
  unfold rickyardref13_Get.f
  rw [ropen_eq hb hf]
  by_cases hi : Is b
  · have h8 := is_body hi
    obtain ⟨b4, b5⟩ := is_tag hb hi
    rw [if_pos hi]
    simp only [Option.bind_some, Bool.not_true, Bool.false_eq_true, if_false]
    by_cases h4 : ix b 4 = 7
    · by_cases h5 : ix b 5 ≤ 8
      · have h5' : ¬ ix b 5 > 8 := by omega
        obtain ⟨t, ht⟩ : ∃ t : Nat, ix b 5 = (t : Int) := ⟨(ix b 5).toNat, by omega⟩
        have hbd := hb.drop 8
        obtain ⟨body, hbody⟩ : ∃ body, body = b.drop 8 := ⟨_, rfl⟩
        have hq0 : ∀ {k tg : Int} {bd : List Int}, (0 ≤ k ∧ k ≤ 255) → (0 ≤ tg ∧ tg ≤ 255) → Bytes bd → bd.length ≤ 56 → ((sealed (summed k tg bd)).map toB = b.map toB ↔ k = ix b 4 ∧ tg = ix b 5 ∧ bd ++ List.replicate (56 - bd.length) 0 = b.drop 8) := fun h1 h2 h3 h4 => sealed_map_iff hb hi h1 h2 h3 h4
        rw [← hbody] at h8 hbd
        have n0 : rickyardref01_Int.f fu (cut (body.map toB) 0 8) = some (intAt body 0 8) := rintAt_eq (i := 0) (n := 8) hbd (by omega) (by decide) hf
        have n8 : rickyardref01_Int.f fu (cut (body.map toB) 8 12) = some (intAt body 8 4) := rintAt_eq (i := 8) (n := 4) hbd (by omega) (by decide) hf
        have n12 : rickyardref01_Int.f fu (cut (body.map toB) 12 16) = some (intAt body 12 4) := rintAt_eq (i := 12) (n := 4) hbd (by omega) (by decide) hf
        have n16 : rickyardref01_Int.f fu (cut (body.map toB) 16 20) = some (intAt body 16 4) := rintAt_eq (i := 16) (n := 4) hbd (by omega) (by decide) hf
        have n20 : rickyardref01_Int.f fu (cut (body.map toB) 20 24) = some (intAt body 20 4) := rintAt_eq (i := 20) (n := 4) hbd (by omega) (by decide) hf
        have n24 : rickyardref01_Int.f fu (cut (body.map toB) 24 28) = some (intAt body 24 4) := rintAt_eq (i := 24) (n := 4) hbd (by omega) (by decide) hf
        have n28 : rickyardref01_Int.f fu (cut (body.map toB) 28 30) = some (intAt body 28 2) := rintAt_eq (i := 28) (n := 2) hbd (by omega) (by decide) hf
        have n30 : rickyardref01_Int.f fu (cut (body.map toB) 30 32) = some (intAt body 30 2) := rintAt_eq (i := 30) (n := 2) hbd (by omega) (by decide) hf
        have hloop : loopM (rickyardref13_Get.s0 fu (ix b 4, ix b 5, body.map toB, true)) fu (0, []) = some (chartsOf body t) := by
          refine loopM_run (S := fun j => ((j : Int), chartsOf body j)) t (by simp [chartsOf]) ?_ ?_ (by omega)
          · intro j hj
            unfold rickyardref13_Get.s0
            have h1 : (j : Int) < ix b 5 := by omega
            have w3 : IntKind.i64.wrap ((j : Int) + 1) = ((j + 1 : Nat) : Int) := by rw [w64 (by omega) (by omega)]; omega
            have w4 : IntKind.i64.wrap (2 * (j : Int)) = ((2 * j : Nat) : Int) := by rw [w64 (by omega) (by omega)]; omega
            have w5 : IntKind.i64.wrap (32 + ((2 * j : Nat) : Int)) = ((32 + 2 * j : Nat) : Int) := by rw [w64 (by omega) (by omega)]; omega
            have w6 : IntKind.i64.wrap (34 + ((2 * j : Nat) : Int)) = ((32 + 2 * j + 2 : Nat) : Int) := by rw [w64 (by omega) (by omega)]; omega
            have hn : rickyardref01_Int.f fu (cut (body.map toB) ((32 + 2 * j : Nat) : Int) ((32 + 2 * j + 2 : Nat) : Int)) = some (intAt body (32 + 2 * j) 2) := rintAt_eq (n := 2) hbd (by omega) (by decide) hf
            have hlim : (chartsOf body j).length + ([intAt body (32 + 2 * j) 2] : List Int).length ≤ LIM := lim_of' (by simp [chartsOf]; omega)
            have c1 : (0 : Int) ≤ ((32 + 2 * j : Nat) : Int) ∧ ((32 + 2 * j : Nat) : Int) ≤ ((32 + 2 * j + 2 : Nat) : Int) ∧ ((32 + 2 * j + 2 : Nat) : Int) ≤ ((body.map toB).length : Int) := by rw [List.length_map]; omega
            simp only [h1, decide_true, if_true, w3, w4, w5, w6, hn, Option.bind_some, hlim, if_pos c1]
            simp [chartsOf, List.range_succ]
          · unfold rickyardref13_Get.s0
            simp [ht]
        have hN : (⟨intAt body 0 8, ⟨⟨intAt body 8 4, intAt body 12 4, intAt body 16 4⟩, intAt body 28 2, intAt body 20 4, intAt body 24 4⟩, intAt body 30 2, chartsOf body t⟩ : S_api_Super) = supOf body t := rfl
        have hkl : (supOf body t).Charts.length = t := by simp [supOf, chartsOf]
        have hgi : GetU b ↔ (SupOk (supOf body t) ∧ ∀ y ∈ body.drop (32 + 2 * t), y = 0) := by
          unfold GetU
          rw [ht, ← hbody, Int.toNat_natCast]
          exact ⟨fun x => x.2.2.2, fun x => ⟨hi, h4, by omega, x⟩⟩
        have cl : ((body.map toB).length : Int) = 56 := by rw [List.length_map]; omega
        rw [← hbody]
        simp only [h4, h5', decide_true, decide_false, Bool.not_true, Bool.false_eq_true, if_false] at hloop ⊢
        have k8 : (8 : Int) ≤ ((body.map toB).length : Int) := by omega
        have k12 : (12 : Int) ≤ ((body.map toB).length : Int) := by omega
        have k16 : (16 : Int) ≤ ((body.map toB).length : Int) := by omega
        have k20 : (20 : Int) ≤ ((body.map toB).length : Int) := by omega
        have k24 : (24 : Int) ≤ ((body.map toB).length : Int) := by omega
        have k28 : (28 : Int) ≤ ((body.map toB).length : Int) := by omega
        have k30 : (30 : Int) ≤ ((body.map toB).length : Int) := by omega
        have k32 : (32 : Int) ≤ ((body.map toB).length : Int) := by omega
        simp only [n0, n8, n12, n16, n20, n24, n28, n30, Option.bind_some, hloop, if_pos k8, if_pos k12, if_pos k16, if_pos k20, if_pos k24, if_pos k28, if_pos k30, if_pos k32]
        have hput := rsuperPut_eq (fu := fu) (s := supOf body t) (by rw [hkl]; omega) hf
        simp only [hN, rsuperRight_eq hf, hput, Option.bind_some]
        have hel := supE_len (supOf body t)
        rw [hkl] at hel
        have hq := hq0 (k := 7) (tg := (t : Int)) (bd := supE (supOf body t)) (by omega) (by omega) (supE_bytes _) (by omega)
        have hfl := full_iff (body := supE (supOf body t)) (full := body) (by omega) h8
        rw [← hbody] at hq
        rw [hel, supE_of hbd (show 32 + 2 * t ≤ body.length by omega)] at hfl
        rw [hel, supE_of hbd (show 32 + 2 * t ≤ body.length by omega)] at hq
        rw [hkl, supE_of hbd (show 32 + 2 * t ≤ body.length by omega), ht, Int.toNat_natCast]
        by_cases hr : SupOk (supOf body t)
        · by_cases hz : ∀ y ∈ body.drop (32 + 2 * t), y = 0
          · rw [if_pos (hgi.2 ⟨hr, hz⟩), decide_eq_true hr, decide_eq_true (hq.2 ⟨h4.symm, ht.symm, hfl.2 ⟨rfl, hz⟩⟩)]
            rfl
          · rw [if_neg (fun x => hz (hgi.1 x).2), decide_eq_true hr, decide_eq_false (fun x => hz (hfl.1 (hq.1 x).2.2).2)]
            rfl
        · rw [if_neg (fun x => hr (hgi.1 x).1), decide_eq_false hr]
          rfl
      · have h5' : ix b 5 > 8 := by omega
        have hg : ¬ GetU b := fun x => h5 x.2.2.1
        rw [if_neg hg, decide_eq_true h4, decide_eq_true h5']
        rfl
    · have hg : ¬ GetU b := fun x => h4 x.2.1
      rw [if_neg hg, decide_eq_false h4]
      rfl
  · have hg : ¬ GetU b := fun x => hi x.1
    rw [if_neg hi, if_neg hg]
    rfl
theorem sup_get {s : S_api_Super} (h : SupOk s) : GetU (sealed (summed 7 (s.Charts.length : Int) (supE s))) ∧ supOf ((sealed (summed 7 (s.Charts.length : Int) (supE s))).drop 8) (ix (sealed (summed 7 (s.Charts.length : Int) (supE s))) 5).toNat = s := by
  have k1 := h.len
  have hl := supE_len s
  obtain ⟨p4, p5, p8⟩ := sealed_parts 7 (s.Charts.length : Int) (supE s)
  have hno := supOf_E h (List.replicate (56 - (supE s).length) 0)
  refine ⟨⟨is_sealed (by decide) (by omega), p4, by rw [p5]; omega, ?_, ?_⟩, by rw [p8, p5, Int.toNat_natCast, hno]⟩
  · rw [p8, p5, Int.toNat_natCast, hno]
    exact h
  · rw [p8, p5, Int.toNat_natCast, ← hl, List.drop_left' rfl]
    intro y hy
    exact List.eq_of_mem_replicate hy
theorem sup_sealed {s : S_api_Super} (h : SupOk s) : Bytes (sealed (summed 7 (s.Charts.length : Int) (supE s))) ∧ (sealed (summed 7 (s.Charts.length : Int) (supE s))).length = 64 := by
  have k1 := h.len
  have hl := supE_len s
  exact ⟨sealed_bytes (summed_bytes (by omega) (by omega) (supE_bytes s)), sealed_len (summed_len (by omega))⟩
theorem superGet_put {fu : Nat} {s : S_api_Super} (h : SupOk s) (hf : 100 < fu) : super_Get.f fu (sealed (summed 7 (s.Charts.length : Int) (supE s))) = some (s, true) := by
  obtain ⟨h1, h2⟩ := sup_sealed h
  obtain ⟨h3, h4⟩ := sup_get h
  rw [superGet_eq h1 (by omega) hf, if_pos h3, h4]
end Go.Proofs.YtdifnahlheogdaaGreat.Pure
namespace Go.Proofs.YtdifnahlheogdaaGreat
open Go Go.Xw Go.Yw
end Go.Proofs.YtdifnahlheogdaaGreat
namespace Go.Proofs.YtdifnahlheogdaaGreat.Pure
open Go Go.Xw Go.Yw
theorem kind_eq {b : List Int} (hb : Bytes b) (hl : b.length ≤ 200) : block_Kind.f 400 b = some (if Is b then ix b 4 else 0) := by
  unfold block_Kind.f
  rw [right_is hb (by omega) (by decide)]
  by_cases h : Is b
  · obtain ⟨b4, _⟩ := is_tag hb h
    have h0 := h.1
    rw [decide_eq_true h, if_pos h]
    simp only [Option.bind_some, Bool.not_true, Bool.false_eq_true, if_false]
    rw [if_pos (by omega), w64 (by omega) (by omega)]
  · rw [decide_eq_false h, if_neg h]
    rfl
abbrev Cellm := (Option S_api_Node) × (Option S_api_Queue) × (Option S_api_Leaf) × (Option S_api_Fan) × (Option S_api_Chart) × (Option S_api_Dir) × (Option S_api_Super) × Bool
def pN (n : S_api_Node) (k : Bool) : Cellm := (some n, none, none, none, none, none, none, k)
def pQ (q : S_api_Queue) (k : Bool) : Cellm := (none, some q, none, none, none, none, none, k)
def pL (l : S_api_Leaf) (k : Bool) : Cellm := (none, none, some l, none, none, none, none, k)
def pF (f : S_api_Fan) (k : Bool) : Cellm := (none, none, none, some f, none, none, none, k)
def pC (c : S_api_Chart) (k : Bool) : Cellm := (none, none, none, none, some c, none, none, k)
def pD (d : S_api_Dir) (k : Bool) : Cellm := (none, none, none, none, none, some d, none, k)
def pU (s : S_api_Super) (k : Bool) : Cellm := (none, none, none, none, none, none, some s, k)
def p0 : Cellm := (none, none, none, none, none, none, none, false)
def nodeB (b : List Int) : S_api_Node := nodeOf (b.drop 8) (ix b 5).toNat
def leafB (b : List Int) : S_api_Leaf := leafOf (b.drop 8) (ix b 5)
def fanB' (b : List Int) : S_api_Fan := fanOf (b.drop 8)
def chartB (b : List Int) : S_api_Chart := ⟨ix b 5, bitsOf (b.drop 8)⟩
def queueB (b : List Int) : S_api_Queue := queueOf (b.drop 8) (ix b 5).toNat
def dirB (b : List Int) : List Int := dirOf (b.drop 8) (ix b 5).toNat
def supB' (b : List Int) : S_api_Super := supOf (b.drop 8) (ix b 5).toNat
section
variable {b : List Int} (hb : Bytes b) (hl : b.length ≤ 200)
include hb hl
theorem parse_node (h : Is b) (h4 : ix b 4 = 1) : cell_parse.f 400 b = some (pN (if GetN b then nodeB b else noN) (decide (GetN b))) := by
  unfold cell_parse.f
  rw [kind_eq hb hl, if_pos h, h4, nodeGet_eq hb (by omega) (by decide)]
  by_cases g : GetN b <;> simp [g] <;> rfl
theorem parse_leaf (h : Is b) (h4 : ix b 4 = 2) : cell_parse.f 400 b = some (pL (if GetL b then leafB b else noL) (decide (GetL b))) := by
  unfold cell_parse.f
  rw [kind_eq hb hl, if_pos h, h4, getLeaf_eq hb (by omega) (by decide)]
  by_cases g : GetL b <;> simp [g] <;> rfl
theorem parse_fan (h : Is b) (h4 : ix b 4 = 3) : cell_parse.f 400 b = some (pF (if GetF b then fanB' b else noF) (decide (GetF b))) := by
  unfold cell_parse.f
  rw [kind_eq hb hl, if_pos h, h4, getFan_eq hb (by omega) (by decide)]
  by_cases g : GetF b <;> simp [g] <;> rfl
theorem parse_chart (h : Is b) (h4 : ix b 4 = 4) : cell_parse.f 400 b = some (pC (if GetOk b then chartB b else noC) (decide (GetOk b))) := by
  unfold cell_parse.f
  rw [kind_eq hb hl, if_pos h, h4, cget_eq hb (by omega) (by decide)]
  by_cases g : GetOk b <;> simp [g] <;> rfl
theorem parse_queue (h : Is b) (h4 : ix b 4 = 5) : cell_parse.f 400 b = some (pQ (if GetQ b then queueB b else noQ) (decide (GetQ b))) := by
  unfold cell_parse.f
  rw [kind_eq hb hl, if_pos h, h4, queueGet_eq hb (by omega)]
  by_cases g : GetQ b <;> simp [g] <;> rfl
theorem parse_dir (h : Is b) (h4 : ix b 4 = 6) : cell_parse.f 400 b = some (pD ⟨if GetD b then dirB b else []⟩ (decide (GetD b))) := by
  unfold cell_parse.f
  rw [kind_eq hb hl, if_pos h, h4, dirGet_eq hb (by omega) (by decide)]
  by_cases g : GetD b <;> simp [g] <;> rfl
theorem parse_sup (h : Is b) (h4 : ix b 4 = 7) : cell_parse.f 400 b = some (pU (if GetU b then supB' b else noU) (decide (GetU b))) := by
  unfold cell_parse.f
  rw [kind_eq hb hl, if_pos h, h4, superGet_eq hb (by omega) (by decide)]
  by_cases g : GetU b <;> simp [g] <;> rfl
theorem parse_not (h : ¬ Is b ∨ (Is b ∧ ¬ (1 ≤ ix b 4 ∧ ix b 4 ≤ 7))) : cell_parse.f 400 b = some p0 := by
  unfold cell_parse.f
  rw [kind_eq hb hl]
  rcases h with h | ⟨h, h4⟩
  · rw [if_neg h]
    rfl
  · rw [if_pos h]
    simp only [Option.bind_some]
    rw [decide_eq_false (show ¬ ix b 4 = 1 by omega), decide_eq_false (show ¬ ix b 4 = 2 by omega), decide_eq_false (show ¬ ix b 4 = 3 by omega), decide_eq_false (show ¬ ix b 4 = 4 by omega), decide_eq_false (show ¬ ix b 4 = 5 by omega), decide_eq_false (show ¬ ix b 4 = 6 by omega), decide_eq_false (show ¬ ix b 4 = 7 by omega)]
    rfl
end
theorem clone_eq' {fu : Nat} {l : List Int} (h : l.length ≤ 1000) : slices_Clone.f fu l = some l := by
  unfold slices_Clone.f
  rw [if_pos (Nat.le_trans h (by decide))]
inductive Cel where
  | node (n : S_api_Node) | leaf (l : S_api_Leaf) | fan (f : S_api_Fan) | chart (c : S_api_Chart) | queue (q : S_api_Queue) | dir (d : List Int) | sup (s : S_api_Super)
def liveN (l : S_api_Leaf) (n : Nat) : List Int := ((List.range n).filter fun i => (seat l i).Live).map fun i => (seat l i).Next
def Cel.names : Cel → List Int
  | .node n => n.Kids | .leaf l => liveN l 7 | .fan f => f.Kids.l | .chart _ => [] | .queue q => q.Roots.l | .dir d => d | .sup s => [s.Tickets.Top, s.Dir] ++ s.Charts
def Cel.ok : Cel → Prop
  | .node n => NodeR n | .leaf l => leafOk l | .fan f => fanOk f | .chart c => RightC c | .queue q => QueueOk q | .dir d => DirOk d | .sup s => SupOk s
instance : ∀ c : Cel, Decidable c.ok
  | .node n => inferInstanceAs (Decidable (NodeR n)) | .leaf l => inferInstanceAs (Decidable (leafOk l)) | .fan f => inferInstanceAs (Decidable (fanOk f)) | .chart c => inferInstanceAs (Decidable (RightC c)) | .queue q => inferInstanceAs (Decidable (QueueOk q)) | .dir d => inferInstanceAs (Decidable (DirOk d)) | .sup s => inferInstanceAs (Decidable (SupOk s))
def Cel.base : Cel → Prop
  | .node n => ok_api_Node n ∧ n.Kids.length ≤ 12 | .chart c => ok_api_Chart c | .queue q => q.Name.length ≤ 24 | .dir d => d.length ≤ 16 | .sup s => s.Charts.length ≤ 8 | _ => True
def Cel.octs : Cel → List Int
  | .node n => sealed (summed 1 (n.Kids.length : Int) (nodeE n)) | .leaf l => sealed (summed 2 ((liveT l 7 : Nat) : Int) (leafE l 7)) | .fan f => sealed (summed 3 0 (fanB f 16)) | .chart c => sealed (summed 4 c.Place c.Bits.l)
  | .queue q => sealed (summed 5 (q.Name.length : Int) (queueE q)) | .dir d => sealed (summed 6 (d.length : Int) (rowE d d.length)) | .sup s => sealed (summed 7 (s.Charts.length : Int) (supE s))
def celB (b : List Int) : Option Cel :=
  if ix b 4 = 1 then (if GetN b then some (.node (nodeB b)) else none) else if ix b 4 = 2 then (if GetL b then some (.leaf (leafB b)) else none) else if ix b 4 = 3 then (if GetF b then some (.fan (fanB' b)) else none)
  else if ix b 4 = 4 then (if GetOk b then some (.chart (chartB b)) else none) else if ix b 4 = 5 then (if GetQ b then some (.queue (queueB b)) else none) else if ix b 4 = 6 then (if GetD b then some (.dir (dirB b)) else none)
  else if ix b 4 = 7 then (if GetU b then some (.sup (supB' b)) else none) else none
inductive Kd7 (b : List Int) : Option Cel → Prop
  | node (h : GetN b) : Kd7 b (some (.node (nodeB b)))
  | leaf (h : GetL b) : Kd7 b (some (.leaf (leafB b)))
  | fan (h : GetF b) : Kd7 b (some (.fan (fanB' b)))
  | chart (h : GetOk b) : Kd7 b (some (.chart (chartB b)))
  | queue (h : GetQ b) : Kd7 b (some (.queue (queueB b)))
  | dir (h : GetD b) : Kd7 b (some (.dir (dirB b)))
  | sup (h : GetU b) : Kd7 b (some (.sup (supB' b)))
  | none (h1 : ¬ GetN b) (h2 : ¬ GetL b) (h3 : ¬ GetF b) (h4 : ¬ GetOk b) (h5 : ¬ GetQ b) (h6 : ¬ GetD b) (h7 : ¬ GetU b) : Kd7 b none
theorem celB_kd (b : List Int) : Kd7 b (celB b) := by
  unfold celB
  by_cases k1 : ix b 4 = 1
  · rw [if_pos k1]
    by_cases g : GetN b
    · rw [if_pos g]; exact .node g
    · rw [if_neg g]
      exact .none g (fun x => by have := x.2.1; omega) (fun x => by have := x.2.1; omega) (fun x => by have := x.2.1; omega) (fun x => by have := x.2.1; omega) (fun x => by have := x.2.1; omega) (fun x => by have := x.2.1; omega)
  · rw [if_neg k1]
    have n1 : ¬ GetN b := fun x => k1 x.2.1
    by_cases k2 : ix b 4 = 2
    · rw [if_pos k2]
      by_cases g : GetL b
      · rw [if_pos g]; exact .leaf g
      · rw [if_neg g]
        exact .none n1 g (fun x => by have := x.2.1; omega) (fun x => by have := x.2.1; omega) (fun x => by have := x.2.1; omega) (fun x => by have := x.2.1; omega) (fun x => by have := x.2.1; omega)
    · rw [if_neg k2]
      have n2 : ¬ GetL b := fun x => k2 x.2.1
      by_cases k3 : ix b 4 = 3
      · rw [if_pos k3]
        by_cases g : GetF b
        · rw [if_pos g]; exact .fan g
        · rw [if_neg g]
          exact .none n1 n2 g (fun x => by have := x.2.1; omega) (fun x => by have := x.2.1; omega) (fun x => by have := x.2.1; omega) (fun x => by have := x.2.1; omega)
      · rw [if_neg k3]
        have n3 : ¬ GetF b := fun x => k3 x.2.1
        by_cases k4 : ix b 4 = 4
        · rw [if_pos k4]
          by_cases g : GetOk b
          · rw [if_pos g]; exact .chart g
          · rw [if_neg g]
            exact .none n1 n2 n3 g (fun x => by have := x.2.1; omega) (fun x => by have := x.2.1; omega) (fun x => by have := x.2.1; omega)
        · rw [if_neg k4]
          have n4 : ¬ GetOk b := fun x => k4 x.2.1
          by_cases k5 : ix b 4 = 5
          · rw [if_pos k5]
            by_cases g : GetQ b
            · rw [if_pos g]; exact .queue g
            · rw [if_neg g]
              exact .none n1 n2 n3 n4 g (fun x => by have := x.2.1; omega) (fun x => by have := x.2.1; omega)
          · rw [if_neg k5]
            have n5 : ¬ GetQ b := fun x => k5 x.2.1
            by_cases k6 : ix b 4 = 6
            · rw [if_pos k6]
              by_cases g : GetD b
              · rw [if_pos g]; exact .dir g
              · rw [if_neg g]
                exact .none n1 n2 n3 n4 n5 g (fun x => by have := x.2.1; omega)
            · rw [if_neg k6]
              have n6 : ¬ GetD b := fun x => k6 x.2.1
              by_cases k7 : ix b 4 = 7
              · rw [if_pos k7]
                by_cases g : GetU b
                · rw [if_pos g]; exact .sup g
                · rw [if_neg g]
                  exact .none n1 n2 n3 n4 n5 n6 g
              · rw [if_neg k7]
                exact .none n1 n2 n3 n4 n5 n6 (fun x => k7 x.2.1)
theorem i64_intAt (l : List Int) (i n : Nat) : -9223372036854775808 ≤ intAt l i n ∧ intAt l i n ≤ 9223372036854775807 := by
  unfold intAt
  have h := IntKind.wrap_i64 ((num (part l i n) : Nat) : Int)
  rw [h]
  omega
section
variable {b : List Int} (hb : Bytes b)
include hb
theorem node_back (hg : GetN b) : (nodeB b).Kids.length = (ix b 5).toNat ∧ (Cel.node (nodeB b)).octs = b := by
  obtain ⟨hi, h4, h5, hr, hz⟩ := hg
  have h8 := is_body hi
  obtain ⟨b4, b5⟩ := is_tag hb hi
  have hkl : (nodeB b).Kids.length = (ix b 5).toNat := by simp [nodeB, nodeOf, kidsOf]
  have hel := nodeE_len (nodeB b)
  have hne : nodeE (nodeB b) = (b.drop 8).take (24 + 2 * (ix b 5).toNat) := nodeE_of (hb.drop 8) (by omega)
  rw [hkl] at hel
  refine ⟨hkl, ?_⟩
  unfold Cel.octs
  rw [sealed_iff hi (by omega)]
  refine ⟨h4.symm, by rw [hkl]; omega, ?_⟩
  rw [full_iff (by omega) h8, hel]
  exact ⟨hne, hz⟩
theorem leaf_back (hg : GetL b) : (Cel.leaf (leafB b)).octs = b := by
  obtain ⟨hi, h4, h5, hr⟩ := hg
  have h8 := is_body hi
  obtain ⟨b4, b5⟩ := is_tag hb hi
  have hel := leafE_len (leafB b) 7
  have hne : leafE (leafB b) 7 = b.drop 8 := leafE_of (hb.drop 8) h8 _
  have ht : liveT (leafB b) 7 = (ix b 5).toNat % 128 := liveT_of (b.drop 8) b5
  unfold Cel.octs
  simp only
  rw [sealed_iff hi (by omega)]
  refine ⟨h4.symm, by rw [ht]; omega, ?_⟩
  rw [hne, h8]
  simp
theorem fan_back (hg : GetF b) : (Cel.fan (fanB' b)).octs = b := by
  obtain ⟨hi, h4, h5, hz, hr⟩ := hg
  have h8 := is_body hi
  have hel := fanB_len (fanB' b) 16
  have hne : fanB (fanB' b) 16 = (b.drop 8).take 32 := fanB_of (hb.drop 8) (by omega)
  unfold Cel.octs
  simp only
  rw [sealed_iff hi (by omega)]
  refine ⟨h4.symm, h5.symm, ?_⟩
  rw [full_iff (by omega) h8, hel]
  exact ⟨hne, hz⟩
theorem chart_back (hg : GetOk b) : (Cel.chart (chartB b)).octs = b := by
  obtain ⟨hi, h4, h5, hz⟩ := hg
  have h8 := is_body hi
  have hne : (chartB b).Bits.l = (b.drop 8).take 48 := bitsOf_l (by omega)
  have hel : (chartB b).Bits.l.length = 48 := (chartB b).Bits.h
  unfold Cel.octs
  simp only
  rw [sealed_iff hi (by omega)]
  refine ⟨h4.symm, rfl, ?_⟩
  rw [full_iff (by omega) h8, hel]
  exact ⟨hne, hz⟩
theorem queue_back (hg : GetQ b) : (queueB b).Name.length = (ix b 5).toNat ∧ (Cel.queue (queueB b)).octs = b := by
  obtain ⟨hi, h4, h5, hr, hz⟩ := hg
  have h8 := is_body hi
  obtain ⟨b4, b5⟩ := is_tag hb hi
  have hkl : (queueB b).Name.length = (ix b 5).toNat := by
    show ((part (b.drop 8) 28 (ix b 5).toNat).map toB).length = _
    rw [List.length_map, part_len (by omega)]
  have hel := queueE_len (queueB b)
  have hne : queueE (queueB b) = (b.drop 8).take (28 + (ix b 5).toNat) := queueE_of (hb.drop 8) (by omega)
  rw [hkl] at hel
  refine ⟨hkl, ?_⟩
  unfold Cel.octs
  simp only
  rw [sealed_iff hi (by omega)]
  refine ⟨h4.symm, by rw [hkl]; omega, ?_⟩
  rw [full_iff (by omega) h8, hel]
  exact ⟨hne, hz⟩
theorem dir_back (hg : GetD b) : (dirB b).length = (ix b 5).toNat ∧ (Cel.dir (dirB b)).octs = b := by
  obtain ⟨hi, h4, h5, hr, hz⟩ := hg
  have h8 := is_body hi
  obtain ⟨b4, b5⟩ := is_tag hb hi
  have hkl : (dirB b).length = (ix b 5).toNat := dirOf_len _ _
  have hne : rowE (dirB b) (dirB b).length = (b.drop 8).take (2 * (ix b 5).toNat) := by rw [hkl]; exact dirE_of (hb.drop 8) (by omega)
  have hel : (rowE (dirB b) (dirB b).length).length = 2 * (ix b 5).toNat := by rw [rowE_len, hkl]
  refine ⟨hkl, ?_⟩
  unfold Cel.octs
  simp only
  rw [sealed_iff hi (by omega)]
  refine ⟨h4.symm, by rw [hkl]; omega, ?_⟩
  rw [full_iff (by omega) h8, hel]
  exact ⟨hne, hz⟩
theorem sup_back (hg : GetU b) : (supB' b).Charts.length = (ix b 5).toNat ∧ (Cel.sup (supB' b)).octs = b := by
  obtain ⟨hi, h4, h5, hr, hz⟩ := hg
  have h8 := is_body hi
  obtain ⟨b4, b5⟩ := is_tag hb hi
  have hkl : (supB' b).Charts.length = (ix b 5).toNat := by simp [supB', supOf, chartsOf]
  have hel := supE_len (supB' b)
  have hne : supE (supB' b) = (b.drop 8).take (32 + 2 * (ix b 5).toNat) := supE_of (hb.drop 8) (by omega)
  rw [hkl] at hel
  refine ⟨hkl, ?_⟩
  unfold Cel.octs
  simp only
  rw [sealed_iff hi (by omega)]
  refine ⟨h4.symm, by rw [hkl]; omega, ?_⟩
  rw [full_iff (by omega) h8, hel]
  exact ⟨hne, hz⟩
theorem cel_back {c : Cel} (h : celB b = some c) : c.ok ∧ c.base ∧ c.octs = b := by
  have hk := celB_kd b
  rw [h] at hk
  cases hk with
  | node g =>
    obtain ⟨h1, h2⟩ := node_back hb g
    have h5 := g.2.2.1
    obtain ⟨b4, b5⟩ := is_tag hb g.1
    exact ⟨g.2.2.2.1, ⟨⟨i64_intAt _ _ _, i64_intAt _ _ _⟩, by rw [h1]; omega⟩, h2⟩
  | leaf g => exact ⟨g.2.2.2, trivial, leaf_back hb g⟩
  | fan g => exact ⟨g.2.2.2.2, trivial, fan_back hb g⟩
  | chart g =>
    obtain ⟨b4, b5⟩ := is_tag hb g.1
    refine ⟨⟨b5.1, g.2.2.1⟩, ?_, chart_back hb g⟩
    intro x hx
    have hne : (chartB b).Bits.l = (b.drop 8).take 48 := bitsOf_l (by have := is_body g.1; omega)
    rw [hne] at hx
    exact (hb.drop 8).take 48 x hx
  | queue g =>
    obtain ⟨h1, h2⟩ := queue_back hb g
    have h5 := g.2.2.1
    exact ⟨g.2.2.2.1, by show (queueB b).Name.length ≤ 24; omega, h2⟩
  | dir g =>
    obtain ⟨h1, h2⟩ := dir_back hb g
    have h5 := g.2.2.1
    exact ⟨g.2.2.2.1, by show (dirB b).length ≤ 16; omega, h2⟩
  | sup g =>
    obtain ⟨h1, h2⟩ := sup_back hb g
    have h5 := g.2.2.1
    exact ⟨g.2.2.2.1, by show (supB' b).Charts.length ≤ 8; omega, h2⟩
end
theorem Cel.bytes {c : Cel} (h : c.ok) (hs : c.base) : Bytes c.octs ∧ c.octs.length = 64 := by
  cases c with
  | node n =>
    have k1 := hs.2
    have hl := nodeE_len n
    exact ⟨sealed_bytes (summed_bytes (by omega) (by omega) (nodeE_bytes n)), sealed_len (summed_len (by omega))⟩
  | leaf l =>
    have h1 := liveT_lt l
    have hl := leafE_len l 7
    exact ⟨sealed_bytes (summed_bytes (by omega) (by omega) (leafE_bytes l 7)), sealed_len (summed_len (by omega))⟩
  | fan f =>
    have hl := fanB_len f 16
    exact ⟨sealed_bytes (summed_bytes (by omega) (by omega) (fanB_bytes f 16)), sealed_len (summed_len (by omega))⟩
  | chart c =>
    have h' : RightC c := h
    unfold RightC at h'
    exact ⟨sealed_bytes (summed_bytes (by omega) (by omega) hs), sealed_len (summed_len (by rw [c.Bits.h]; decide))⟩
  | queue q =>
    have hs : q.Name.length ≤ 24 := hs
    have hl := queueE_len q
    exact ⟨sealed_bytes (summed_bytes (by omega) (by omega) (queueE_bytes q)), sealed_len (summed_len (by omega))⟩
  | dir d =>
    have hs : d.length ≤ 16 := hs
    have hl := rowE_len d d.length
    exact ⟨sealed_bytes (summed_bytes (by omega) (by omega) (rowE_bytes d d.length)), sealed_len (summed_len (by omega))⟩
  | sup s =>
    have hs : s.Charts.length ≤ 8 := hs
    have hl := supE_len s
    exact ⟨sealed_bytes (summed_bytes (by omega) (by omega) (supE_bytes s)), sealed_len (summed_len (by omega))⟩
theorem got {α : Type} {p : Prop} [Decidable p] {x y z : α} (h : (some (if p then (x, true) else (y, false)) : Option (α × Bool)) = some (z, true)) : p ∧ x = z := by
  by_cases g : p
  · rw [if_pos g] at h
    exact ⟨g, congrArg Prod.fst (Option.some.inj h)⟩
  · rw [if_neg g] at h
    have := congrArg Prod.snd (Option.some.inj h)
    cases this
theorem celB_node {b : List Int} (g : GetN b) : celB b = some (.node (nodeB b)) := by
  have k := g.2.1
  unfold celB
  rw [if_pos k, if_pos g]
theorem celB_leaf {b : List Int} (g : GetL b) : celB b = some (.leaf (leafB b)) := by
  have k := g.2.1
  unfold celB
  rw [if_neg (show ¬ ix b 4 = 1 by omega), if_pos k, if_pos g]
theorem celB_fan {b : List Int} (g : GetF b) : celB b = some (.fan (fanB' b)) := by
  have k := g.2.1
  unfold celB
  rw [if_neg (show ¬ ix b 4 = 1 by omega), if_neg (show ¬ ix b 4 = 2 by omega), if_pos k, if_pos g]
theorem celB_chart {b : List Int} (g : GetOk b) : celB b = some (.chart (chartB b)) := by
  have k := g.2.1
  unfold celB
  rw [if_neg (show ¬ ix b 4 = 1 by omega), if_neg (show ¬ ix b 4 = 2 by omega), if_neg (show ¬ ix b 4 = 3 by omega), if_pos k, if_pos g]
theorem celB_queue {b : List Int} (g : GetQ b) : celB b = some (.queue (queueB b)) := by
  have k := g.2.1
  unfold celB
  rw [if_neg (show ¬ ix b 4 = 1 by omega), if_neg (show ¬ ix b 4 = 2 by omega), if_neg (show ¬ ix b 4 = 3 by omega), if_neg (show ¬ ix b 4 = 4 by omega), if_pos k, if_pos g]
theorem celB_dir {b : List Int} (g : GetD b) : celB b = some (.dir (dirB b)) := by
  have k := g.2.1
  unfold celB
  rw [if_neg (show ¬ ix b 4 = 1 by omega), if_neg (show ¬ ix b 4 = 2 by omega), if_neg (show ¬ ix b 4 = 3 by omega), if_neg (show ¬ ix b 4 = 4 by omega), if_neg (show ¬ ix b 4 = 5 by omega), if_pos k, if_pos g]
theorem celB_sup {b : List Int} (g : GetU b) : celB b = some (.sup (supB' b)) := by
  have k := g.2.1
  unfold celB
  rw [if_neg (show ¬ ix b 4 = 1 by omega), if_neg (show ¬ ix b 4 = 2 by omega), if_neg (show ¬ ix b 4 = 3 by omega), if_neg (show ¬ ix b 4 = 4 by omega), if_neg (show ¬ ix b 4 = 5 by omega), if_neg (show ¬ ix b 4 = 6 by omega), if_pos k, if_pos g]
theorem cel_of {c : Cel} (h : c.ok) (hs : c.base) : celB c.octs = some c := by
  obtain ⟨hb, hl⟩ := Cel.bytes h hs
  cases c with
  | node n =>
    simp only [Cel.octs] at hb hl
    have hg := nodeGet_put (fu := 400) hs.1 h (by decide)
    rw [nodeGet_eq (fu := 400) hb (by rw [hl]; decide) (by decide)] at hg
    obtain ⟨g1, g2⟩ := got hg
    exact (celB_node g1).trans (congrArg (fun x => some (Cel.node x)) g2)
  | leaf l =>
    simp only [Cel.octs] at hb hl
    have hg := getLeaf_put (fu := 400) h (by decide)
    rw [getLeaf_eq (fu := 400) hb (by rw [hl]; decide) (by decide)] at hg
    obtain ⟨g1, g2⟩ := got hg
    exact (celB_leaf g1).trans (congrArg (fun x => some (Cel.leaf x)) g2)
  | fan f =>
    simp only [Cel.octs] at hb hl
    have hg := getFan_put (fu := 400) h (by decide)
    rw [getFan_eq (fu := 400) hb (by rw [hl]; decide) (by decide)] at hg
    obtain ⟨g1, g2⟩ := got hg
    exact (celB_fan g1).trans (congrArg (fun x => some (Cel.fan x)) g2)
  | chart c =>
    obtain ⟨p4, p5, p8⟩ := sealed_parts 4 c.Place c.Bits.l
    have h' : RightC c := h
    unfold RightC at h'
    have g1 : GetOk (sealed (summed 4 c.Place c.Bits.l)) := by
      refine ⟨is_sealed (by decide) (by rw [c.Bits.h]; decide), p4, by rw [p5]; exact h'.2, ?_⟩
      rw [p8, c.Bits.h]
      have e : ((c.Bits.l ++ List.replicate 8 (0 : Int)).drop 48) = List.replicate 8 0 := List.drop_left' c.Bits.h
      intro y hy
      have hy' : y ∈ (c.Bits.l ++ List.replicate 8 (0 : Int)).drop 48 := hy
      rw [e] at hy'
      exact List.eq_of_mem_replicate hy'
    have g2 : chartB (sealed (summed 4 c.Place c.Bits.l)) = c := by
      unfold chartB
      rw [p5, p8]
      have : bitsOf (c.Bits.l ++ List.replicate (56 - c.Bits.l.length) 0) = c.Bits := by
        apply Arr.ext
        rw [bitsOf_l (by simp [c.Bits.h]), List.take_left' c.Bits.h]
      rw [this]
    exact (celB_chart g1).trans (congrArg (fun x => some (Cel.chart x)) g2)
  | queue q =>
    simp only [Cel.octs] at hb hl
    have hs' : q.Name.length ≤ 24 := hs
    have hg := (queueGet_put (q := q) (by omega) h).1
    rw [queueGet_eq hb (by rw [hl]; decide)] at hg
    obtain ⟨g1, g2⟩ := got hg
    exact (celB_queue g1).trans (congrArg (fun x => some (Cel.queue x)) g2)
  | dir d =>
    simp only [Cel.octs] at hb hl
    have hg := (dirGet_put (fu := 400) (l := d) h (by decide)).1
    rw [dirGet_eq (fu := 400) hb (by rw [hl]; decide) (by decide)] at hg
    obtain ⟨g1, g2⟩ := got hg
    exact (celB_dir g1).trans (congrArg (fun x : S_api_Dir => some (Cel.dir x.Queues)) g2)
  | sup s =>
    simp only [Cel.octs] at hb hl
    have hg := superGet_put (fu := 400) (s := s) h (by decide)
    rw [superGet_eq (fu := 400) hb (by rw [hl]; decide) (by decide)] at hg
    obtain ⟨g1, g2⟩ := got hg
    exact (celB_sup g1).trans (congrArg (fun x => some (Cel.sup x)) g2)
def sw0 (f t k : Int) : Int := if k = f ∧ f ≠ 0 then t else k
def mapA {n : Nat} (g : Int → Int) (a : Arr n Int) : Arr n Int := ⟨a.l.map g, by rw [List.length_map, a.h]⟩
def swS (f t : Int) (x : S_api_Seat) : S_api_Seat := if x.Live = true ∧ x.Next = f then ⟨x.Live, x.Gen, t⟩ else x
def mapS (g : S_api_Seat → S_api_Seat) (l : S_api_Leaf) : S_api_Leaf := ⟨⟨l.Seats.l.map g, by rw [List.length_map, l.Seats.h]⟩⟩
def Cel.turn (f t : Int) : Cel → Cel
  | .node n => .node ⟨n.Entry, n.Kids.map (sw0 f t)⟩ | .leaf l => .leaf (mapS (swS f t) l) | .fan x => .fan ⟨mapA (sw0 f t) x.Kids⟩ | .chart c => .chart c
  | .queue q => .queue ⟨q.Name, q.Count, mapA (sw0 f t) q.Roots⟩ | .dir d => .dir (d.map (sw0 f t))
  | .sup s => .sup ⟨s.Epoch, ⟨s.Tickets.Geometry, sw0 f t s.Tickets.Top, s.Tickets.High, s.Tickets.Free⟩, sw0 f t s.Dir, s.Charts.map (sw0 f t)⟩
theorem Cel.turn_base {c : Cel} {f t : Int} (h : c.base) : (c.turn f t).base := by
  cases c with
  | node n => exact ⟨h.1, by show (n.Kids.map _).length ≤ 12; rw [List.length_map]; exact h.2⟩
  | leaf l => trivial
  | fan x => trivial
  | chart c => exact h
  | queue q => exact h
  | dir d => show (d.map _).length ≤ 16; rw [List.length_map]; exact h
  | sup s => show (s.Charts.map _).length ≤ 8; rw [List.length_map]; exact h
theorem seat_map {g : S_api_Seat → S_api_Seat} {l : S_api_Leaf} {i : Nat} (hi : i < 7) : seat (mapS g l) i = g (seat l i) := by
  unfold seat
  rw [getA _ hi, getA _ hi]
  simp [mapS]
theorem swS_live (f t : Int) (x : S_api_Seat) : (swS f t x).Live = x.Live := by
  unfold swS
  split <;> rfl
theorem sw0_back {f t k : Int} (hf : f ≠ 0) (ht : t ≠ 0) (hk : k ≠ t) : sw0 t f (sw0 f t k) = k := by
  by_cases e : k = f
  · have e1 : sw0 f t k = t := if_pos ⟨e, hf⟩
    rw [e1, e]
    exact if_pos ⟨rfl, ht⟩
  · have e1 : sw0 f t k = k := if_neg (fun x => e x.1)
    rw [e1]
    exact if_neg (fun x => hk x.1)
theorem map_back {f t : Int} (hf : f ≠ 0) (ht : t ≠ 0) {l : List Int} (h : t ∉ l) : (l.map (sw0 f t)).map (sw0 t f) = l := by
  rw [List.map_map]
  conv => rhs; rw [← List.map_id l]
  exact List.map_congr_left fun x hx => sw0_back hf ht fun e => h (e ▸ hx)
theorem liveN_mem {l : S_api_Leaf} {x : Int} : x ∈ liveN l 7 ↔ ∃ i, i < 7 ∧ (seat l i).Live = true ∧ (seat l i).Next = x := by
  unfold liveN
  simp only [List.mem_map, List.mem_filter, List.mem_range]
  constructor
  · rintro ⟨i, ⟨h1, h2⟩, h3⟩
    exact ⟨i, h1, h2, h3⟩
  · rintro ⟨i, h1, h2, h3⟩
    exact ⟨i, ⟨h1, h2⟩, h3⟩
theorem seats_nz {l : S_api_Leaf} (h : leafOk l) {i : Nat} (hi : i < 7) (hL : (seat l i).Live = true) : (seat l i).Next ≠ 0 := by
  have := h i hi
  unfold seatB at this
  rw [if_pos hL, Bool.and_eq_true, decide_eq_true_eq, decide_eq_true_eq] at this
  omega
theorem Cel.names_turn {c : Cel} {f t : Int} (h : c.ok) : (c.turn f t).names = c.names.map (sw0 f t) := by
  cases c with
  | node n => rfl
  | leaf l =>
    show liveN (mapS (swS f t) l) 7 = (liveN l 7).map (sw0 f t)
    unfold liveN
    rw [List.map_map]
    have e1 : (List.range 7).filter (fun i => (seat (mapS (swS f t) l) i).Live) = (List.range 7).filter (fun i => (seat l i).Live) := by
      apply List.filter_congr
      intro i hi
      rw [seat_map (List.mem_range.1 hi), swS_live]
    rw [e1]
    apply List.map_congr_left
    intro i hi
    obtain ⟨h1, h2⟩ := List.mem_filter.1 hi
    have h1 := List.mem_range.1 h1
    have hn := seats_nz h h1 h2
    rw [seat_map h1]
    show (swS f t (seat l i)).Next = sw0 f t (seat l i).Next
    unfold swS sw0
    by_cases e : (seat l i).Next = f
    · rw [if_pos ⟨h2, e⟩, if_pos ⟨e, by rw [← e]; exact hn⟩]
    · rw [if_neg (fun x => e x.2), if_neg (fun x => e x.1)]
  | fan x => rfl
  | chart c => rfl
  | queue q => rfl
  | dir d => rfl
  | sup s => rfl
theorem mapA_back {n : Nat} {f t : Int} (hf : f ≠ 0) (ht : t ≠ 0) {a : Arr n Int} (h : t ∉ a.l) : mapA (sw0 t f) (mapA (sw0 f t) a) = a := Arr.ext (map_back hf ht h)
theorem Cel.turn_back {c : Cel} {f t : Int} (h : c.ok) (hf : f ≠ 0) (ht : t ≠ 0) (hn : t ∉ c.names) : (c.turn f t).turn t f = c := by
  cases c with
  | node n => show Cel.node ⟨n.Entry, (n.Kids.map _).map _⟩ = _; rw [map_back (l := n.Kids) hf ht hn]
  | leaf l =>
    show Cel.leaf (mapS _ (mapS _ l)) = _
    congr 1
    apply leaf_ext
    intro i hi
    rw [seat_map hi, seat_map hi]
    have hx : ¬ ((seat l i).Live = true ∧ (seat l i).Next = t) := fun x => hn (liveN_mem.2 ⟨i, hi, x.1, x.2⟩)
    unfold swS
    by_cases e : (seat l i).Live = true ∧ (seat l i).Next = f
    · rw [if_pos e, if_pos ⟨e.1, rfl⟩, ← e.2]
    · rw [if_neg e, if_neg hx]
  | fan x => show Cel.fan ⟨mapA _ (mapA _ x.Kids)⟩ = _; rw [mapA_back (a := x.Kids) hf ht hn]
  | chart c => rfl
  | queue q => show Cel.queue ⟨q.Name, q.Count, mapA _ (mapA _ q.Roots)⟩ = _; rw [mapA_back (a := q.Roots) hf ht hn]
  | dir d => show Cel.dir ((d.map _).map _) = _; rw [map_back (l := d) hf ht hn]
  | sup s =>
    have h1 : s.Tickets.Top ≠ t := fun e => hn (by rw [← e]; exact List.mem_cons_self ..)
    have h2 : s.Dir ≠ t := fun e => hn (by rw [← e]; exact List.mem_cons_of_mem _ (List.mem_cons_self ..))
    have h3 : t ∉ s.Charts := fun e => hn (List.mem_append_right _ e)
    show Cel.sup ⟨s.Epoch, ⟨s.Tickets.Geometry, sw0 t f (sw0 f t s.Tickets.Top), s.Tickets.High, s.Tickets.Free⟩, sw0 t f (sw0 f t s.Dir), (s.Charts.map _).map _⟩ = _
    rw [sw0_back hf ht h1, sw0_back hf ht h2, map_back hf ht h3]
def mapTo {α : Type} (g : α → α) (l : List α) (j : Nat) : List α := (l.take j).map g ++ l.drop j
theorem mapTo_len {α : Type} (g : α → α) (l : List α) (j : Nat) : (mapTo g l j).length = l.length := by
  unfold mapTo
  rw [List.length_append, List.length_map, List.length_take, List.length_drop]
  omega
theorem mapTo_all {α : Type} (g : α → α) (l : List α) : mapTo g l l.length = l.map g := by simp [mapTo]
theorem mapTo_at {α : Type} {g : α → α} {l : List α} {j : Nat} (h : j < l.length) : (mapTo g l j)[j]? = some l[j] := by
  unfold mapTo
  have h1 : ((l.take j).map g).length = j := by rw [List.length_map, List.length_take]; omega
  rw [List.getElem?_append_right (by omega), h1, Nat.sub_self, List.getElem?_drop, Nat.add_zero, List.getElem?_eq_getElem h]
theorem mapTo_ix {α : Type} [Inhabited α] {g : α → α} {l : List α} {j : Nat} (h : j < l.length) : ix (mapTo g l j) (j : Int) = l[j] := by
  unfold ix
  rw [Int.toNat_natCast, List.getD_eq_getElem?_getD, mapTo_at h]
  rfl
theorem mapTo_set {α : Type} {g : α → α} {l : List α} {j : Nat} (h : j < l.length) : (mapTo g l j).set j (g l[j]) = mapTo g l (j + 1) := by
  unfold mapTo
  have h1 : ((l.take j).map g).length = j := by rw [List.length_map, List.length_take]; omega
  rw [List.set_append_right _ _ (by omega), h1, Nat.sub_self, List.drop_eq_getElem_cons h, List.set_cons_zero, take_next h, List.map_append, List.append_assoc]
  rfl
theorem mapTo_same {α : Type} {g : α → α} {l : List α} {j : Nat} (h : j < l.length) (e : g l[j] = l[j]) : mapTo g l (j + 1) = mapTo g l j := by
  unfold mapTo
  rw [take_next h, List.map_append, List.append_assoc, List.drop_eq_getElem_cons h]
  simp [e]
def arrTo {α : Type} {n : Nat} (g : α → α) (a : Arr n α) (j : Nat) : Arr n α := ⟨mapTo g a.l j, by rw [mapTo_len, a.h]⟩
theorem arrTo_zero {α : Type} {n : Nat} (g : α → α) (a : Arr n α) : arrTo g a 0 = a := Arr.ext (by simp [arrTo, mapTo])
theorem arrTo_all {n : Nat} (g : Int → Int) (a : Arr n Int) : arrTo g a n = mapA g a := Arr.ext (by
  show mapTo g a.l n = a.l.map g
  rw [← mapTo_all, a.h])
theorem arrTo_set {α : Type} {n : Nat} {g : α → α} {a : Arr n α} {j : Nat} (h : j < n) : Arr.set (arrTo g a j) (j : Int) (g (a.l[j]'(by rw [a.h]; exact h))) = arrTo g a (j + 1) := Arr.ext (by
  show (mapTo g a.l j).set (Int.toNat (j : Int)) _ = mapTo g a.l (j + 1)
  rw [Int.toNat_natCast, mapTo_set (by rw [a.h]; exact h)])
theorem arrTo_same {α : Type} {n : Nat} {g : α → α} {a : Arr n α} {j : Nat} (h : j < n) (e : g (a.l[j]'(by rw [a.h]; exact h)) = a.l[j]'(by rw [a.h]; exact h)) : arrTo g a (j + 1) = arrTo g a j := Arr.ext (mapTo_same (by rw [a.h]; exact h) e)
theorem arrTo_get {α : Type} [Inhabited α] {n : Nat} {g : α → α} {a : Arr n α} {j : Nat} (h : j < n) : Arr.get (arrTo g a j) (j : Int) = a.l[j]'(by rw [a.h]; exact h) := mapTo_ix (by rw [a.h]; exact h)
theorem turn1_eq (fu : Nat) (k f t : Int) : cell_Turn_1_v1_v2.f fu k f t = some (if k = f then t else k) := by
  unfold cell_Turn_1_v1_v2.f
  by_cases e : k = f <;> simp [e]
theorem sw0_of {f t k : Int} (h : k ≠ 0) : sw0 f t k = if k = f then t else k := by
  unfold sw0
  by_cases e : k = f
  · rw [if_pos e, if_pos ⟨e, by rw [← e]; exact h⟩]
  · rw [if_neg e, if_neg (fun x => e x.1)]
theorem sw0_zero (f t : Int) : sw0 f t 0 = 0 := by
  unfold sw0
  rw [if_neg (fun x => x.2 x.1.symm)]
theorem each_eq {l : List Int} {f t : Int} (hl : l.length ≤ 300) : cell_each_cell_Turn_1.f 400 l f t = some (l.map fun k => if k = f then t else k) := by
  unfold cell_each_cell_Turn_1.f
  rw [clone_eq' (by omega)]
  simp only [Option.bind_some]
  have : loopM (cell_each_cell_Turn_1.s0 400 f t l) 400 (0, l) = some (l.map fun k => if k = f then t else k) := by
    refine loopM_run (S := fun j => ((j : Int), mapTo (fun k => if k = f then t else k) l j)) l.length (by simp [mapTo]) ?_ ?_ (by omega)
    · intro j hj
      unfold cell_each_cell_Turn_1.s0
      have h1 : (j : Int) < (l.length : Int) := by omega
      have hml := mapTo_len (fun k => if k = f then t else k) l j
      have h2 : 0 ≤ (j : Int) ∧ (j : Int) < ((mapTo (fun k => if k = f then t else k) l j).length : Int) := by rw [hml]; omega
      have w3 : IntKind.i64.wrap ((j : Int) + 1) = ((j + 1 : Nat) : Int) := next64 hj (by omega)
      simp only [h1, decide_true, if_true, if_pos h2, turn1_eq, Option.bind_some, w3, Int.toNat_natCast]
      have := mapTo_set (g := fun k => if k = f then t else k) hj
      rw [mapTo_ix hj]
      exact congrArg (fun x => some (Sum.inr (((j + 1 : Nat) : Int), x))) this
    · unfold cell_each_cell_Turn_1.s0
      rw [mapTo_all]
      simp
  rw [this]
  rfl
theorem there_eq' {l : List Int} (h0 : l ≠ []) (hl : l.length ≤ 300) : cell_there.f 400 l = some (l.filter nz) := by
  unfold cell_there.f slices_DeleteFunc_cell_there_1.f
  rw [clone_eq' (by omega)]
  simp only [Option.bind_some, if_neg h0]
  rfl
theorem filter_nz {l : List Int} (h : ∀ x ∈ l, x ≠ 0) : l.filter nz = l := by
  apply List.filter_eq_self.2
  intro x hx
  simp [nz, h x hx]
theorem mem_nz {l : List Int} {x : Int} : x ∈ l.filter nz ↔ x ∈ l ∧ x ≠ 0 := by
  rw [List.mem_filter]
  simp [nz]
theorem liveN_succ (l : S_api_Leaf) (n : Nat) : liveN l (n + 1) = liveN l n ++ (if (seat l n).Live = true then [(seat l n).Next] else []) := by
  unfold liveN
  rw [List.range_succ, List.filter_append, List.map_append]
  by_cases e : (seat l n).Live = true <;> simp [e]
theorem liveN_len (l : S_api_Leaf) : ∀ n, (liveN l n).length ≤ n
  | 0 => by simp [liveN]
  | n + 1 => by
    rw [liveN_succ, List.length_append]
    have := liveN_len l n
    split <;> simp <;> omega
theorem leaves_eq {l : S_api_Leaf} : cell_leaves_kids.f 400 l = some (liveN l 7) := by
  unfold cell_leaves_kids.f
  have : loopM (cell_leaves_kids.s0 400 l) 400 ([], 0) = some (liveN l 7) := by
    refine loopM_run (S := fun j => (liveN l j, (j : Int))) 7 rfl ?_ ?_ (by omega)
    · intro j hj
      unfold cell_leaves_kids.s0
      have h1 : (j : Int) < 7 := by omega
      have h2 : 0 ≤ (j : Int) ∧ (j : Int) < 7 := by omega
      have w3 : IntKind.i64.wrap ((j : Int) + 1) = ((j + 1 : Nat) : Int) := next64 hj (by omega)
      have hk : Arr.get l.Seats (j : Int) = seat l j := rfl
      have hlim : (liveN l j).length + [(seat l j).Next].length ≤ LIM := lim_of' (by have := liveN_len l j; simp; omega)
      rw [liveN_succ]
      simp only [h1, decide_true, if_true, if_pos h2, w3, hk]
      by_cases e : (seat l j).Live = true
      · rw [if_pos e, if_pos e, if_pos hlim]
        rfl
      · rw [if_neg e, if_neg e]
        simp
    · unfold cell_leaves_kids.s0
      simp
  rw [this]
  rfl
def pOf : Cel → Cellm
  | .node n => pN n true | .leaf l => pL l true | .fan f => pF f true | .chart c => pC c true | .queue q => pQ q true | .dir d => pD ⟨d⟩ true | .sup s => pU s true
inductive isNo : Cellm → Prop
  | n (x) : isNo (pN x false) | l (x) : isNo (pL x false) | f (x) : isNo (pF x false) | c (x) : isNo (pC x false) | q (x) : isNo (pQ x false) | d (x) : isNo (pD x false) | u (x) : isNo (pU x false) | z : isNo p0
theorem parse_cel {b : List Int} (hb : Bytes b) (hl : b.length ≤ 200) : (∃ c, celB b = some c ∧ cell_parse.f 400 b = some (pOf c)) ∨ (celB b = none ∧ ∃ p, isNo p ∧ cell_parse.f 400 b = some p) := by
  have hk := celB_kd b
  generalize celB b = o at hk
  cases hk with
  | node g => exact .inl ⟨_, rfl, by rw [parse_node hb hl g.1 g.2.1, if_pos g, decide_eq_true g]; rfl⟩
  | leaf g => exact .inl ⟨_, rfl, by rw [parse_leaf hb hl g.1 g.2.1, if_pos g, decide_eq_true g]; rfl⟩
  | fan g => exact .inl ⟨_, rfl, by rw [parse_fan hb hl g.1 g.2.1, if_pos g, decide_eq_true g]; rfl⟩
  | chart g => exact .inl ⟨_, rfl, by rw [parse_chart hb hl g.1 g.2.1, if_pos g, decide_eq_true g]; rfl⟩
  | queue g => exact .inl ⟨_, rfl, by rw [parse_queue hb hl g.1 g.2.1, if_pos g, decide_eq_true g]; rfl⟩
  | dir g => exact .inl ⟨_, rfl, by rw [parse_dir hb hl g.1 g.2.1, if_pos g, decide_eq_true g]; rfl⟩
  | sup g => exact .inl ⟨_, rfl, by rw [parse_sup hb hl g.1 g.2.1, if_pos g, decide_eq_true g]; rfl⟩
  | none n1 n2 n3 n4 n5 n6 n7 =>
    refine .inr ⟨rfl, ?_⟩
    by_cases hi : Is b
    · by_cases k1 : ix b 4 = 1
      · exact ⟨_, .n _, by rw [parse_node hb hl hi k1, decide_eq_false n1]⟩
      · by_cases k2 : ix b 4 = 2
        · exact ⟨_, .l _, by rw [parse_leaf hb hl hi k2, decide_eq_false n2]⟩
        · by_cases k3 : ix b 4 = 3
          · exact ⟨_, .f _, by rw [parse_fan hb hl hi k3, decide_eq_false n3]⟩
          · by_cases k4 : ix b 4 = 4
            · exact ⟨_, .c _, by rw [parse_chart hb hl hi k4, decide_eq_false n4]⟩
            · by_cases k5 : ix b 4 = 5
              · exact ⟨_, .q _, by rw [parse_queue hb hl hi k5, decide_eq_false n5]⟩
              · by_cases k6 : ix b 4 = 6
                · exact ⟨_, .d _, by rw [parse_dir hb hl hi k6, decide_eq_false n6]⟩
                · by_cases k7 : ix b 4 = 7
                  · exact ⟨_, .u _, by rw [parse_sup hb hl hi k7, decide_eq_false n7]⟩
                  · exact ⟨_, .z, parse_not hb hl (.inr ⟨hi, by omega⟩)⟩
    · exact ⟨_, .z, parse_not hb hl (.inl hi)⟩
theorem kids_ok {l : List Int} (h : kidsOk l) : ∀ x ∈ l, x ≠ 0 := by
  intro x hx
  obtain ⟨j, hj, rfl⟩ := List.getElem_of_mem hx
  have := h j hj
  rw [ix_nat hj] at this
  unfold blockOk at this
  omega
theorem dir_ok {l : List Int} (h : DirOk l) : ∀ x ∈ l, x ≠ 0 := by
  intro x hx
  obtain ⟨j, hj, rfl⟩ := List.getElem_of_mem hx
  have := (h.2 j hj).1
  rw [ix_nat hj] at this
  unfold numOk at this
  omega
theorem ins_ok {s : S_api_Super} (h : insC s) : ∀ x ∈ s.Charts, x ≠ 0 := by
  intro x hx
  obtain ⟨j, hj, rfl⟩ := List.getElem_of_mem hx
  have := h j hj
  rw [ix_nat hj] at this
  unfold inB at this
  omega
def kidsB (b : List Int) : List Int := match celB b with
  | some c => c.names.filter nz
  | none => []
theorem kids_eq {b : List Int} (hb : Bytes b) (hl : b.length ≤ 200) : cell_Kids.f 400 b = some (kidsB b) := by
  unfold cell_Kids.f kidsB
  rcases parse_cel hb hl with ⟨c, hc, hp⟩ | ⟨hc, p, hn, hp⟩
  · obtain ⟨hok, hbs, _⟩ := cel_back hb hc
    rw [hp, hc]
    cases c with
    | node n =>
      have hbs : ok_api_Node n ∧ n.Kids.length ≤ 12 := hbs
      show ((cell_nodes_kids.f 400 n).bind fun t => some t) = some (n.Kids.filter nz)
      unfold cell_nodes_kids.f
      rw [clone_eq' (by omega), filter_nz (kids_ok hok.2)]
      rfl
    | leaf l =>
      show ((cell_leaves_kids.f 400 l).bind fun t => some t) = some ((liveN l 7).filter nz)
      rw [leaves_eq, filter_nz fun x hx => ?_]
      · rfl
      · obtain ⟨i, hi, h1, rfl⟩ := liveN_mem.1 hx
        exact seats_nz hok hi h1
    | fan f =>
      show ((cell_fans_kids.f 400 f).bind fun t => some t) = some (f.Kids.l.filter nz)
      unfold cell_fans_kids.f
      have h := f.Kids.h
      rw [there_eq' (by intro e; rw [e] at h; simp at h) (by omega)]
      rfl
    | chart c => rfl
    | queue q =>
      show ((cell_queues_kids.f 400 q).bind fun t => some t) = some (q.Roots.l.filter nz)
      rfl
    | dir d =>
      have hbs : d.length ≤ 16 := hbs
      show ((cell_dirs_kids.f 400 ⟨d⟩).bind fun t => some t) = some (d.filter nz)
      unfold cell_dirs_kids.f
      rw [clone_eq' (by show d.length ≤ 1000; omega), filter_nz (dir_ok hok)]
      rfl
    | sup s =>
      have hbs : s.Charts.length ≤ 8 := hbs
      have hok : SupOk s := hok
      show ((cell_supers_kids.f 400 s).bind fun t => some t) = some (([s.Tickets.Top, s.Dir] ++ s.Charts).filter nz)
      unfold cell_supers_kids.f
      have h2 : ([s.Tickets.Top, s.Dir].filter nz).length ≤ 2 := List.length_filter_le _ _
      rw [there_eq' (by simp) (by simp), Option.bind_some, if_pos (lim_of' (by omega)), List.filter_append, filter_nz (ins_ok hok.2.2.2.2.2.1)]
      rfl
  · rw [hp, hc]
    cases hn <;> rfl
def turnB (b : List Int) (f t : Int) : Option (List Int) := match celB b with
  | some c => if (c.turn f t).ok then some (c.turn f t).octs else none
  | none => none
def tup (o : Option (List Int)) : List Int × Bool := match o with
  | some c => (c, true)
  | none => ([], false)
theorem tup_if {p : Prop} [Decidable p] {x : List Int} : (if p then (x, true) else ([], false)) = tup (if p then some x else none) := by
  by_cases h : p <;> simp [h, tup]
theorem eachOk {l : List Int} {f t : Int} (h : ∀ x ∈ l, x ≠ 0) : (l.map fun k => if k = f then t else k) = l.map (sw0 f t) := List.map_congr_left fun x hx => (sw0_of (h x hx)).symm
theorem fan_turned {x : S_api_Fan} {f t : Int} : loopM (cell_fans_turned_cell_Turn_1.s0 400 x f t) 400 (0, x) = some ⟨mapA (sw0 f t) x.Kids⟩ := by
  refine loopM_run (S := fun j => ((j : Int), (⟨arrTo (sw0 f t) x.Kids j⟩ : S_api_Fan))) 16 (by rw [arrTo_zero]; rfl) ?_ ?_ (by omega)
  · intro j hj
    unfold cell_fans_turned_cell_Turn_1.s0
    have h1 : (j : Int) < 16 := by omega
    have h2 : 0 ≤ (j : Int) ∧ (j : Int) < 16 := by omega
    have w3 : IntKind.i64.wrap ((j : Int) + 1) = ((j + 1 : Nat) : Int) := next64 hj (by omega)
    simp only [h1, decide_true, if_true, if_pos h2, w3, turn1_eq, Option.bind_some]
    have hg := getA x.Kids hj
    rw [hg]
    by_cases e : x.Kids.l[j]'(by rw [x.Kids.h]; exact hj) = 0
    · rw [decide_eq_true e, arrTo_same hj (by rw [e, sw0_zero])]
      rfl
    · rw [decide_eq_false e, ← sw0_of e, arrTo_set hj]
      rfl
  · unfold cell_fans_turned_cell_Turn_1.s0
    rw [arrTo_all]
    simp
theorem queue_turned {q : S_api_Queue} {f t : Int} : loopM (cell_queues_turned_cell_Turn_1.s0 400 q f t) 400 (0, q) = some ⟨q.Name, q.Count, mapA (sw0 f t) q.Roots⟩ := by
  refine loopM_run (S := fun j => ((j : Int), (⟨q.Name, q.Count, arrTo (sw0 f t) q.Roots j⟩ : S_api_Queue))) 12 (by rw [arrTo_zero]; rfl) ?_ ?_ (by omega)
  · intro j hj
    unfold cell_queues_turned_cell_Turn_1.s0
    have h1 : (j : Int) < 12 := by omega
    have h2 : 0 ≤ (j : Int) ∧ (j : Int) < 12 := by omega
    have w3 : IntKind.i64.wrap ((j : Int) + 1) = ((j + 1 : Nat) : Int) := next64 hj (by omega)
    simp only [h1, decide_true, if_true, if_pos h2, w3, turn1_eq, Option.bind_some]
    have hg := getA q.Roots hj
    rw [hg]
    by_cases e : q.Roots.l[j]'(by rw [q.Roots.h]; exact hj) = 0
    · rw [decide_eq_true e, arrTo_same hj (by rw [e, sw0_zero])]
      rfl
    · rw [decide_eq_false e, ← sw0_of e, arrTo_set hj]
      rfl
  · unfold cell_queues_turned_cell_Turn_1.s0
    rw [arrTo_all]
    simp
theorem leaf_turned {l : S_api_Leaf} {f t : Int} : loopM (cell_leaves_turned_cell_Turn_1.s0 400 l f t) 400 (0, l) = some (mapS (swS f t) l) := by
  refine loopM_run (S := fun j => ((j : Int), (⟨arrTo (swS f t) l.Seats j⟩ : S_api_Leaf))) 7 (by rw [arrTo_zero]; rfl) ?_ ?_ (by omega)
  · intro j hj
    unfold cell_leaves_turned_cell_Turn_1.s0
    have h1 : (j : Int) < 7 := by omega
    have h2 : 0 ≤ (j : Int) ∧ (j : Int) < 7 := by omega
    have w3 : IntKind.i64.wrap ((j : Int) + 1) = ((j + 1 : Nat) : Int) := next64 hj (by omega)
    simp only [h1, decide_true, if_true, if_pos h2, w3, turn1_eq, Option.bind_some]
    have hg := getA l.Seats hj
    have hg2 := arrTo_get (g := swS f t) (a := l.Seats) hj
    have hs := arrTo_set (g := swS f t) (a := l.Seats) hj
    rw [hg]
    generalize hx : l.Seats.l[j]'(by rw [l.Seats.h]; exact hj) = x at *
    by_cases e : x.Live = true
    · rw [if_pos e]
      have e2 : updA (arrTo (swS f t) l.Seats j) (j : Int) (fun w => (⟨w.Live, w.Gen, if x.Next = f then t else x.Next⟩ : S_api_Seat)) = arrTo (swS f t) l.Seats (j + 1) := by
        rw [← hs]
        unfold updA
        rw [hg2]
        congr 1
        unfold swS
        by_cases e3 : x.Next = f
        · rw [if_pos e3, if_pos ⟨e, e3⟩]
        · rw [if_neg e3, if_neg (fun z => e3 z.2)]
      rw [e2]
      rfl
    · rw [if_neg e, arrTo_same hj (by rw [hx]; unfold swS; rw [if_neg (fun z => e z.1)])]
      rfl
  · unfold cell_leaves_turned_cell_Turn_1.s0
    have : (⟨arrTo (swS f t) l.Seats 7⟩ : S_api_Leaf) = mapS (swS f t) l := by
      unfold mapS
      congr 1
      apply Arr.ext
      show mapTo (swS f t) l.Seats.l 7 = l.Seats.l.map (swS f t)
      rw [← mapTo_all, l.Seats.h]
    rw [this]
    simp
theorem turn_eq {b : List Int} {f t : Int} (hb : Bytes b) (hl : b.length ≤ 200) : cell_Turn.f 400 b f t = some (tup (turnB b f t)) := by
  unfold cell_Turn.f turnB
  rcases parse_cel hb hl with ⟨c, hc, hp⟩ | ⟨hc, p, hn, hp⟩
  · obtain ⟨hok, hbs, hoc⟩ := cel_back hb hc
    rw [hp, hc]
    cases c with
    | node n =>
      have hbs : ok_api_Node n ∧ n.Kids.length ≤ 12 := hbs
      show ((cell_nodes_turned_cell_Turn_1.f 400 n f t).bind fun t => some (t.1, t.2)) = _
      unfold cell_nodes_turned_cell_Turn_1.f
      rw [each_eq (by omega), eachOk (kids_ok hok.2), Option.bind_some, nodePut_eq (by decide)]
      exact congrArg some tup_if
    | leaf l =>
      show ((cell_leaves_turned_cell_Turn_1.f 400 l f t).bind fun t => some (t.1, t.2)) = _
      unfold cell_leaves_turned_cell_Turn_1.f
      rw [leaf_turned, Option.bind_some, putLeaf_eq (by decide)]
      exact congrArg some tup_if
    | fan x =>
      show ((cell_fans_turned_cell_Turn_1.f 400 x f t).bind fun t => some (t.1, t.2)) = _
      unfold cell_fans_turned_cell_Turn_1.f
      rw [fan_turned, Option.bind_some, putFan_eq (by decide)]
      exact congrArg some tup_if
    | chart c =>
      show ((cell_charts_turned_cell_Turn_1.f 400 c f t).bind fun t => some (t.1, t.2)) = _
      unfold cell_charts_turned_cell_Turn_1.f
      rw [put_eq hbs (by decide)]
      exact congrArg some tup_if
    | queue q =>
      have hbs : q.Name.length ≤ 24 := hbs
      show ((cell_queues_turned_cell_Turn_1.f 400 q f t).bind fun t => some (t.1, t.2)) = _
      unfold cell_queues_turned_cell_Turn_1.f
      rw [queue_turned, Option.bind_some, queuePut_eq (q := ⟨q.Name, q.Count, mapA (sw0 f t) q.Roots⟩) (by show q.Name.length ≤ 300; omega)]
      exact congrArg some tup_if
    | dir d =>
      have hbs : d.length ≤ 16 := hbs
      show ((cell_dirs_turned_cell_Turn_1.f 400 ⟨d⟩ f t).bind fun t => some (t.1, t.2)) = _
      unfold cell_dirs_turned_cell_Turn_1.f
      rw [each_eq (by show d.length ≤ 300; omega), eachOk (dir_ok hok), Option.bind_some, dirPut_eq (by decide)]
      exact congrArg some tup_if
    | sup s =>
      have hbs : s.Charts.length ≤ 8 := hbs
      have hok : SupOk s := hok
      show ((cell_supers_turned_cell_Turn_1.f 400 s f t).bind fun t => some (t.1, t.2)) = _
      unfold cell_supers_turned_cell_Turn_1.f
      have h1 : ((if (!decide (s.Tickets.Top = 0)) = true then ((cell_Turn_1_v1_v2.f 400 s.Tickets.Top f t : Option Int).bind fun t5 => some ((⟨s.Epoch, (⟨s.Tickets.Geometry, t5, s.Tickets.High, s.Tickets.Free⟩ : S_api_Tickets), s.Dir, s.Charts⟩ : S_api_Super))) else some s) : Option S_api_Super) = some ⟨s.Epoch, ⟨s.Tickets.Geometry, sw0 f t s.Tickets.Top, s.Tickets.High, s.Tickets.Free⟩, s.Dir, s.Charts⟩ := by
        rw [turn1_eq]
        by_cases e : s.Tickets.Top = 0
        · rw [decide_eq_true e, e, sw0_zero, ← e]
          rfl
        · rw [decide_eq_false e, sw0_of e]
          rfl
      rw [h1, Option.bind_some]
      simp only [turn1_eq, Option.bind_some]
      have h2 : ((if (!decide (s.Dir = 0)) = true then some ((⟨s.Epoch, ⟨s.Tickets.Geometry, sw0 f t s.Tickets.Top, s.Tickets.High, s.Tickets.Free⟩, (if s.Dir = f then t else s.Dir), s.Charts⟩ : S_api_Super)) else some ⟨s.Epoch, ⟨s.Tickets.Geometry, sw0 f t s.Tickets.Top, s.Tickets.High, s.Tickets.Free⟩, s.Dir, s.Charts⟩) : Option S_api_Super) = some ⟨s.Epoch, ⟨s.Tickets.Geometry, sw0 f t s.Tickets.Top, s.Tickets.High, s.Tickets.Free⟩, sw0 f t s.Dir, s.Charts⟩ := by
        by_cases e : s.Dir = 0
        · rw [decide_eq_true e, e, sw0_zero]
          rfl
        · rw [decide_eq_false e, sw0_of e]
          rfl
      rw [h2, Option.bind_some]
      simp only
      rw [each_eq (by omega), eachOk (ins_ok hok.2.2.2.2.2.1), Option.bind_some, superPut_eq (by decide)]
      exact congrArg some tup_if
  · rw [hp, hc]
    cases hn <;> rfl
theorem awake14 : rickyardlaw14_awake.f 400 = some true := by decide +kernel
end Go.Proofs.YtdifnahlheogdaaGreat.Pure
namespace Go.Proofs.YtdifnahlheogdaaGreat
open Go Go.Xw Go.Yw
end Go.Proofs.YtdifnahlheogdaaGreat
namespace Go.Proofs.YtdifnahlheogdaaGreat.Pure
open Go Go.Xw Go.Yw
theorem loopM_wf {σ ε : Type} {step : σ → Option (Sum ε σ)} (P : Nat → σ → Prop) (Q : ε → Prop) (h : ∀ j s, P j s → (∃ e, step s = some (.inl e) ∧ Q e) ∨ (∃ s' j', j' < j ∧ step s = some (.inr s') ∧ P j' s')) : ∀ (k j : Nat) (s : σ), j < k → P j s → ∃ e, loopM step k s = some e ∧ Q e
  | 0, j, s, hk, _ => by omega
  | k + 1, j, s, hk, hp => by
    unfold loopM
    rcases h j s hp with ⟨e, h1, h2⟩ | ⟨s', j', h1, h2, h3⟩
    · rw [h1]
      exact ⟨e, rfl, h2⟩
    · rw [h2]
      exact loopM_wf P Q h k j' s' (by omega) h3
def I64 (x : Int) : Prop := -9223372036854775808 ≤ x ∧ x ≤ 9223372036854775807
theorem show_some {a : Int} (ha : I64 a) : ∃ r, rickyardref03_Show.f 400 a = some r ∧ r.length ≤ 25 := by
  unfold rickyardref03_Show.f
  by_cases h0 : a = 0
  · rw [decide_eq_true h0]
    exact ⟨[48], rfl, by decide⟩
  · rw [decide_eq_false h0]
    simp only [Bool.false_eq_true, if_false]
    obtain ⟨e, he, hq⟩ := loopM_wf (step := rickyardref03_Show.s0 400) (fun j s => j ≤ 20 ∧ s.1.length + j ≤ 20 ∧ s.2.natAbs < 10 ^ j ∧ I64 s.2) (fun e => e.length ≤ 20) (fun j s hs => by
      obtain ⟨h1, h2, h3, h4⟩ := hs
      unfold rickyardref03_Show.s0
      by_cases e : s.2 = 0
      · left
        refine ⟨s.1, ?_, by omega⟩
        rw [decide_eq_true e]
        rfl
      · right
        cases j with
        | zero => simp at h3; exact absurd h3 e
        | succ j =>
          have hd : (Int.tdiv s.2 10).natAbs = s.2.natAbs / 10 := by rw [Int.natAbs_tdiv]; rfl
          have h5 : (Int.tdiv s.2 10).natAbs < 10 ^ j := by
            rw [hd]
            rw [Nat.pow_succ] at h3
            omega
          unfold I64 at h4
          have h6 : -9223372036854775808 ≤ Int.tdiv s.2 10 ∧ Int.tdiv s.2 10 ≤ 9223372036854775807 := by omega
          have w : IntKind.i64.wrap (Int.tdiv s.2 10) = Int.tdiv s.2 10 := w64 h6.1 h6.2
          rw [decide_eq_false e, w]
          simp only [Bool.not_false, if_true]
          have hx : ∃ x, ((if decide (Int.tmod s.2 10 < 0) = true then some (IntKind.i64.wrap (-(Int.tmod s.2 10))) else some (Int.tmod s.2 10)) : Option Int) = some x := by
            by_cases q : Int.tmod s.2 10 < 0
            · exact ⟨_, by rw [decide_eq_true q]; rfl⟩
            · exact ⟨_, by rw [decide_eq_false q]; rfl⟩
          obtain ⟨x, hx⟩ := hx
          rw [hx]
          simp only [Option.bind_some]
          rw [if_pos (lim_of' (by simp; omega))]
          exact ⟨_, j, Nat.lt_succ_self j, rfl, by omega, by simp; omega, h5, h6⟩) 400 20 ([], a) (by omega) ⟨by omega, by simp, by
            show a.natAbs < 10 ^ 20
            unfold I64 at ha
            have : (10 : Nat) ^ 20 = 100000000000000000000 := by decide
            omega, ha⟩
    rw [he]
    simp only [Option.bind_some]
    by_cases hn : a < 0
    · rw [decide_eq_true hn, if_pos rfl, if_pos (lim_of' (by simp; omega))]
      exact ⟨_, rfl, by simp; omega⟩
    · rw [decide_eq_false hn]
      exact ⟨_, rfl, by omega⟩
theorem join_some {w : List UInt8} {l : List Int} (hl : l.length ≤ 20) (hw : w.length ≤ 400) (hv : ∀ x ∈ l, I64 x) : ∃ r, rickyardref14_join.f 400 w l = some r ∧ r.length ≤ w.length + 26 * l.length := by
  unfold rickyardref14_join.f
  obtain ⟨e, he, hq⟩ := loopM_inv (step := rickyardref14_join.s0 400 l) (fun j (s : List UInt8 × Int) => s.2 = (j : Int) ∧ s.1.length ≤ w.length + 26 * j) l.length (fun e => e.length ≤ w.length + 26 * l.length) (fun j s hj hs => by
      obtain ⟨s1, s2⟩ := s
      obtain ⟨rfl, h2⟩ := hs
      have h2 : s1.length ≤ w.length + 26 * j := h2
      unfold rickyardref14_join.s0
      have h1 : (j : Int) < (l.length : Int) := by omega
      have h3 : 0 ≤ (j : Int) ∧ (j : Int) < (l.length : Int) := by omega
      obtain ⟨r, hr, hrl⟩ := show_some (hv _ (List.getElem_mem hj))
      simp only [h1, decide_true, if_true, if_pos h3]
      rw [if_pos (lim_of' (by simp; omega)), ix_nat hj, hr, Option.bind_some, if_pos (lim_of' (by simp; omega))]
      exact ⟨_, rfl, next64 hj (by omega), by simp; omega⟩) (fun s hs => by
      obtain ⟨s1, s2⟩ := s
      obtain ⟨rfl, h2⟩ := hs
      unfold rickyardref14_join.s0
      exact ⟨s1, by simp, h2⟩) (k := 400) (j := 0) (s := (w, 0)) ⟨rfl, by simp⟩ (by omega) (by omega)
  rw [he]
  exact ⟨e, rfl, hq⟩
theorem leaf_some {l : S_api_Leaf} (h : leafOk l) : ∃ t, rickyardref14_leaf.f 400 l = some ⟨2, liveN l 7, t, ⟨⟨0, 0⟩, 0, 0⟩, []⟩ := by
  unfold rickyardref14_leaf.f
  obtain ⟨e, he, hq⟩ := loopM_inv (step := rickyardref14_leaf.s0 400 l) (fun j (s : Int × (List Int) × (List UInt8)) => s.1 = (j : Int) ∧ s.2.1 = liveN l j ∧ s.2.2.length ≤ 4 + 60 * j) 7 (fun e => e.1 = liveN l 7) (fun j s hj hs => by
      obtain ⟨s1, s2, s3⟩ := s
      obtain ⟨rfl, rfl, h2⟩ := hs
      have h2 : s3.length ≤ 4 + 60 * j := h2
      unfold rickyardref14_leaf.s0
      have h1 : (j : Int) < 7 := by omega
      have h3 : 0 ≤ (j : Int) ∧ (j : Int) < 7 := by omega
      have hk : Arr.get l.Seats (j : Int) = seat l j := rfl
      obtain ⟨n1, n2⟩ := seatB_nums (h j hj)
      obtain ⟨r1, hr1, hl1⟩ := show_some (a := (seat l j).Gen) ⟨by omega, by omega⟩
      obtain ⟨r2, hr2, hl2⟩ := show_some (a := (seat l j).Next) ⟨by omega, by omega⟩
      have hll := liveN_len l j
      simp only [h1, decide_true, if_true, if_pos h3, hk]
      have hx : ∃ x : List UInt8, x.length = 1 ∧ ((if (seat l j).Live = true then if List.length (liveN l j) + List.length [(seat l j).Next] ≤ LIM then some ([43], (liveN l j ++ [(seat l j).Next])) else none else some ([45], liveN l j)) : Option ((List UInt8) × (List Int))) = some (x, liveN l (j + 1)) := by
        rw [liveN_succ]
        by_cases e : (seat l j).Live = true
        · rw [if_pos e, if_pos e, if_pos (lim_of' (by simp; omega))]
          exact ⟨[43], rfl, rfl⟩
        · rw [if_neg e, if_neg e, List.append_nil]
          exact ⟨[45], rfl, rfl⟩
      obtain ⟨x, hxl, hx⟩ := hx
      rw [hx]
      simp only [Option.bind_some]
      rw [if_pos (lim_of' (by simp; omega)), hr1, Option.bind_some, if_pos (lim_of' (by simp; omega)), if_pos (lim_of' (by simp; omega)), hr2, Option.bind_some, if_pos (lim_of' (by simp; omega))]
      exact ⟨_, rfl, next64 hj (by omega), rfl, by simp; omega⟩) (fun s hs => by
      obtain ⟨s1, s2, s3⟩ := s
      obtain ⟨rfl, h1, h2⟩ := hs
      unfold rickyardref14_leaf.s0
      exact ⟨(s2, s3), by simp, h1⟩) (k := 400) (j := 0) (s := (0, [], [108, 101, 97, 102])) ⟨rfl, rfl, by simp⟩ (by omega) (by omega)
  rw [he]
  simp only [Option.bind_some, hq]
  exact ⟨_, rfl⟩
theorem rlist_some {c : S_api_Chart} (hr : RightC c) : ∃ r, rickyardref10_List.f 400 c = some r ∧ r.length ≤ 384 := by
  unfold rickyardref10_List.f
  obtain ⟨e, he, hq⟩ := loopM_inv (step := rickyardref10_List.s0 400 c) (fun j (s : (List Int) × Int) => s.2 = (j : Int) ∧ s.1.length ≤ 8 * j) 48 (fun e => e.length ≤ 384) (fun j s hj hs => by
      obtain ⟨s1, s2⟩ := s
      obtain ⟨rfl, h2⟩ := hs
      have h2 : s1.length ≤ 8 * j := h2
      unfold rickyardref10_List.s0
      have h1 : (j : Int) < 48 := by omega
      have h3 : 0 ≤ (j : Int) ∧ (j : Int) < 48 := by omega
      rw [rright_eq, decide_eq_true hr]
      simp only [h1, decide_true, if_true, if_pos h3, Option.bind_some]
      obtain ⟨e, he, hq⟩ := loopM_inv (step := rickyardref10_List.s1 400 c (s1, (j : Int))) (fun i (s : (List Int) × Int × Int) => s.2.2 = (i : Int) ∧ s.1.length ≤ 8 * j + i) 8 (fun e => e.length ≤ 8 * j + 8) (fun i s hi hs => by
          obtain ⟨t1, t2, t3⟩ := s
          obtain ⟨rfl, k2⟩ := hs
          have k2 : t1.length ≤ 8 * j + i := k2
          unfold rickyardref10_List.s1
          have k1 : (i : Int) < 8 := by omega
          simp only [k1, decide_true, if_true]
          by_cases q : Int.tmod t2 2 = 1
          · rw [decide_eq_true q, if_pos rfl, if_pos (lim_of' (by simp; omega))]
            exact ⟨_, rfl, next64 hi (by omega), by simp; omega⟩
          · rw [decide_eq_false q, if_neg (by decide)]
            exact ⟨_, rfl, next64 hi (by omega), by show t1.length ≤ _; omega⟩) (fun s hs => by
          obtain ⟨t1, t2, t3⟩ := s
          obtain ⟨rfl, k2⟩ := hs
          unfold rickyardref10_List.s1
          exact ⟨t1, by simp, k2⟩) (k := 400) (j := 0) (s := (s1, IntKind.i64.wrap (Arr.get c.Bits (j : Int)), 0)) ⟨rfl, by simpa using h2⟩ (by omega) (by omega)
      rw [he]
      exact ⟨_, rfl, next64 hj (by omega), by show e.length ≤ _; omega⟩) (fun s hs => by
      obtain ⟨s1, s2⟩ := s
      obtain ⟨rfl, h2⟩ := hs
      unfold rickyardref10_List.s0
      exact ⟨s1, by simp, by simpa using h2⟩) (k := 400) (j := 0) (s := ([], 0)) ⟨rfl, by simp⟩ (by omega) (by omega)
  rw [he]
  exact ⟨e, rfl, hq⟩
def Cel.kind : Cel → Int
  | .node _ => 1 | .leaf _ => 2 | .fan _ => 3 | .chart _ => 4 | .queue _ => 5 | .dir _ => 6 | .sup _ => 7
theorem rootOk_small {q : S_api_Queue} (h : QueueOk q) : ∀ x ∈ q.Roots.l, I64 x := by
  intro x hx
  obtain ⟨i, hi, rfl⟩ := List.getElem_of_mem hx
  have hi' : i < 12 := by have := q.Roots.h; omega
  have := h.2.2 i hi'
  unfold rootOk at this
  rw [ix_nat hi] at this
  have hm : q.Count.toNat / 2 ^ i % 2 = 0 ∨ q.Count.toNat / 2 ^ i % 2 = 1 := by omega
  unfold I64
  rcases hm with e | e
  · have := this.1 e
    omega
  · have := this.2 e
    unfold numOk at this
    omega
theorem read_eq' {b : List Int} (hb : Bytes b) : ∃ c, rickyardref14_Read.f 400 b = some c ∧ match celB b with
    | some x => c.Kind = x.kind ∧ c.Names = x.names
    | none => c.Kind = 0 ∧ c.Names = [] := by
  unfold rickyardref14_Read.f
  have hk := celB_kd b
  have hba := fun c h => cel_back (c := c) hb h
  generalize celB b = o at hk hba
  rw [rnodeGet_eq hb (by decide), rgetLeaf_eq hb (by decide), rgetFan_eq hb (by decide), rget_eq hb (by decide), rqueueGet_eq hb, rdirGet_eq hb (by decide), rsuperGet_eq hb (by decide)]
  cases hk with
  | node g =>
    obtain ⟨hok, hbs, _⟩ := hba _ rfl
    have hbs : ok_api_Node (nodeB b) ∧ (nodeB b).Kids.length ≤ 12 := hbs
    have hok : NodeR (nodeB b) := hok
    rw [if_pos g]
    rw [show nodeOf (List.drop 8 b) (ix b 5).toNat = nodeB b from rfl]
    generalize nodeB b = n at *
    simp only [Option.bind_some, if_true]
    show ∃ c, ((rickyardref03_Show.f 400 n.Entry.Handle.Slot).bind _) = some c ∧ _
    have h1 := hok.1.1
    have h2 := hok.1.2.1
    obtain ⟨r1, e1, l1⟩ := show_some (a := n.Entry.Handle.Slot) ⟨by omega, by omega⟩
    obtain ⟨r2, e2, l2⟩ := show_some (a := n.Entry.Handle.Gen) ⟨by omega, by omega⟩
    rw [e1, Option.bind_some, if_pos (lim_of' (by simp; omega)), if_pos (lim_of' (by simp; omega))]
    show ∃ c, ((rickyardref03_Show.f 400 n.Entry.Handle.Gen).bind _) = some c ∧ _
    rw [e2, Option.bind_some, if_pos (lim_of' (by simp; omega))]
    show ∃ c, ((rickyardref14_join.f 400 _ [n.Entry.Key, n.Entry.Value]).bind fun t8 => ((rickyardref14_join.f 400 t8 n.Kids).bind _)) = some c ∧ _
    obtain ⟨r3, e3, l3⟩ := join_some (w := [110, 111, 100, 101, 32] ++ r1 ++ [46] ++ r2) (l := [n.Entry.Key, n.Entry.Value]) (by simp) (by simp; omega) (by
      intro x hx
      rcases List.mem_cons.1 hx with rfl | hx
      · exact hbs.1.1
      · rw [List.mem_singleton.1 hx]; exact hbs.1.2)
    rw [e3, Option.bind_some]
    obtain ⟨r4, e4, l4⟩ := join_some (w := r3) (l := n.Kids) (by omega) (by simp at l3; omega) (by
      intro x hx
      obtain ⟨j, hj, rfl⟩ := List.getElem_of_mem hx
      have := hok.2 j hj
      rw [ix_nat hj] at this
      unfold blockOk at this
      exact ⟨by omega, by omega⟩)
    rw [e4]
    exact ⟨_, rfl, rfl, rfl⟩
  | leaf g =>
    obtain ⟨hok, hbs, _⟩ := hba _ rfl
    have n1 : ¬ GetN b := fun x => by have := x.2.1; have := g.2.1; omega
    rw [if_neg n1, if_pos g]
    rw [show leafOf (List.drop 8 b) (ix b 5) = leafB b from rfl]
    generalize leafB b = l9 at *
    simp only [Option.bind_some, Bool.false_eq_true, if_false, if_true]
    obtain ⟨t, ht⟩ := leaf_some (l := l9) hok
    show ∃ c, ((rickyardref14_leaf.f 400 l9).bind _) = some c ∧ _
    rw [ht]
    exact ⟨_, rfl, rfl, rfl⟩
  | fan g =>
    obtain ⟨hok, hbs, _⟩ := hba _ rfl
    have hok : fanOk (fanB' b) := hok
    have n1 : ¬ GetN b := fun x => by have := x.2.1; have := g.2.1; omega
    have n2 : ¬ GetL b := fun x => by have := x.2.1; have := g.2.1; omega
    rw [if_neg n1, if_neg n2, if_pos g]
    rw [show fanOf (List.drop 8 b) = fanB' b from rfl]
    generalize fanB' b = x9 at *
    simp only [Option.bind_some, Bool.false_eq_true, if_false, if_true]
    show ∃ c, ((rickyardref14_join.f 400 [102, 97, 110] x9.Kids.l).bind _) = some c ∧ _
    have hh := x9.Kids.h
    obtain ⟨r, e, l⟩ := join_some (w := [102, 97, 110]) (l := x9.Kids.l) (by omega) (by decide) (by
      intro x hx
      obtain ⟨j, hj, rfl⟩ := List.getElem_of_mem hx
      have := hok j (by omega)
      unfold kid at this
      rw [getA _ (by omega)] at this
      unfold kidOk at this
      exact ⟨by omega, by omega⟩)
    rw [e]
    exact ⟨_, rfl, rfl, rfl⟩
  | chart g =>
    obtain ⟨hok, hbs, _⟩ := hba _ rfl
    have hok : RightC (chartB b) := hok
    have n1 : ¬ GetN b := fun x => by have := x.2.1; have := g.2.1; omega
    have n2 : ¬ GetL b := fun x => by have := x.2.1; have := g.2.1; omega
    have n3 : ¬ GetF b := fun x => by have := x.2.1; have := g.2.1; omega
    rw [if_neg n1, if_neg n2, if_neg n3, if_pos g]
    rw [show (⟨ix b 5, bitsOf (List.drop 8 b)⟩ : S_api_Chart) = chartB b from rfl]
    generalize chartB b = c9 at *
    simp only [Option.bind_some, Bool.false_eq_true, if_false, if_true]
    obtain ⟨r, e, l⟩ := rlist_some hok
    show ∃ c, ((rickyardref10_List.f 400 c9).bind fun t25 => ((rickyardref14_join.f 400 [99, 104, 97, 114, 116] [c9.Place, (t25.length : Int)]).bind _)) = some c ∧ _
    rw [e, Option.bind_some]
    unfold RightC at hok
    obtain ⟨r2, e2, l2⟩ := join_some (w := [99, 104, 97, 114, 116]) (l := [c9.Place, (r.length : Int)]) (by simp) (by decide) (by
      intro x hx
      rcases List.mem_cons.1 hx with rfl | hx
      · exact ⟨by omega, by omega⟩
      · rw [List.mem_singleton.1 hx]; exact ⟨by omega, by omega⟩)
    rw [e2]
    exact ⟨_, rfl, rfl, rfl⟩
  | queue g =>
    obtain ⟨hok, hbs, _⟩ := hba _ rfl
    have hok : QueueOk (queueB b) := hok
    have hbs : (queueB b).Name.length ≤ 24 := hbs
    have n1 : ¬ GetN b := fun x => by have := x.2.1; have := g.2.1; omega
    have n2 : ¬ GetL b := fun x => by have := x.2.1; have := g.2.1; omega
    have n3 : ¬ GetF b := fun x => by have := x.2.1; have := g.2.1; omega
    have n4 : ¬ GetOk b := fun x => by have := x.2.1; have := g.2.1; omega
    rw [if_neg n1, if_neg n2, if_neg n3, if_neg n4, if_pos g]
    rw [show queueOf (List.drop 8 b) (ix b 5).toNat = queueB b from rfl]
    generalize queueB b = q9 at *
    simp only [Option.bind_some, Bool.false_eq_true, if_false, if_true]
    show ∃ c, (if List.length [113, 117, 101, 117, 101, 32] + List.length q9.Name ≤ LIM then ((rickyardref14_join.f 400 ([113, 117, 101, 117, 101, 32] ++ q9.Name) [q9.Count]).bind fun t32 => ((rickyardref14_join.f 400 t32 q9.Roots.l).bind _)) else none) = some c ∧ _
    rw [if_pos (lim_of' (by simp; omega))]
    have h2 := hok.2.1
    obtain ⟨r1, e1, l1⟩ := join_some (w := [113, 117, 101, 117, 101, 32] ++ q9.Name) (l := [q9.Count]) (by simp) (by simp; omega) (by
      intro x hx
      rw [List.mem_singleton.1 hx]
      exact ⟨by omega, by omega⟩)
    rw [e1, Option.bind_some]
    have hh := q9.Roots.h
    obtain ⟨r2, e2, l2⟩ := join_some (w := r1) (l := q9.Roots.l) (by omega) (by simp at l1; omega) (rootOk_small hok)
    rw [e2]
    exact ⟨_, rfl, rfl, rfl⟩
  | dir g =>
    obtain ⟨hok, hbs, _⟩ := hba _ rfl
    have hok : DirOk (dirB b) := hok
    have hbs : (dirB b).length ≤ 16 := hbs
    have n1 : ¬ GetN b := fun x => by have := x.2.1; have := g.2.1; omega
    have n2 : ¬ GetL b := fun x => by have := x.2.1; have := g.2.1; omega
    have n3 : ¬ GetF b := fun x => by have := x.2.1; have := g.2.1; omega
    have n4 : ¬ GetOk b := fun x => by have := x.2.1; have := g.2.1; omega
    have n5 : ¬ GetQ b := fun x => by have := x.2.1; have := g.2.1; omega
    rw [if_neg n1, if_neg n2, if_neg n3, if_neg n4, if_neg n5, if_pos g]
    rw [show dirOf (List.drop 8 b) (ix b 5).toNat = dirB b from rfl]
    generalize dirB b = d9 at *
    simp only [Option.bind_some, Bool.false_eq_true, if_false, if_true]
    show ∃ c, ((rickyardref14_join.f 400 [100, 105, 114] d9).bind _) = some c ∧ _
    obtain ⟨r, e, l⟩ := join_some (w := [100, 105, 114]) (l := d9) (by omega) (by decide) (by
      intro x hx
      obtain ⟨j, hj, rfl⟩ := List.getElem_of_mem hx
      have := (hok.2 j hj).1
      rw [ix_nat hj] at this
      unfold numOk at this
      exact ⟨by omega, by omega⟩)
    rw [e]
    exact ⟨_, rfl, rfl, rfl⟩
  | sup g =>
    obtain ⟨hok, hbs, _⟩ := hba _ rfl
    have hok : SupOk (supB' b) := hok
    have hbs : (supB' b).Charts.length ≤ 8 := hbs
    have n1 : ¬ GetN b := fun x => by have := x.2.1; have := g.2.1; omega
    have n2 : ¬ GetL b := fun x => by have := x.2.1; have := g.2.1; omega
    have n3 : ¬ GetF b := fun x => by have := x.2.1; have := g.2.1; omega
    have n4 : ¬ GetOk b := fun x => by have := x.2.1; have := g.2.1; omega
    have n5 : ¬ GetQ b := fun x => by have := x.2.1; have := g.2.1; omega
    have n6 : ¬ GetD b := fun x => by have := x.2.1; have := g.2.1; omega
    rw [if_neg n1, if_neg n2, if_neg n3, if_neg n4, if_neg n5, if_neg n6, if_pos g]
    have hI : ∀ x ∈ [(supB' b).Epoch, (supB' b).Tickets.Geometry.Blocks, (supB' b).Tickets.Geometry.Slots, (supB' b).Tickets.Geometry.Gens, (supB' b).Tickets.High, (supB' b).Tickets.Free, (supB' b).Tickets.Top, (supB' b).Dir], I64 x := by
      intro x hx
      simp only [List.mem_cons, List.not_mem_nil, or_false] at hx
      rcases hx with rfl | rfl | rfl | rfl | rfl | rfl | rfl | rfl <;> exact i64_intAt _ _ _
    have hJ : ∀ x ∈ (supB' b).Charts, I64 x := by
      intro x hx
      obtain ⟨i, _, rfl⟩ := List.mem_map.1 hx
      exact i64_intAt _ _ _
    rw [show supOf (List.drop 8 b) (ix b 5).toNat = supB' b from rfl]
    generalize supB' b = s9 at *
    simp only [Option.bind_some, Bool.false_eq_true, if_false, if_true]
    show ∃ c, (if List.length [s9.Tickets.Top, s9.Dir] + List.length s9.Charts ≤ LIM then ((rickyardref14_join.f 400 [115, 117, 112, 101, 114] [s9.Epoch, s9.Tickets.Geometry.Blocks, s9.Tickets.Geometry.Slots, s9.Tickets.Geometry.Gens, s9.Tickets.High, s9.Tickets.Free, s9.Tickets.Top, s9.Dir]).bind fun t44 => ((rickyardref14_join.f 400 t44 s9.Charts).bind _)) else none) = some c ∧ _
    rw [if_pos (lim_of' (by simp; omega))]
    obtain ⟨r1, e1, l1⟩ := join_some (w := [115, 117, 112, 101, 114]) (l := [s9.Epoch, s9.Tickets.Geometry.Blocks, s9.Tickets.Geometry.Slots, s9.Tickets.Geometry.Gens, s9.Tickets.High, s9.Tickets.Free, s9.Tickets.Top, s9.Dir]) (by simp) (by decide) hI
    rw [e1, Option.bind_some]
    obtain ⟨r2, e2, l2⟩ := join_some (w := r1) (l := s9.Charts) (by omega) (by simp at l1; omega) hJ
    rw [e2]
    exact ⟨_, rfl, rfl, rfl⟩
  | none n1 n2 n3 n4 n5 n6 n7 =>
    rw [if_neg n1, if_neg n2, if_neg n3, if_neg n4, if_neg n5, if_neg n6, if_neg n7]
    exact ⟨_, rfl, rfl, rfl⟩
theorem names_len {c : Cel} (h : c.base) : c.names.length ≤ 20 := by
  cases c with
  | node n => have := h.2; show n.Kids.length ≤ 20; omega
  | leaf l => have := liveN_len l 7; show (liveN l 7).length ≤ 20; omega
  | fan f => show f.Kids.l.length ≤ 20; rw [f.Kids.h]; decide
  | chart c => exact Nat.zero_le _
  | queue q => show q.Roots.l.length ≤ 20; rw [q.Roots.h]; decide
  | dir d => have h : d.length ≤ 16 := h; show d.length ≤ 20; omega
  | sup s => have h : s.Charts.length ≤ 8 := h; show ([s.Tickets.Top, s.Dir] ++ s.Charts).length ≤ 20; simp; omega
theorem filter_loop {c : S_rickyardref14_Cell} (hl : c.Names.length ≤ 20) : loopM (rickyardref14_Kids.s0 400 c) 400 ([], 0) = some (c.Names.filter nz) := by
  refine loopM_run (S := fun j => ((c.Names.take j).filter nz, (j : Int))) c.Names.length (by simp) ?_ ?_ (by omega)
  · intro j hj
    unfold rickyardref14_Kids.s0
    have h1 : (j : Int) < (c.Names.length : Int) := by omega
    have h2 : 0 ≤ (j : Int) ∧ (j : Int) < (c.Names.length : Int) := by omega
    have w3 : IntKind.i64.wrap ((j : Int) + 1) = ((j + 1 : Nat) : Int) := next64 hj (by omega)
    have h3 : ((c.Names.take j).filter nz).length ≤ j := Nat.le_trans (List.length_filter_le _ _) (by rw [List.length_take]; omega)
    simp only [h1, decide_true, if_true, if_pos h2, w3, ix_nat hj]
    rw [take_next hj, List.filter_append, if_pos (lim_of' (by simp; omega))]
    by_cases e : c.Names[j] = 0
    · rw [decide_eq_true e]
      simp [e, nz]
    · rw [decide_eq_false e]
      simp [e, nz]
  · unfold rickyardref14_Kids.s0
    simp
theorem rkids_eq {b : List Int} (hb : Bytes b) : rickyardref14_Kids.f 400 b = some (kidsB b) := by
  unfold rickyardref14_Kids.f
  obtain ⟨c, hc, hm⟩ := read_eq' hb
  rw [hc, Option.bind_some]
  have hn : c.Names.length ≤ 20 ∧ c.Names.filter nz = kidsB b := by
    unfold kidsB
    cases h : celB b with
    | none =>
      rw [h] at hm
      rw [hm.2]
      exact ⟨by simp, rfl⟩
    | some x =>
      rw [h] at hm
      rw [hm.2]
      exact ⟨names_len (cel_back hb h).2.1, rfl⟩
  rw [filter_loop hn.1, hn.2]
  rfl
theorem okv_bytes2 {l : List Int} (h : okv 9 (⟨.sl (.int .u8), l⟩ : PV G.toSg)) : Bytes l := fun x hx => wf8.1 (h.2 x hx)
theorem rest_eq {a : Int} {n : Nat} (hn : 0 < n) (hl : n ≤ 1000) : ∃ r : Nat, rickyardref01_Rest.f 400 a (n : Int) = some (r : Int) ∧ r < n := by
  unfold rickyardref01_Rest.f
  have h1 : (n : Int) ≠ 0 := by omega
  have h2 : -(n : Int) < Int.tmod a (n : Int) ∧ Int.tmod a (n : Int) < (n : Int) := by
    constructor
    · have := Int.lt_tmod_of_pos a (show (0 : Int) < (n : Int) by omega)
      exact this
    · exact Int.tmod_lt_of_pos a (by omega)
  have w : IntKind.i64.wrap (Int.tmod a (n : Int) + (n : Int)) = Int.tmod a (n : Int) + (n : Int) := w64 (by omega) (by omega)
  have h3 : 0 ≤ Int.tmod (Int.tmod a (n : Int) + (n : Int)) (n : Int) := Int.tmod_nonneg _ (by omega)
  have h4 : Int.tmod (Int.tmod a (n : Int) + (n : Int)) (n : Int) < (n : Int) := Int.tmod_lt_of_pos _ (by omega)
  rw [if_pos h1, if_pos h1, w]
  exact ⟨(Int.tmod (Int.tmod a (n : Int) + (n : Int)) (n : Int)).toNat, by rw [Int.toNat_of_nonneg h3], by omega⟩
theorem turn_there {b c : List Int} {f t : Int} (hb : Bytes b) (hf : f ∈ kidsB b) (ht : t ≠ 0) (hn : t ∉ kidsB b) (h : turnB b f t = some c) : Bytes c ∧ c.length = 64 ∧ kidsB c = (kidsB b).map (fun k => if k = f then t else k) ∧ turnB c t f = some b := by
  unfold kidsB at hf hn ⊢
  unfold turnB at h
  cases hc : celB b with
  | none => rw [hc] at hf; cases hf
  | some x =>
    rw [hc] at hf hn h
    obtain ⟨hok, hbs, hoc⟩ := cel_back hb hc
    obtain ⟨hf1, hf0⟩ := mem_nz.1 hf
    have hn1 : t ∉ x.names := fun e => hn (mem_nz.2 ⟨e, ht⟩)
    have h : (if (x.turn f t).ok then some (x.turn f t).octs else none) = some c := h
    by_cases ho : (x.turn f t).ok
    · rw [if_pos ho] at h
      cases h
      have hb2 := Cel.turn_base (f := f) (t := t) hbs
      obtain ⟨h1, h2⟩ := Cel.bytes ho hb2
      have hcel := cel_of ho hb2
      refine ⟨h1, h2, ?_, ?_⟩
      · rw [hcel]
        show (x.turn f t).names.filter nz = (x.names.filter nz).map _
        rw [Cel.names_turn hok]
        generalize x.names = l
        induction l with
        | nil => rfl
        | cons k l ih =>
          rw [List.map_cons, List.filter_cons, List.filter_cons, ih]
          by_cases e : k = 0
          · rw [e, sw0_zero]
            simp [nz]
          · have hnz : sw0 f t k ≠ 0 := by
              rw [sw0_of e]
              split
              · exact ht
              · exact e
            have e1 : nz (sw0 f t k) = true := by simp [nz, hnz]
            have e2 : nz k = true := by simp [nz, e]
            rw [e1, e2, if_pos rfl, if_pos rfl, List.map_cons, sw0_of e]
      · unfold turnB
        rw [hcel]
        show (if ((x.turn f t).turn t f).ok then some ((x.turn f t).turn t f).octs else none) = some b
        rw [Cel.turn_back hok hf0 ht hn1, if_pos hok, hoc]
    · rw [if_neg ho] at h
      cases h
theorem CellKids : ∀ (a0 : List Int), okv 9 (⟨.sl (.int .u8), a0⟩ : PV G.toSg) → ∀ (a1 : Int), okv 9 (⟨.int .i64, a1⟩ : PV G.toSg) → ∀ (a2 : Int), okv 9 (⟨.int .i64, a2⟩ : PV G.toSg) → ∃ fu, rickyardlaw14_CellKids.f fu a0 a1 a2 = some true := by
  intro b hok at' _ t _
  refine ⟨400, ?_⟩
  have hb := okv_bytes2 hok
  unfold rickyardlaw14_CellKids.f
  rw [awake14]
  by_cases h2 : (b.length : Int) > 200
  · rw [decide_eq_true h2]
    rfl
  · rw [decide_eq_false h2, rkids_eq hb, kids_eq hb (by omega)]
    simp only [Option.bind_some, Bool.not_true, Bool.false_eq_true, if_false]
    by_cases ht : t = 0
    · rw [decide_eq_true ht]
      rfl
    · rw [decide_eq_false ht]
      simp only [Bool.false_eq_true, if_false]
      have hkl : (kidsB b).length ≤ 20 := by
        unfold kidsB
        cases h : celB b with
        | none => simp
        | some x => exact Nat.le_trans (List.length_filter_le _ _) (names_len (cel_back hb h).2.1)
      by_cases h0 : ((kidsB b).length : Int) = 0
      · rw [decide_eq_true h0]
        rfl
      · rw [decide_eq_false h0]
        simp only [Bool.false_eq_true, if_false]
        generalize hl : kidsB b = l at *
        obtain ⟨r, hr, hrl⟩ := rest_eq (a := at') (n := l.length) (by omega) (by omega)
        rw [hr, Option.bind_some, if_pos (by omega), ix_nat hrl]
        have hs0 : ∀ j : Nat, j < l.length → rickyardlaw14_CellKids.s0 400 t l (j : Int) = some (if ix l (j : Int) ≠ t then .inr ((j + 1 : Nat) : Int) else .inl (.inl true)) := by
          intro j hj
          unfold rickyardlaw14_CellKids.s0
          have h1 : (j : Int) < (l.length : Int) := by omega
          have h2 : 0 ≤ (j : Int) := by omega
          have w3 : IntKind.i64.wrap ((j : Int) + 1) = ((j + 1 : Nat) : Int) := next64 hj (by omega)
          simp only [h1, h2, and_self, decide_true, if_true, w3]
          by_cases e : ix l (j : Int) = t <;> simp [e]
        by_cases hall : ∀ j, j < l.length → ix l (j : Int) ≠ t
        · have : loopM (rickyardlaw14_CellKids.s0 400 t l) 400 0 = some (.inr ()) := by
            refine loopM_run (S := fun j => (j : Int)) l.length rfl (fun j hj => by rw [hs0 j hj, if_pos (hall j hj)]) ?_ (by omega)
            unfold rickyardlaw14_CellKids.s0
            simp
          rw [this]
          simp only [Option.bind_some]
          have hn : t ∉ l := fun hx => by
            obtain ⟨j, hj, e⟩ := List.getElem_of_mem hx
            exact hall j hj (by rw [ix_nat hj]; exact e)
          rw [turn_eq hb (by omega), Option.bind_some]
          cases hT : turnB b l[r] t with
          | none => rfl
          | some c =>
            obtain ⟨hc1, hc2, hc3, hc4⟩ := turn_there hb (f := l[r]) (t := t) (by rw [hl]; exact List.getElem_mem hrl) ht (by rw [hl]; exact hn) hT
            simp only [tup, Bool.not_true, Bool.false_eq_true, if_false]
            rw [kids_eq hc1 (by omega), hc3, hl]
            simp only [Option.bind_some, List.length_map, decide_true, Bool.not_true, Bool.false_eq_true, if_false]
            have hs1 : ∀ j : Nat, j < l.length → rickyardlaw14_CellKids.s1 400 t l (r : Int) (l.map fun k => if k = l[r] then t else k) (j : Int) = some (.inr ((j + 1 : Nat) : Int)) := by
              intro j hj
              unfold rickyardlaw14_CellKids.s1
              have h1 : (j : Int) < (l.length : Int) := by omega
              have h2 : 0 ≤ (j : Int) := by omega
              have w3 : IntKind.i64.wrap ((j : Int) + 1) = ((j + 1 : Nat) : Int) := next64 hj (by omega)
              have hm : ix (l.map fun k => if k = l[r] then t else k) (j : Int) = if l[j] = l[r] then t else l[j] := by
                rw [ix_nat (by rw [List.length_map]; exact hj)]
                simp
              simp only [h1, h2, and_self, decide_true, if_true, w3, List.length_map, hm, ix_nat hj, ix_nat hrl]
              by_cases e : l[j] = l[r]
              · simp [e]
              · simp [e]
            have hL : loopM (rickyardlaw14_CellKids.s1 400 t l (r : Int) (l.map fun k => if k = l[r] then t else k)) 400 0 = some (.inr ()) := by
              refine loopM_run (S := fun j => (j : Int)) l.length rfl (fun j hj => hs1 j hj) ?_ (by omega)
              unfold rickyardlaw14_CellKids.s1
              simp
            rw [hL]
            simp only [Option.bind_some]
            rw [turn_eq hc1 (by omega), hc4]
            simp [tup]
        · have : loopM (rickyardlaw14_CellKids.s0 400 t l) 400 0 = some (.inl true) := by
            refine loopM_bad (S := fun j => (j : Int)) l.length (fun j => ix l (j : Int) ≠ t) rfl ?_ (fun j hj _ hg => by rw [hs0 j hj, if_pos hg]) (fun j hj _ hg => by rw [hs0 j hj, if_neg hg]) (by omega)
            apply Classical.byContradiction
            intro hx
            exact hall fun i hi => Classical.byContradiction fun hg => hx ⟨i, hi, hg⟩
          rw [this]
          rfl
end Go.Proofs.YtdifnahlheogdaaGreat.Pure
namespace Go.Proofs.YtdifnahlheogdaaGreat.cellKids
open Go.ChangeShapes Go.WideShapes Go.ChangeAt Go.RowKit
open Go.ChangeMaps (open_string shut_string)
open Go Go.Xw Go.Yw
theorem own : ownKnob Tryz.prog.godebug = none := Facts.own
theorem laidOut : laidOutB Tryz.prog = true := Facts.laid
theorem closed : joinedFacts Tryz.pinned.checked.prog 6 Tryz.f6 Rows.cellKidsSpec Rows.cellKidsRow = true := by
  unfold joinedFacts
  rw [Facts.enter, Facts.lifts, Facts.make, Facts.laid, Facts.rowed, Facts.plain, Facts.heard]
  kernel_rfl
def start : Input := ⟨#[], #[.slice none 0 0, .int .i64 0, .int .i64 0], []⟩
set_option maxRecDepth 100000 in
set_option maxHeartbeats 1000000 in
theorem lifted (os : Os) (started : os.Started) (H : Type) (enc : TypeId × Value → H) :
    ReturnsInHanded {} Tryz.checked os 6 .any (Rows.cellKidsSpec.pre6 enc Tryz.prog Tryz.f6 Rows.cellKidsRow.domain false) (Rows.cellKidsSpec.post enc Tryz.prog Tryz.f6 false true false false) := by
  refine returnsInHanded_of_change_sized (C := Tryz.checked) own started (by kernel_rfl) Tryz.func6
    (ChangeSpec.witness6 (enc := enc) (C := Tryz.checked) false start 8 (by kernel_rfl) (by kernel_rfl) (by kernel_rfl) (by kernel_rfl)) ?_
  intro W base args ds gs before hval0 hW hcnd hsz0 _
  have hval : ∀ (j : Nat) t v, Tryz.f6.params[j]? = some t → args[j]? = some v → Value.okWide Tryz.prog W .any base t v := hval0
  have hW' := hW
  obtain ⟨p, q, hA0, hV, rfl, hfz, hnd⟩ := hW
  have hA : DataW.TrodAll enc Tryz.prog W 0 (fun _ => true) true Tryz.f6.params.toList args.toList ds p := hA0
  rw [Tryz.params6] at hA hval
  obtain ⟨v0, vs0, d0, ds0, p0, q0, hargs, rfl, rfl, h0, r0⟩ := trodAll_cons hA
  obtain ⟨v1, vs1, d1, ds1, p1, q1, rfl, rfl, rfl, h1, r1⟩ := trodAll_cons r0
  obtain ⟨v2, vs2, d2, ds2, p2, q2, rfl, rfl, rfl, h2, r2⟩ := trodAll_cons r1
  obtain ⟨rfl, rfl, rfl⟩ := trodAll_nil r2
  obtain rfl : args = #[v0, v1, v2] := by cases args; simp_all
  obtain ⟨rfl, rfl⟩ := trodVars_none hV
  have k0 := h0
  have lt0 : ∀ x ∈ p0, x.block < W.heap.size := by obtain ⟨m, hm⟩ := k0; exact DataW.trod_lt m _ _ _ hm
  obtain ⟨fu0, hf0⟩ := h0
  obtain ⟨a0, c0, o0⟩ := open_ok (Γ := G) gok full0 9 22 (.sl (.int .u8)) (by kernel_rfl) enc _ _ _ _ _ _ hf0
  have w0 : VR (Γ := G) (fun _ => none) W (Low W) (.v (.sl (.int .u8)) a0) v0 := arg_ok (P := Tryz.prog) (base := base) (n := 8) gok c0 (hval 0 22 v0 rfl rfl) (by kernel_rfl)
  have k1 := h1
  have lt1 : ∀ x ∈ p1, x.block < W.heap.size := by obtain ⟨m, hm⟩ := k1; exact DataW.trod_lt m _ _ _ hm
  obtain ⟨fu1, hf1⟩ := h1
  obtain ⟨a1, c1, o1⟩ := open_ok (Γ := G) gok full0 9 3 (.int .i64) (by kernel_rfl) enc _ _ _ _ _ _ hf1
  have w1 : VR (Γ := G) (fun _ => none) W (Low W) (.v (.int .i64) a1) v1 := arg_ok (P := Tryz.prog) (base := base) (n := 8) gok c1 (hval 1 3 v1 rfl rfl) (by kernel_rfl)
  obtain ⟨b1, rfl, rfl, rfl, y1⟩ := open_int Tryz.underlying3 (hval 1 3 v1 rfl rfl) k1
  have k2 := h2
  have lt2 : ∀ x ∈ p2, x.block < W.heap.size := by obtain ⟨m, hm⟩ := k2; exact DataW.trod_lt m _ _ _ hm
  obtain ⟨fu2, hf2⟩ := h2
  obtain ⟨a2, c2, o2⟩ := open_ok (Γ := G) gok full0 9 3 (.int .i64) (by kernel_rfl) enc _ _ _ _ _ _ hf2
  have w2 : VR (Γ := G) (fun _ => none) W (Low W) (.v (.int .i64) a2) v2 := arg_ok (P := Tryz.prog) (base := base) (n := 8) gok c2 (hval 2 3 v2 rfl rfl) (by kernel_rfl)
  obtain ⟨b2, rfl, rfl, rfl, y2⟩ := open_int Tryz.underlying3 (hval 2 3 v2 rfl rfl) k2
  obtain ⟨fu, hfu⟩ := Pure.CellKids a0 o0 a1 o1 a2 o2
  refine Calls.mono (law_ok (rickyardlaw14_CellKids.sc fu a0 a1 a2 true hfu) (.cons w0 (.cons w1 (.cons w2 .nil))) (by intro g p h; cases h)) fun e W' hr => ?_
  obtain ⟨v, rfl, rfl, gr⟩ := hr
  have bel := Fr.below gr
  exact ⟨_, rfl, _, _, _, [], _, [], hW', trodAll_mk1 (shut_bool Tryz.underlying4 _), (trodAll_cons_mk (Below.trod laidOut (by kernel_rfl) (of_decide_eq_true (by kernel_rfl)) k0 bel lt0) (trodAll_cons_mk (shut_int Tryz.underlying3 y1) (trodAll_cons_mk (shut_int Tryz.underlying3 y2) trodAll_mk0))), rfl, bel.frame _, fun h => by cases h⟩
theorem over : Rows.cellKidsRow.holds Tryz.pinned (OpenSpec.ofChange Rows.cellKidsSpec) :=
  OpenClaim.holds_of_wide 6 Tryz.f6 rfl rfl rfl rfl rfl rfl rfl ⟨rfl, rfl, rfl, rfl, rfl⟩ rfl rfl rfl rfl rfl (by kernel_rfl) Tryz.func6 closed
    (of_decide_eq_true (by kernel_rfl)) (by unfold Func.isWrapper; first | (rw [if_pos (by decide +kernel)]; kernel_rfl) | (rw [if_neg (by decide +kernel)]; exact ⟨rfl, rfl⟩))
    (fun os started H enc _ => lifted os started H enc)
end Go.Proofs.YtdifnahlheogdaaGreat.cellKids
namespace Go.Proofs.YtdifnahlheogdaaGreat
theorem cellKids_holds : Rows.CellKidsSaid := cellKids.over
#print axioms cellKids_holds
end Go.Proofs.YtdifnahlheogdaaGreat
