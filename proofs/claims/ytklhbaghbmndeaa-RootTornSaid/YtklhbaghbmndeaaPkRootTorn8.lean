/- RootTorn: texts merged, part 8 of 8. The last part proves that the law RootTorn holds for every input. -/
import Derived.Test.YtklhbaghbmndeaaPkRootTorn7
set_option maxRecDepth 100000
set_option maxHeartbeats 4000000
set_option linter.unusedVariables false
set_option linter.unusedSimpArgs false
namespace Go.Proofs.Ytklhbaghbmndeaa.Pure
open Go Go.Xw
theorem word_len (d : Dev) (p i w : Int) : (wordD d p i w).2.cells.length = d.cells.length := by
  unfold wordD
  split
  · exact send_len _ _ _ _
  · rfl
theorem andT_len {r : Int × Dev} {f : Dev → Int × Dev} {n : Nat} (h : r.2.cells.length = n) (hf : ∀ d : Dev, d.cells.length = n → (f d).2.cells.length = n) : (andT r f).2.cells.length = n := by
  unfold andT
  split
  · exact hf _ h
  · exact h
theorem head_len (d : Dev) (p w : Int) : (headD p w d).2.cells.length = d.cells.length := andT_len (word_len _ _ _ _) fun e he => by rw [fence_len]; exact he
theorem tail_len (d : Dev) (p : Int) (ws : List Int) : (tailD p ws d).2.cells.length = d.cells.length := andT_len (andT_len (put_len _ _ _) fun e he => by rw [flush_len]; exact he) fun e he => by rw [fence_len]; exact he
def Keeps (R : Cell → Prop) (i : Nat) (f : Dev → Int × Dev) : Prop := ∀ d : Dev, i < d.cells.length → R (cellA d i) → R (cellA (f d).2 i) ∧ i < (f d).2.cells.length
theorem keeps_and {R : Cell → Prop} {i : Nat} {f g : Dev → Int × Dev} (hf : Keeps R i f) (hg : Keeps R i g) : Keeps R i (fun d => andT (f d) g) := by
  intro d hi h
  have h1 := hf d hi h
  show R (cellA (andT (f d) g).2 i) ∧ i < (andT (f d) g).2.cells.length
  unfold andT
  split
  · exact hg _ h1.2 h1.1
  · exact h1
theorem keeps_fence (Φ : Int → Prop) (i : Nat) : Keeps (CellP Φ) i fenceD := fun d hi h => ⟨cell_fence hi h, by rw [fence_len]; exact hi⟩
theorem keeps_flush (Φ : Int → Prop) (i : Nat) (p : Int) : Keeps (CellP Φ) i (fun d => flushD d p) := fun d hi h => ⟨cell_flush hi h, by rw [flush_len]; exact hi⟩
theorem keeps_word {Φ : Int → Prop} {i : Nat} {p k w : Int} (hw : 0 ≤ k → k < 8 → 8 * p + k = (i : Int) → Φ w) : Keeps (CellP Φ) i (fun d => wordD d p k w) := fun d hi h => ⟨cell_word hi h hw, by rw [word_len]; exact hi⟩
theorem keeps_put {Φ : Int → Prop} {i : Nat} {k : Int} {ws : List Int} (hw : ∀ j : Nat, j < ws.length → k + (j : Int) = (i : Int) → Φ (ix ws (j : Int))) : Keeps (CellP Φ) i (fun d => putAll d k ws) := fun d hi h => ⟨cell_put hi h hw, by rw [put_len]; exact hi⟩
theorem keeps_head {Φ : Int → Prop} {i : Nat} {p w : Int} (hw : 8 * p = (i : Int) → Φ w) : Keeps (CellP Φ) i (headD p w) := keeps_and (keeps_word fun _ _ e => hw (by omega)) (keeps_fence Φ i)
theorem drop1 {ws : List Int} {j : Nat} (hj : j < (ws.drop 1).length) : ix (ws.drop 1) (j : Int) = ix ws ((j + 1 : Nat) : Int) := by
  rw [ix_nat hj, ix_nat (by rw [List.length_drop] at hj; omega), List.getElem_drop]
  congr 1
  omega
theorem keeps_tail {Φ : Int → Prop} {i : Nat} {p : Int} {ws : List Int} (hw : ∀ j : Nat, 1 ≤ j → j < ws.length → 8 * p + (j : Int) = (i : Int) → Φ (ix ws (j : Int))) : Keeps (CellP Φ) i (tailD p ws) :=
  keeps_and (keeps_and (keeps_put fun j hj e => by
    rw [drop1 hj]
    rw [List.length_drop] at hj
    exact hw (j + 1) (by omega) (by omega) (by omega)) (keeps_flush Φ i p)) (keeps_fence Φ i)
theorem keeps_lay {Φ : Int → Prop} {i : Nat} {p : Int} {ws : List Int} (hl : ws.length = 8) (hi : ¬ (8 * p ≤ (i : Int) ∧ (i : Int) < 8 * p + 8)) : Keeps (CellP Φ) i (layW p ws) :=
  keeps_and (keeps_and (keeps_head fun e => by exfalso; omega) (keeps_tail fun j h1 h2 e => by exfalso; omega)) (keeps_head fun e => by exfalso; omega)
theorem andT_zero {r : Int × Dev} {f : Dev → Int × Dev} (h : (andT r f).1 = 0) : r.1 = 0 ∧ (f r.2).1 = 0 ∧ (andT r f).2 = (f r.2).2 := by
  unfold andT at h ⊢
  by_cases e : r.1 = 0
  · rw [if_pos e] at h
    rw [if_pos e]
    exact ⟨e, h, rfl⟩
  · rw [if_neg e] at h
    exact absurd h e
theorem wordZ {d : Dev} {p i w : Int} (h : (wordD d p i w).1 = 0) : inL d p ∧ (0 ≤ i ∧ i < 8) ∧ (sendD d p i [w]).1 = 0 ∧ wordD d p i w = sendD d p i [w] := by
  unfold wordD at h ⊢
  by_cases e : inL d p ∧ 0 ≤ i ∧ i < 8
  · rw [if_pos e] at h
    exact ⟨e.1, e.2, h, if_pos e⟩
  · rw [if_neg e] at h
    exact absurd (show (2 : Int) = 0 from h) (by decide)
theorem head_done {d : Dev} {p : Nat} {w : Int} (hl : 8 * p + 8 ≤ d.cells.length) (h : (headD (p : Int) w d).1 = 0) : CellP (fun x => x = w) (cellA (headD (p : Int) w d).2 (8 * p)) := by
  obtain ⟨h1, h2, h3⟩ := andT_zero h
  obtain ⟨_, _, h4, h5⟩ := wordZ h1
  have h6 := send_st2 (first := 0) (ws := [w]) h4 (by simp) hl 0 (by simp)
  have e : ix [w] ((0 : Nat) : Int) = w := rfl
  rw [e] at h6
  rw [show headD (p : Int) w d = andT (wordD d (p : Int) 0 w) fenceD from rfl, h3]
  rw [h5] at h2 ⊢
  exact st2_fence (by rw [send_len]; omega) h6 (fence_zero h2)
theorem tail_done {d : Dev} {p : Nat} {ws : List Int} (hw : ws.length = 8) (hl : 8 * p + 8 ≤ d.cells.length) (h : (tailD (p : Int) ws d).1 = 0) (j : Nat) (h1j : 1 ≤ j) (hj : j < 8) : CellP (fun x => x = ix ws (j : Int)) (cellA (tailD (p : Int) ws d).2 (8 * p + j)) := by
  obtain ⟨h1, h2, h3⟩ := andT_zero h
  obtain ⟨h4, h5, h6⟩ := andT_zero h1
  obtain ⟨ho, _, hl2⟩ := flush_zero h5
  have hlen : (ws.drop 1).length = 7 := by rw [List.length_drop, hw]
  have ek : 8 * (p : Int) + 1 = ((8 * p + 1 : Nat) : Int) := by omega
  have hs := put_st1 (ws := ws.drop 1) (d := d) (k := 8 * p + 1) (by rw [← ek]; exact h4) (j - 1) (by omega)
  rw [← ek, drop1 (by omega), show j - 1 + 1 = j from by omega, show 8 * p + 1 + (j - 1) = 8 * p + j from by omega] at hs
  have hs2 := st1_flush (k := (p : Int)) (by rw [put_len]; omega) hs ho (by omega) hl2 (by omega)
  rw [show tailD (p : Int) ws d = andT (andT (putAll d (8 * (p : Int) + 1) (ws.drop 1)) fun d => flushD d (p : Int)) fenceD from rfl, h3]
  rw [h6] at h2 ⊢
  exact st2_fence (by rw [flush_len, put_len]; omega) hs2 (fence_zero h2)
theorem lay_cases {d : Dev} {p : Nat} {ws av : List Int} (hw : ws.length = 8) (hl : 8 * p + 8 ≤ d.cells.length) (ha : ∀ i : Nat, i < 8 → CellP (fun x => x = ix av (i : Int)) (cellA d (8 * p + i))) :
    ((layW (p : Int) ws d).1 = 0 → ∀ i : Nat, i < 8 → CellP (fun x => x = ix ws (i : Int)) (cellA (layW (p : Int) ws d).2 (8 * p + i))) ∧
    ((CellP (fun x => x = ix av 0 ∨ x = 0) (cellA (layW (p : Int) ws d).2 (8 * p)) ∧ ∀ i : Nat, 1 ≤ i → i < 8 → CellP (fun x => x = ix av (i : Int)) (cellA (layW (p : Int) ws d).2 (8 * p + i))) ∨
     CellP (fun x => x = 0) (cellA (layW (p : Int) ws d).2 (8 * p)) ∨
     (CellP (fun x => x = 0 ∨ x = ix ws 0) (cellA (layW (p : Int) ws d).2 (8 * p)) ∧ ∀ i : Nat, 1 ≤ i → i < 8 → CellP (fun x => x = ix ws (i : Int)) (cellA (layW (p : Int) ws d).2 (8 * p + i)))) := by
  have a0 := ha 0 (by decide)
  rw [show 8 * p + 0 = 8 * p from rfl, show (((0 : Nat) : Int)) = 0 from rfl] at a0
  -- the first word is made nought
  have H1 : CellP (fun x => x = ix av 0 ∨ x = 0) (cellA (headD (p : Int) 0 d).2 (8 * p)) := (keeps_head (fun _ => .inr rfl) d (by omega) (a0.mono fun x h => .inl h)).1
  have H1' : ∀ i : Nat, 1 ≤ i → i < 8 → CellP (fun x => x = ix av (i : Int)) (cellA (headD (p : Int) 0 d).2 (8 * p + i)) := fun i h1 h2 => (keeps_head (fun e => by exfalso; omega) d (by omega) (ha i h2)).1
  by_cases e1 : (headD (p : Int) 0 d).1 = 0
  rotate_left
  · have el : layW (p : Int) ws d = headD (p : Int) 0 d := by
      unfold layW andT
      simp only [e1, if_false]
    rw [el]
    exact ⟨fun h => absurd h e1, .inl ⟨H1, H1'⟩⟩
  have Z1 := head_done hl e1
  have l1 := head_len d (p : Int) 0
  generalize hE1 : (headD (p : Int) 0 d).2 = E1 at *
  have H2 : CellP (fun x => x = 0) (cellA (tailD (p : Int) ws E1).2 (8 * p)) := (keeps_tail (fun j h1 h2 e => by exfalso; omega) E1 (by omega) Z1).1
  by_cases e2 : (tailD (p : Int) ws E1).1 = 0
  rotate_left
  · have el : layW (p : Int) ws d = tailD (p : Int) ws E1 := by
      unfold layW andT
      simp only [e1, if_true, hE1, e2, if_false]
    rw [el]
    exact ⟨fun h => absurd h e2, .inr (.inl H2)⟩
  have Z2 := tail_done hw (by omega) e2
  have l2 := tail_len E1 (p : Int) ws
  have el : layW (p : Int) ws d = headD (p : Int) (ix ws 0) (tailD (p : Int) ws E1).2 := by
    unfold layW andT
    simp only [e1, if_true, hE1, e2]
  rw [el]
  generalize hE2 : (tailD (p : Int) ws E1).2 = E2 at *
  have H3 : CellP (fun x => x = 0 ∨ x = ix ws 0) (cellA (headD (p : Int) (ix ws 0) E2).2 (8 * p)) := (keeps_head (fun _ => .inr rfl) E2 (by omega) (H2.mono fun x h => .inl h)).1
  have H3' : ∀ i : Nat, 1 ≤ i → i < 8 → CellP (fun x => x = ix ws (i : Int)) (cellA (headD (p : Int) (ix ws 0) E2).2 (8 * p + i)) := fun i h1 h2 => (keeps_head (fun e => by exfalso; omega) E2 (by omega) (Z2 i h1 h2)).1
  refine ⟨fun h i hi => ?_, .inr (.inr ⟨H3, H3'⟩)⟩
  by_cases h0 : i = 0
  · subst h0
    have := head_done (d := E2) (p := p) (w := ix ws 0) (by omega) h
    exact this
  · exact H3' i (by omega) hi
theorem arm_head {d : Dev} {p w : Int} {r : Nat} (h : Arm d r) (hp : inL d p) : (3 ≤ r → (headD p w d).1 = 0 ∧ Arm (headD p w d).2 (r - 3)) ∧ (r < 3 → (headD p w d).1 ≠ 0) := by
  have hin := hp
  unfold inL at hin
  have hwd : wordD d p 0 w = sendD d p 0 [w] := by
    unfold wordD
    rw [if_pos ⟨hp, by decide, by decide⟩]
  have h1 := arm_put (ws := [w]) (k := 8 * p + 0) h (by omega) (by simp only [List.length_cons, List.length_nil]; omega)
  unfold headD andT
  rw [hwd]
  unfold sendD
  simp only [List.length_cons, List.length_nil] at h1
  constructor
  · intro hr
    obtain ⟨a1, a2⟩ := h1.1 (by omega)
    have hf := (arm_flush (k := p) a2 hin.1 (by rw [put_len]; exact hin.2)).1 (by omega)
    have hg := (arm_fence hf.2).1 (by omega)
    simp only [a1, if_true, hf.1]
    rw [show r - (0 + 1) - 1 - 1 = r - 3 from by omega] at hg
    exact hg
  · intro hr
    by_cases hr0 : r = 0
    · obtain ⟨a1, a2⟩ := h1.2 (by omega)
      simp only [a1, show ¬ ((3 : Int) = 0) from by decide, if_false]
      decide
    · obtain ⟨a1, a2⟩ := h1.1 (by omega)
      have hf := arm_flush (k := p) a2 hin.1 (by rw [put_len]; exact hin.2)
      simp only [a1, if_true]
      by_cases hr1 : r = 1
      · have := (hf.2 (by omega)).1
        simp only [this, show ¬ ((3 : Int) = 0) from by decide, if_false]
        decide
      · have hg := hf.1 (by omega)
        have hk := (arm_fence hg.2).2 (by omega)
        simp only [hg.1, if_true, hk.1]
        decide
theorem arm_tail {d : Dev} {p : Int} {ws : List Int} {r : Nat} (hw : ws.length = 8) (h : Arm d r) (hp : inL d p) : (9 ≤ r → (tailD p ws d).1 = 0 ∧ Arm (tailD p ws d).2 (r - 9)) ∧ (r < 9 → (tailD p ws d).1 ≠ 0) := by
  have hin := hp
  unfold inL at hin
  have hlen : (ws.drop 1).length = 7 := by rw [List.length_drop, hw]
  have h1 := arm_put (ws := ws.drop 1) (k := 8 * p + 1) h (by omega) (by rw [hlen]; omega)
  rw [hlen] at h1
  unfold tailD andT
  constructor
  · intro hr
    obtain ⟨a1, a2⟩ := h1.1 (by omega)
    have hf := (arm_flush (k := p) a2 hin.1 (by rw [put_len]; exact hin.2)).1 (by omega)
    have hg := (arm_fence hf.2).1 (by omega)
    simp only [a1, if_true, hf.1]
    rw [show r - 7 - 1 - 1 = r - 9 from by omega] at hg
    exact hg
  · intro hr
    by_cases hr0 : r < 7
    · obtain ⟨a1, a2⟩ := h1.2 hr0
      simp only [a1, show ¬ ((3 : Int) = 0) from by decide, if_false]
      decide
    · obtain ⟨a1, a2⟩ := h1.1 (by omega)
      have hf := arm_flush (k := p) a2 hin.1 (by rw [put_len]; exact hin.2)
      simp only [a1, if_true]
      by_cases hr1 : r = 7
      · have := (hf.2 (by omega)).1
        simp only [this, show ¬ ((3 : Int) = 0) from by decide, if_false]
        decide
      · have hg := hf.1 (by omega)
        have hk := (arm_fence hg.2).2 (by omega)
        simp only [hg.1, if_true, hk.1]
        decide
theorem inL_of {d e : Dev} {p : Int} (h : inL d p) (hl : e.cells.length = d.cells.length) : inL e p := by
  unfold inL at h ⊢
  rw [hl]
  exact h
theorem arm_lay {d : Dev} {p : Int} {ws : List Int} {r : Nat} (hw : ws.length = 8) (h : Arm d r) (hp : inL d p) : (layW p ws d).1 = 0 ↔ 15 ≤ r := by
  have h1 := arm_head (w := 0) h hp
  by_cases h3 : 3 ≤ r
  rotate_left
  · have := h1.2 (by omega)
    have el : layW p ws d = headD p 0 d := by
      unfold layW andT
      simp only [this, if_false]
    rw [el]
    exact ⟨fun q => absurd q this, fun q => by omega⟩
  obtain ⟨a1, a2⟩ := h1.1 h3
  have h2 := arm_tail hw a2 (inL_of hp (head_len _ _ _))
  by_cases h12 : 12 ≤ r
  rotate_left
  · have := h2.2 (by omega)
    have el : layW p ws d = tailD p ws (headD p 0 d).2 := by
      unfold layW andT
      simp only [a1, if_true, this, if_false]
    rw [el]
    exact ⟨fun q => absurd q this, fun q => by omega⟩
  obtain ⟨b1, b2⟩ := h2.1 (by omega)
  have h4 := arm_head (w := ix ws 0) b2 (inL_of hp (by rw [tail_len, head_len]))
  have el : layW p ws d = headD p (ix ws 0) (tailD p ws (headD p 0 d).2).2 := by
    unfold layW andT
    simp only [a1, if_true, b1]
  rw [el]
  by_cases h15 : 15 ≤ r
  · exact ⟨fun _ => h15, fun _ => (h4.1 (by omega)).1⟩
  · exact ⟨fun q => absurd q (h4.2 (by omega)), fun q => absurd q h15⟩
theorem getS_nought {C : List Int} (h : C.length = 8) (h0 : ix C 0 = 0) : (getS (octs C)).2 = false := by
  unfold getS
  rw [if_neg]
  rintro ⟨_, h7, _⟩
  have : ix (octs C) 4 = 0 := by
    obtain ⟨c, t, rfl⟩ : ∃ c t, C = c :: t := by
      cases C with
      | nil => simp at h
      | cons c t => exact ⟨c, t, rfl⟩
    have hc : c = 0 := by simpa [ix] using h0
    subst hc
    have e : octs (0 :: t) = lay 0 8 ++ octs t := by simp [octs]
    rw [e, show (4 : Int) = ((4 : Nat) : Int) from rfl, ix_nat (by rw [List.length_append, lay_len]; omega), List.getElem_append_left (by rw [lay_len]; decide)]
    simp [lay]
  rw [this] at h7
  exact absurd h7 (by decide)
theorem getS_block {s : S_api_Super} (h : SupOk s) : getS (blockS s) = (s, true) := by
  obtain ⟨g1, g2⟩ := sup_get h
  unfold getS blockS
  rw [if_pos g1, g2]
theorem fromD_cell {l : List Int} (hb : Bytes l) {i : Nat} (hi : i < 8 * (l.length / 64)) : CellP (fun x => x = ix (wordsU l (8 * (l.length / 64))) (i : Int)) (cellA (fromD l) i) := by
  have hl : (wordsU l (8 * (l.length / 64))).length = 8 * (l.length / 64) := wordsU_len _ _
  have : cellA (fromD l) i = wordC (ix (wordsU l (8 * (l.length / 64))) (i : Int)) := by
    unfold cellA fromD
    rw [ix_nat (by rw [List.length_map]; omega), List.getElem_map, ix_nat (by omega)]
  rw [this]
  exact ⟨rfl, rfl, fun e => (by cases e)⟩
def lineW (l : List Int) (p : Nat) : List Int := (List.range 8).map fun (i : Nat) => ix (wordsU l (8 * (l.length / 64))) ((8 * p + i : Nat) : Int)
theorem lineW_len (l : List Int) (p : Nat) : (lineW l p).length = 8 := by simp [lineW]
theorem lineW_ix (l : List Int) (p i : Nat) (hi : i < 8) : ix (lineW l p) (i : Int) = ix (wordsU l (8 * (l.length / 64))) ((8 * p + i : Nat) : Int) := by
  rw [ix_nat (by rw [lineW_len]; exact hi)]
  simp [lineW]
theorem octs_lineW {l : List Int} (hb : Bytes l) {p : Nat} (hp : 64 * p + 64 ≤ l.length) : octs (lineW l p) = cut l ((64 * p : Nat) : Int) ((64 * p + 64 : Nat) : Int) := by
  have hwl : (wordsU l (8 * (l.length / 64))).length = 8 * (l.length / 64) := wordsU_len _ _
  have e : lineW l p = cut (wordsU l (8 * (l.length / 64))) ((8 * p : Nat) : Int) ((8 * p + 8 : Nat) : Int) := by
    apply List.ext_getElem
    · rw [lineW_len, cut_len' (by omega)]
      omega
    · intro i h1 h2
      have hi : i < 8 := by rw [lineW_len] at h1; exact h1
      rw [cut_get h2 (by omega), ← ix_nat h1, lineW_ix l p i hi, ix_nat (by omega)]
  have e1 : 8 * (8 * p) = 64 * p := by omega
  have e2 : 8 * (8 * p + 8) = 64 * p + 64 := by omega
  rw [e, ← octs_cut, octs_words hb _ (by omega), e1, e2]
  unfold cut
  rw [Int.toNat_natCast, Int.toNat_natCast, List.take_take, Nat.min_eq_left (by omega)]
theorem atS_line {l : List Int} (hb : Bytes l) {p : Nat} (hp2 : p < 2) (hp : 64 * p + 64 ≤ l.length) : atS l (p : Int) = getS (octs (lineW l p)) := by
  unfold atS
  rw [if_pos ⟨by omega, by omega⟩, octs_lineW hb hp]
  congr 2 <;> omega
theorem readS_line {d : Dev} {p : Nat} (hp : p < 2) (hl : 8 * p + 8 ≤ d.cells.length) (ho : d.off = false) : readS d (p : Int) = getS (octs (lineC d (p : Int))) := by
  unfold readS
  rw [if_pos ⟨by omega, ⟨by omega, by omega⟩, ho⟩]
theorem cut_small {fu : Nat} (c : S_rickyardlaw16_Cut) : rickyardlaw16_Cut_small.f fu c = some (decide (c.Plan.length ≤ 40 ∧ c.L.length ≤ 40)) := by
  unfold rickyardlaw16_Cut_small.f
  by_cases h1 : c.Plan.length ≤ 40
  · rw [decide_eq_true (show (c.Plan.length : Int) ≤ 40 by omega), if_pos rfl]
    by_cases h2 : c.L.length ≤ 40
    · rw [decide_eq_true (show (c.L.length : Int) ≤ 40 by omega), decide_eq_true ⟨h1, h2⟩]
    · rw [decide_eq_false (show ¬ (c.L.length : Int) ≤ 40 by omega), decide_eq_false (fun q => h2 q.2)]
  · rw [decide_eq_false (show ¬ (c.Plan.length : Int) ≤ 40 by omega), if_neg (by decide), decide_eq_false (fun q => h1 q.1)]
def cutD (l pl : List Int) (k : Nat) : Dev := armD (planD (fromD l) pl) (k : Int)
theorem cutD_ok {l pl : List Int} {k : Nat} (hb : Bytes l) (hp : pl.length ≤ 40) (hk : k ≤ 1000) : DevOk (8 * (l.length / 64)) 0 (cutD l pl k) ∧ Arm (cutD l pl k) k ∧ (cutD l pl k).cells = (fromD l).cells := by
  have h1 : DevOk (8 * (l.length / 64)) 0 (planD (fromD l) pl) := plan_ok (from_ok hb) (by omega)
  refine ⟨arm_ok h1 (by unfold I64; omega), ?_, ?_⟩
  · unfold cutD armD
    rw [if_neg (show ¬ (planD (fromD l) pl).off = true by intro q; cases q)]
    refine ⟨show decide ((k : Int) ≥ 0) = true from decide_eq_true (by omega), rfl, ?_⟩
    show decide ((k : Int) = 0) = decide (k = 0)
    by_cases e : k = 0
    · rw [decide_eq_true e, decide_eq_true (by omega)]
    · rw [decide_eq_false e, decide_eq_false (by omega)]
  · unfold cutD armD
    split <;> rfl
theorem cutD_form {l pl : List Int} {k : Nat} : (⟨(planD (fromD l) pl).cells, (⟨(planD (fromD l) pl).plan.list, (armD (planD (fromD l) pl) (k : Int)).plan.at_⟩ : S_pmem_plan), (armD (planD (fromD l) pl) (k : Int)).off, (armD (planD (fromD l) pl) (k : Int)).armed, (armD (planD (fromD l) pl) (k : Int)).left, (armD (planD (fromD l) pl) (k : Int)).steps⟩ : S_pmem_Device) = cutD l pl k := by
  unfold cutD armD
  split <;> rfl
theorem cutD_cell {l pl : List Int} {k : Nat} (hb : Bytes l) (hp : pl.length ≤ 40) (hk : k ≤ 1000) {p i : Nat} (hpl : 64 * p + 64 ≤ l.length) (hi : i < 8) : CellP (fun x => x = ix (lineW l p) (i : Int)) (cellA (cutD l pl k) (8 * p + i)) := by
  have := fromD_cell hb (i := 8 * p + i) (by omega)
  rw [lineW_ix l p i hi]
  unfold cellA at this ⊢
  rw [(cutD_ok hb hp hk).2.2]
  exact this
theorem awake16 : rickyardlaw16_awake.f FU = some true := by decide +kernel
theorem lineC_ix {d : Dev} {p i : Nat} (hi : i < 8) : ix (lineC d (p : Int)) (i : Int) = (cellA d (8 * p + i)).stored := by
  rw [ix_nat (by simp [lineC]; exact hi)]
  simp only [lineC, List.getElem_map, List.getElem_range]
  rw [show 8 * (p : Int) + (i : Int) = ((8 * p + i : Nat) : Int) from by omega]
  rfl
theorem RootTorn : ∀ (a0 : Arr 128 Int) (a1 : S_api_Super) (a2 : S_rickyardlaw16_Cut), (∀ x ∈ a0.l, (Lit.int .u8 x).wf = true) → ok_api_Super a1 → ok_rickyardlaw16_Cut a2 → ∃ fu, rickyardlaw16_RootTorn.f fu a0 a1 a2 = some true := by
  intro im s c him hs hc
  refine ⟨FU, ?_⟩
  unfold rickyardlaw16_RootTorn.f
  rw [awake16, cut_small, Option.bind_some, if_neg (show ¬ (!true) = true by decide), Option.bind_some]
  by_cases hS : c.Plan.length ≤ 40 ∧ c.L.length ≤ 40
  rotate_left
  · rw [decide_eq_false hS]
    rfl
  rw [decide_eq_true hS, if_neg (show ¬ (!true) = true by decide)]
  by_cases h60 : (s.Charts.length : Int) > 60
  · rw [decide_eq_true h60]
    rfl
  rw [decide_eq_false h60, if_neg (show ¬ false = true by decide), rsuperRight_eq (by decide), Option.bind_some]
  by_cases hR : SupOk s
  rotate_left
  · rw [decide_eq_false hR]
    rfl
  rw [decide_eq_true hR, Option.bind_some, if_neg (show ¬ (!true) = true by decide)]
  have hb : Bytes im.l := fun x hx => wf8.1 (him x hx)
  have hl : im.l.length = 128 := im.h
  generalize im.l = l at *
  have hf : pmem_From.f FU l = some (fromD l) := from_eq hb (by omega) (by show _ < 200000; omega)
  have h8 := wf8.1 hc.1
  obtain ⟨p, hp⟩ : ∃ p : Nat, Int.tmod (IntKind.i64.wrap c.Steps) 2 = (p : Int) := ⟨(c.Steps % 2).toNat, by
    rw [w64 (by omega) (by omega), Int.tmod_eq_emod_of_nonneg h8.1]
    omega⟩
  have hp2 : p < 2 := by
    rw [w64 (by omega) (by omega), Int.tmod_eq_emod_of_nonneg h8.1] at hp
    omega
  obtain ⟨k, hk⟩ : ∃ k : Nat, Int.tmod (IntKind.i64.wrap (Int.tdiv (IntKind.i64.wrap c.Steps) 2)) 20 = (k : Int) := ⟨(c.Steps / 2 % 20).toNat, by
    rw [w64 (n := c.Steps) (by omega) (by omega), Int.tdiv_eq_ediv_of_nonneg h8.1, w64 (by omega) (by omega), Int.tmod_eq_emod_of_nonneg (by omega)]
    omega⟩
  have hk20 : k < 20 := by
    rw [w64 (n := c.Steps) (by omega) (by omega), Int.tdiv_eq_ediv_of_nonneg h8.1, w64 (by omega) (by omega), Int.tmod_eq_emod_of_nonneg (by omega)] at hk
    omega
  rw [hf, Option.bind_some, plan_eq (by omega), Option.bind_some, hk, arm_eq, Option.bind_some, hp, cutD_form]
  obtain ⟨hdk, hA, hcs⟩ := cutD_ok (k := k) hb hS.1 (by omega)
  have hcell := fun (p i : Nat) hpl hi => cutD_cell (k := k) (p := p) (i := i) hb hS.1 (by omega) hpl hi
  generalize hD : cutD l c.Plan k = D at *
  have hlen := hdk.len
  have h16 : 8 * (l.length / 64) = 16 := by omega
  rw [h16] at hdk hlen
  have hle : root_Lay.f FU D (p : Int) s = some (layD (p : Int) s D) := lay_dev hdk (by decide) (by decide) (by decide)
  have hdl := layD_ok (p := (p : Int)) (s := s) hdk
  have el : layD (p : Int) s D = layW (p : Int) (wordsU (blockS s) 8) D := if_neg (fun q => by
    rcases q with q | q | q
    · omega
    · exact q hR
    · omega)
  obtain ⟨b1, b2⟩ := blockS_words hR
  have hwl : (wordsU (blockS s) 8).length = 8 := wordsU_len _ _
  have hz : (layD (p : Int) s D).1 = 0 ↔ 15 ≤ k := by
    rw [el]
    exact arm_lay hwl hA ⟨by omega, by omega⟩
  obtain ⟨cD, cABC⟩ := lay_cases (d := D) (p := p) (av := lineW l p) hwl (by omega) (fun i hi => hcell p i (by omega) hi)
  have other : ∀ i : Nat, i < 8 → CellP (fun x => x = ix (lineW l (1 - p)) (i : Int)) (cellA (layD (p : Int) s D).2 (8 * (1 - p) + i)) := by
    intro i hi
    rw [el]
    exact (keeps_lay hwl (by omega) D (by omega) (hcell (1 - p) i (by omega) hi)).1
  rw [← el] at cD cABC
  rw [hle, Option.bind_some]
  generalize hE : layD (p : Int) s D = E at *
  have hlen2 := hdl.len
  have hdec : decide (E.1 = 0) = decide ((k : Int) ≥ 15) := by
    by_cases h : 15 ≤ k
    · rw [decide_eq_true (hz.2 h), decide_eq_true (show (k : Int) ≥ 15 by omega)]
    · rw [decide_eq_false (fun q => h (hz.1 q)), decide_eq_false (show ¬ (k : Int) ≥ 15 by omega)]
  have hLI : ∀ y ∈ c.L, I64 y := fun y hy => wf64.1 (hc.2.2.1 y hy)
  have hcr : pmem_Device_Crash.f FU E.2 c.L = some (crashD E.2 c.L) := crash_eq hdl (by decide) hLI (by decide)
  have hdc : DevOk 16 (0 + 15) (crashD E.2 c.L) := crash_ok hdl
  have hin : pmem_Device_Image.f FU (crashD E.2 c.L) = some (octs (lastsD (crashD E.2 c.L))) := image_eq hdc (by decide) (by decide)
  have hdcl := hdc.len
  have hrd : root_Read.f FU (crashD E.2 c.L) (p : Int) = some (getS (octs (lineC (crashD E.2 c.L) (p : Int)))) := by
    rw [root_read_eq hdc (by decide) (by decide), readS_line hp2 (by omega) rfl]
  have hat : rickyardref16_At.f FU (l.map toB) (p : Int) = some (getS (octs (lineW l p))) := by
    rw [rat_eq hb (by omega) (by unfold I64; omega) (by decide), atS_line hb hp2 (by omega)]
  have hF : ∀ q : Nat, q < 2 → ∀ i : Nat, i < 8 → ix (lineC (crashD E.2 c.L) (q : Int)) (i : Int) = (cellA (crashD E.2 c.L) (8 * q + i)).stored := fun q _ i hi => lineC_ix hi
  have hCl : ∀ q : Nat, (lineC (crashD E.2 c.L) (q : Int)).length = 8 := fun q => by simp [lineC]
  have lineL_stored : ∀ q : Nat, q < 2 → lineL (crashD E.2 c.L) (q : Int) = lineC (crashD E.2 c.L) (q : Int) := by
    intro q hq
    rw [← lineL_cut (by omega), ← lineC_stored (by omega), crash_view]
  have hoth : lineC (crashD E.2 c.L) ((1 - p : Nat) : Int) = lineW l (1 - p) := lineC_of (lineW_len _ _) fun i hi => by
    exact (cell_crash (l := c.L) (by omega) (other i hi)).2.1
  have hnow : ∀ q : Nat, q < 2 → cut (octs (lastsD (crashD E.2 c.L))) ((64 * q : Nat) : Int) ((64 * q + 64 : Nat) : Int) = octs (lineC (crashD E.2 c.L) (q : Int)) := by
    intro q hq
    have := octs_cut (lastsD (crashD E.2 c.L)) (8 * q) (8 * q + 8)
    rw [lineL_cut (by omega), lineL_stored q hq] at this
    rw [← this]
    congr 2 <;> omega
  have hwas : ∀ q : Nat, q < 2 → cut l ((64 * q : Nat) : Int) ((64 * q + 64 : Nat) : Int) = octs (lineW l q) := fun q hq => (octs_lineW hb (by omega)).symm
  have hol : (octs (lastsD (crashD E.2 c.L))).length = 128 := by rw [octs_len, lastsD, List.length_map, hdcl]
  have w1 : IntKind.i64.wrap (1 - (p : Int)) = ((1 - p : Nat) : Int) := by rw [w64 (by omega) (by omega)]; omega
  have w2 : IntKind.i64.wrap (64 * ((1 - p : Nat) : Int)) = ((64 * (1 - p) : Nat) : Int) := by rw [w64 (by omega) (by omega)]; omega
  have w3 : IntKind.i64.wrap (64 * (p : Int)) = ((64 * p : Nat) : Int) := by rw [w64 (by omega) (by omega)]; omega
  have w4 : IntKind.i64.wrap (128 - ((64 * p : Nat) : Int)) = ((64 * (1 - p) + 64 : Nat) : Int) := by rw [w64 (by omega) (by omega)]; omega
  have hocut : cut (List.map toB (octs (lastsD (crashD E.2 c.L)))) ((64 * (1 - p) : Nat) : Int) ((64 * (1 - p) + 64 : Nat) : Int) = cut (List.map toB l) ((64 * (1 - p) : Nat) : Int) ((64 * (1 - p) + 64 : Nat) : Int) := by
    rw [cut_map, cut_map, hnow (1 - p) (by omega), hwas (1 - p) (by omega), hoth]
  have hguard : (0 : Int) ≤ ((64 * (1 - p) : Nat) : Int) ∧ ((64 * (1 - p) : Nat) : Int) ≤ ((64 * (1 - p) + 64 : Nat) : Int) ∧ ((64 * (1 - p) + 64 : Nat) : Int) ≤ ((128 : Nat) : Int) := by omega
  rw [hdec, decide_eq_true rfl, if_neg (show ¬ (!true) = true by decide), hcr, Option.bind_some, hin, Option.bind_some, w1, w2, w3, w4, List.length_map, hol, List.length_map, hl, if_pos hguard, hocut]
  rw [decide_eq_true (show ((128 : Nat) : Int) = 128 from rfl), if_neg (show ¬ (!true) = true by decide), if_pos hguard, decide_eq_true rfl, Option.bind_some, if_neg (show ¬ (!true) = true by decide), hrd, Option.bind_some, hat, Option.bind_some]
  -- the line itself
  have hC0 : ∀ {Φ : Int → Prop} {i : Nat}, i < 8 → CellP Φ (cellA E.2 (8 * p + i)) → Φ (ix (lineC (crashD E.2 c.L) (p : Int)) (i : Int)) := by
    intro Φ i hi h
    rw [hF p hp2 i hi]
    exact (cell_crash (l := c.L) (by omega) h).2.1
  have hext : ∀ v : List Int, v.length = 8 → (∀ i : Nat, i < 8 → ix (lineC (crashD E.2 c.L) (p : Int)) (i : Int) = ix v (i : Int)) → lineC (crashD E.2 c.L) (p : Int) = v := by
    intro v hv h
    apply List.ext_getElem (by rw [hCl, hv])
    intro i h1 h2
    rw [← ix_nat h1, ← ix_nat h2]
    exact h i (by omega)
  have hwhole : lineC (crashD E.2 c.L) (p : Int) = lineW l p → octs (lastsD (crashD E.2 c.L)) = l := by
    intro h
    have e : ∀ x : List Int, x.length = 128 → x = cut x ((64 * 0 : Nat) : Int) ((64 * 0 + 64 : Nat) : Int) ++ cut x ((64 * 1 : Nat) : Int) ((64 * 1 + 64 : Nat) : Int) := by
      intro x hx
      unfold cut
      simp only [Int.toNat_natCast, List.drop_zero, Nat.mul_zero, Nat.zero_add, Nat.mul_one]
      rw [List.take_of_length_le (by omega : x.length ≤ 64 + 64), List.take_append_drop]
    have hb0 : ∀ q : Nat, q < 2 → lineC (crashD E.2 c.L) (q : Int) = lineW l q := by
      intro q hq
      by_cases hqp : q = p
      · rw [hqp]; exact h
      · have : q = 1 - p := by omega
        rw [this]; exact hoth
    rw [e _ hol, e l hl, hnow 0 (by decide), hnow 1 (by decide), hwas 0 (by decide), hwas 1 (by decide), hb0 0 (by decide), hb0 1 (by decide)]
  have hx8 := getS_len (octs (lineC (crashD E.2 c.L) (p : Int)))
  have hs8 := hR.len.1
  rw [rsuperSame_eq (by omega) (by show _ < 200000; omega), rsuperSame_eq (by omega) (by show _ < 200000; omega)]
  have hsay : ∀ (cc : Prop) [Decidable cc], (15 ≤ k → cc) → (if (decide ((k : Int) ≥ 15)) = true then some true else (if (getS (octs (lineC (crashD E.2 c.L) (p : Int)))).2 = true then ((some (decide ((getS (octs (lineC (crashD E.2 c.L) (p : Int)))).1 = s)) : Option Bool).bind fun t183 => some t183) else some false)) = some (decide ((k : Int) ≥ 15) || ((getS (octs (lineC (crashD E.2 c.L) (p : Int)))).2 && decide ((getS (octs (lineC (crashD E.2 c.L) (p : Int)))).1 = s))) := by
    intro cc _ _
    cases decide ((k : Int) ≥ 15) <;> cases (getS (octs (lineC (crashD E.2 c.L) (p : Int)))).2 <;> rfl
  rw [hsay (15 ≤ k) (fun h => h), Option.bind_some]
  -- what is there
  have hfull : (∀ i : Nat, i < 8 → ix (lineC (crashD E.2 c.L) (p : Int)) (i : Int) = ix (wordsU (blockS s) 8) (i : Int)) → getS (octs (lineC (crashD E.2 c.L) (p : Int))) = (s, true) := by
    intro h
    rw [hext _ hwl h, octs_words8 b1 b2, getS_block hR]
  by_cases h15 : 15 ≤ k
  · have := hfull fun i hi => hC0 (Φ := fun x => x = ix (wordsU (blockS s) 8) (i : Int)) hi (cD (hz.2 h15) i hi)
    rw [this]
    simp [decide_eq_true (show (k : Int) ≥ 15 by omega)]
  · rw [decide_eq_false (show ¬ (k : Int) ≥ 15 by omega)]
    by_cases hzero : ix (lineC (crashD E.2 c.L) (p : Int)) 0 = 0
    · have hno := getS_nought (hCl p) hzero
      rw [hno]
      rfl
    · rcases cABC with ⟨hA0, hA1⟩ | hB0 | ⟨hC1, hC2⟩
      · have h0 := hC0 (Φ := fun x => x = ix (lineW l p) 0 ∨ x = 0) (i := 0) (by decide) hA0
        have h0' : ix (lineC (crashD E.2 c.L) (p : Int)) ((0 : Nat) : Int) = ix (lineW l p) ((0 : Nat) : Int) := h0.resolve_right hzero
        have heq : lineC (crashD E.2 c.L) (p : Int) = lineW l p := hext _ (lineW_len _ _) fun i hi => by
          by_cases e : i = 0
          · rw [e]; exact h0'
          · exact hC0 (Φ := fun x => x = ix (lineW l p) (i : Int)) hi (hA1 i (by omega) hi)
        have hw := hwhole heq
        rw [heq, hw]
        generalize getS (octs (lineW l p)) = g
        cases hg : g.2 <;> simp
      · have h0 := hC0 (Φ := fun x => x = 0) (i := 0) (by decide) hB0
        exact absurd h0 hzero
      · have h0 := hC0 (Φ := fun x => x = 0 ∨ x = ix (wordsU (blockS s) 8) 0) (i := 0) (by decide) hC1
        have h0' : ix (lineC (crashD E.2 c.L) (p : Int)) ((0 : Nat) : Int) = ix (wordsU (blockS s) 8) ((0 : Nat) : Int) := h0.resolve_left hzero
        have := hfull fun i hi => by
          by_cases e : i = 0
          · rw [e]; exact h0'
          · exact hC0 (Φ := fun x => x = ix (wordsU (blockS s) 8) (i : Int)) hi (hC2 i (by omega) hi)
        rw [this]
        simp
end Go.Proofs.Ytklhbaghbmndeaa.Pure
namespace Go.Proofs.Ytklhbaghbmndeaa.rootTorn
open Go.ChangeShapes Go.WideShapes Go.ChangeAt Go.RowKit
open Go.ChangeMaps (open_string shut_string)
open Go Go.Xw
theorem own : ownKnob Try.prog.godebug = none := Facts.own
theorem laidOut : laidOutB Try.prog = true := Facts.laid
theorem closed : joinedFacts Try.pinned.checked.prog 22 Try.f22 Rows.rootTornSpec Rows.rootTornRow = true := by
  unfold joinedFacts
  rw [Facts.enter, Facts.lifts, Facts.make, Facts.laid, Facts.rowed, Facts.plain, Facts.heard]
  kernel_rfl
theorem enc_seg {α : Type} (K : Kd α) (a : α) : K.enc a = cellsOf [Kd.seg K a] := by simp [cellsOf, Kd.seg]
def start : Input := ⟨#[], #[.agg #[.int .u8 0, .int .u8 0, .int .u8 0, .int .u8 0, .int .u8 0, .int .u8 0, .int .u8 0, .int .u8 0, .int .u8 0, .int .u8 0, .int .u8 0, .int .u8 0, .int .u8 0, .int .u8 0, .int .u8 0, .int .u8 0, .int .u8 0, .int .u8 0, .int .u8 0, .int .u8 0, .int .u8 0, .int .u8 0, .int .u8 0, .int .u8 0, .int .u8 0, .int .u8 0, .int .u8 0, .int .u8 0, .int .u8 0, .int .u8 0, .int .u8 0, .int .u8 0, .int .u8 0, .int .u8 0, .int .u8 0, .int .u8 0, .int .u8 0, .int .u8 0, .int .u8 0, .int .u8 0, .int .u8 0, .int .u8 0, .int .u8 0, .int .u8 0, .int .u8 0, .int .u8 0, .int .u8 0, .int .u8 0, .int .u8 0, .int .u8 0, .int .u8 0, .int .u8 0, .int .u8 0, .int .u8 0, .int .u8 0, .int .u8 0, .int .u8 0, .int .u8 0, .int .u8 0, .int .u8 0, .int .u8 0, .int .u8 0, .int .u8 0, .int .u8 0, .int .u8 0, .int .u8 0, .int .u8 0, .int .u8 0, .int .u8 0, .int .u8 0, .int .u8 0, .int .u8 0, .int .u8 0, .int .u8 0, .int .u8 0, .int .u8 0, .int .u8 0, .int .u8 0, .int .u8 0, .int .u8 0, .int .u8 0, .int .u8 0, .int .u8 0, .int .u8 0, .int .u8 0, .int .u8 0, .int .u8 0, .int .u8 0, .int .u8 0, .int .u8 0, .int .u8 0, .int .u8 0, .int .u8 0, .int .u8 0, .int .u8 0, .int .u8 0, .int .u8 0, .int .u8 0, .int .u8 0, .int .u8 0, .int .u8 0, .int .u8 0, .int .u8 0, .int .u8 0, .int .u8 0, .int .u8 0, .int .u8 0, .int .u8 0, .int .u8 0, .int .u8 0, .int .u8 0, .int .u8 0, .int .u8 0, .int .u8 0, .int .u8 0, .int .u8 0, .int .u8 0, .int .u8 0, .int .u8 0, .int .u8 0, .int .u8 0, .int .u8 0, .int .u8 0, .int .u8 0, .int .u8 0, .int .u8 0, .int .u8 0, .int .u8 0], .agg #[.int .i64 0, .int .i64 0, .int .i64 0, .int .i64 0, .int .i64 0, .int .i64 0, .int .i64 0, .int .i64 0, .slice none 0 0], .agg #[.int .u8 0, .slice none 0 0, .slice none 0 0]], []⟩
set_option maxRecDepth 100000 in
set_option maxHeartbeats 1000000 in
theorem lifted (os : Os) (started : os.Started) (H : Type) (enc : TypeId × Value → H) :
    ReturnsInHanded {} Try.checked os 22 .any (Rows.rootTornSpec.pre6 enc Try.prog Try.f22 Rows.rootTornRow.domain false) (Rows.rootTornSpec.post enc Try.prog Try.f22 false true false false) := by
  refine returnsInHanded_of_change_sized (C := Try.checked) own started (by kernel_rfl) Try.func22
    (ChangeSpec.witness6 (enc := enc) (C := Try.checked) false start 8 (by kernel_rfl) (by kernel_rfl) (by kernel_rfl) (by kernel_rfl)) ?_
  intro W base args ds gs before hval0 hW hcnd hsz0 _
  have hval : ∀ (j : Nat) t v, Try.f22.params[j]? = some t → args[j]? = some v → Value.okWide Try.prog W .any base t v := hval0
  have hW' := hW
  obtain ⟨p, q, hA0, hV, rfl, hfz, hnd⟩ := hW
  have hA : DataW.TrodAll enc Try.prog W 0 (fun _ => true) true Try.f22.params.toList args.toList ds p := hA0
  rw [Try.params22] at hA hval
  obtain ⟨v0, vs0, d0, ds0, p0, q0, hargs, rfl, rfl, h0, r0⟩ := trodAll_cons hA
  obtain ⟨v1, vs1, d1, ds1, p1, q1, rfl, rfl, rfl, h1, r1⟩ := trodAll_cons r0
  obtain ⟨v2, vs2, d2, ds2, p2, q2, rfl, rfl, rfl, h2, r2⟩ := trodAll_cons r1
  obtain ⟨rfl, rfl, rfl⟩ := trodAll_nil r2
  obtain rfl : args = #[v0, v1, v2] := by cases args; simp_all
  obtain ⟨rfl, rfl⟩ := trodVars_none hV
  have k0 := h0
  have lt0 : ∀ x ∈ p0, x.block < W.heap.size := by obtain ⟨m, hm⟩ := k0; exact DataW.trod_lt m _ _ _ hm
  obtain ⟨fu0, hf0⟩ := h0
  obtain ⟨a0, e0, o0⟩ := (opn_arr Try.underlying131 (by kernel_rfl) (by kernel_rfl) (opn_int Try.underlying5)) enc _ _ _ _ _ _ hf0
  obtain rfl := agg_of (by kernel_rfl) (hval 0 131 v0 rfl rfl) (e0.trans (enc_seg _ _))
  have k1 := h1
  have lt1 : ∀ x ∈ p1, x.block < W.heap.size := by obtain ⟨m, hm⟩ := k1; exact DataW.trod_lt m _ _ _ hm
  obtain ⟨fu1, hf1⟩ := h1
  obtain ⟨a1, V1_0, R1_0, e1, o1⟩ := opn_api_Super enc _ _ _ _ _ _ hf1
  obtain rfl := agg_of (by kernel_rfl) (hval 1 110 v1 rfl rfl) e1
  have k2 := h2
  have lt2 : ∀ x ∈ p2, x.block < W.heap.size := by obtain ⟨m, hm⟩ := k2; exact DataW.trod_lt m _ _ _ hm
  obtain ⟨fu2, hf2⟩ := h2
  obtain ⟨a2, V2_0, V2_1, R2_0, R2_1, e2, o2⟩ := opn_rickyardlaw16_Cut enc _ _ _ _ _ _ hf2
  obtain rfl := agg_of (by kernel_rfl) (hval 2 129 v2 rfl rfl) e2
  obtain ⟨fu, hfu⟩ := Pure.RootTorn a0 a1 a2 o0 o1 o2
  refine Calls.mono (rickyardlaw16_RootTorn.ok fu W a0 a1 _ R1_0 a2 _ R2_0 _ R2_1 true hfu) fun e W' hr => ?_
  obtain ⟨v, rfl, rfl, gr⟩ := hr
  have bel := Fr.below gr
  exact ⟨_, rfl, _, _, _, [], _, [], hW', trodAll_mk1 (shut_bool Try.underlying4 _), (trodAll_cons_mk (Below.trod laidOut (by kernel_rfl) (of_decide_eq_true (by kernel_rfl)) k0 bel lt0) (trodAll_cons_mk (Below.trod laidOut (by kernel_rfl) (of_decide_eq_true (by kernel_rfl)) k1 bel lt1) (trodAll_cons_mk (Below.trod laidOut (by kernel_rfl) (of_decide_eq_true (by kernel_rfl)) k2 bel lt2) trodAll_mk0))), rfl, bel.frame _, fun h => by cases h⟩
theorem over : Rows.rootTornRow.holds Try.pinned (OpenSpec.ofChange Rows.rootTornSpec) :=
  OpenClaim.holds_of_wide 22 Try.f22 rfl rfl rfl rfl rfl rfl rfl ⟨rfl, rfl, rfl, rfl, rfl⟩ rfl rfl rfl rfl rfl (by kernel_rfl) Try.func22 closed
    (of_decide_eq_true (by kernel_rfl)) (by unfold Func.isWrapper; first | (rw [if_pos (by decide +kernel)]; kernel_rfl) | (rw [if_neg (by decide +kernel)]; exact ⟨rfl, rfl⟩))
    (fun os started H enc _ => lifted os started H enc)
theorem proved : Rows.RootTornSaid := over
end Go.Proofs.Ytklhbaghbmndeaa.rootTorn
namespace Go.Proofs.Ytklhbaghbmndeaa
theorem rootTorn_holds : Rows.RootTornSaid := rootTorn.proved
#print axioms rootTorn_holds
end Go.Proofs.Ytklhbaghbmndeaa
