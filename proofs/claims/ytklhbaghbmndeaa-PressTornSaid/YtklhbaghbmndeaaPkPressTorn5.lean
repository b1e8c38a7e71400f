/- PressTorn: texts merged, part 5 of 5. The last part proves that the law PressTorn holds for every input. -/
import Derived.Test.YtklhbaghbmndeaaPkPressTorn4
/- Calls that are done, and what they leave; how long the power lasts. -/
set_option linter.unusedVariables false
set_option linter.unusedSimpArgs false
namespace Go.Proofs.Ytklhbaghbmndeaa.Pure
open Go Go.Xw
theorem store_zero {d : Dev} {k w : Int} (h : (storeD d k w).1 = 0) : d.off = false ∧ 0 ≤ k ∧ k < (d.cells.length : Int) := by
  unfold storeD at h
  split at h
  · rename_i e
    exact may_zero.1 e
  · exact may_zero.1 h
theorem flush_zero {d : Dev} {k : Int} (h : (flushD d k).1 = 0) : d.off = false ∧ 0 ≤ k ∧ k < ((d.cells.length / 8 : Nat) : Int) := by
  unfold flushD at h
  split at h
  · rename_i e
    exact may_zero.1 e
  · exact may_zero.1 h
theorem fence_zero {d : Dev} (h : (fenceD d).1 = 0) : d.off = false := by
  unfold fenceD at h
  split at h
  · exact absurd (show (3 : Int) = 0 from h) (by decide)
  · rename_i e
    simpa using e
/-- What was stored, if all was. -/
theorem put_st1 : ∀ {ws : List Int} {d : Dev} {k : Nat}, (putAll d (k : Int) ws).1 = 0 → ∀ j : Nat, j < ws.length → St1 (fun x => x = ix ws (j : Int)) (cellA (putAll d (k : Int) ws).2 (k + j))
  | [], d, k, _, j, hj => by simp at hj
  | w :: ws, d, k, h, j, hj => by
    unfold putAll at h ⊢
    by_cases e : (storeD d (k : Int) w).1 = 0
    · rw [if_pos e] at h
      obtain ⟨ho, h0, h1⟩ := store_zero e
      simp only [e, if_true]
      have hk : ((k : Int) + 1) = ((k + 1 : Nat) : Int) := by omega
      cases j with
      | zero =>
        have hs := at_store_st1 (Φ := fun x => x = w) (w := w) (show k < d.cells.length by omega) rfl ho
        have := at_put (ev_st1 (fun x => x = w)) (ws := ws) (k := (k : Int) + 1) (by rw [store_len]; omega) hs (by omega)
        simpa [ix] using this
      | succ j =>
        have hj' : j < ws.length := by simpa using hj
        rw [hk] at h ⊢
        have := put_st1 h j hj'
        rw [show k + (j + 1) = k + 1 + j from by omega]
        rw [ix_nat (show j + 1 < (w :: ws).length by simpa using hj)]
        rw [ix_nat hj'] at this
        simpa using this
    · rw [if_neg e] at h
      exact absurd h e
theorem send_zero {d : Dev} {line first : Int} {ws : List Int} (h : (sendD d line first ws).1 = 0) : (putAll d (8 * line + first) ws).1 = 0 ∧ (flushD (putAll d (8 * line + first) ws).2 line).1 = 0 ∧ (sendD d line first ws).2 = (flushD (putAll d (8 * line + first) ws).2 line).2 := by
  unfold sendD at h ⊢
  by_cases e : (putAll d (8 * line + first) ws).1 = 0
  · rw [if_pos e] at h
    rw [if_pos e]
    exact ⟨e, h, rfl⟩
  · rw [if_neg e] at h
    exact absurd h e
theorem send_st2 {d : Dev} {line first : Nat} {ws : List Int} (h : (sendD d (line : Int) (first : Int) ws).1 = 0) (hf : first + ws.length ≤ 8) (hl : 8 * line + 8 ≤ d.cells.length) (j : Nat) (hj : j < ws.length) : St2 (fun x => x = ix ws (j : Int)) (cellA (sendD d (line : Int) (first : Int) ws).2 (8 * line + first + j)) := by
  obtain ⟨h1, h2, h3⟩ := send_zero h
  have ek : 8 * (line : Int) + (first : Int) = ((8 * line + first : Nat) : Int) := by omega
  rw [h3]
  rw [ek] at h1 h2 ⊢
  obtain ⟨ho, _, hl2⟩ := flush_zero h2
  exact st1_flush (by rw [put_len]; omega) (put_st1 h1 j hj) ho (by omega) hl2 (by omega)
theorem write_zero {d : Dev} {line : Int} {b : List Int} (h : (writeD d line b).1 = 0) : inL d line ∧ b.length = 64 ∧ (sendD d line 0 (wordsU b 8)).1 = 0 ∧ writeD d line b = sendD d line 0 (wordsU b 8) := by
  unfold writeD at h ⊢
  by_cases e : inL d line ∧ b.length = 64
  · rw [if_pos e] at h
    exact ⟨e.1, e.2, h, if_pos e⟩
  · rw [if_neg e] at h
    exact absurd (show (2 : Int) = 0 from h) (by decide)
theorem write_st2 {d : Dev} {line : Nat} {b : List Int} (h : (writeD d (line : Int) b).1 = 0) (j : Nat) (hj : j < 8) : St2 (fun x => x = ix (wordsU b 8) (j : Int)) (cellA (writeD d (line : Int) b).2 (8 * line + j)) := by
  obtain ⟨h1, h2, h3, h4⟩ := write_zero h
  have hl : 8 * line + 8 ≤ d.cells.length := by
    unfold inL at h1
    omega
  rw [h4]
  exact send_st2 (first := 0) h3 (by rw [wordsU_len]; decide) hl j (by rw [wordsU_len]; exact hj)
/-- The power stays. -/
def Un (d : Dev) : Prop := d.armed = false ∧ d.off = false
theorem un_tick {d : Dev} (h : Un d) : Un (tick d) := ⟨h.1, by show (if d.armed = true then decide (d.left - 1 = 0) else d.off) = false; rw [h.1]; exact h.2⟩
theorem un_store {d : Dev} {k w : Int} (h : Un d) (h0 : 0 ≤ k) (h1 : k < (d.cells.length : Int)) : (storeD d k w).1 = 0 ∧ Un (storeD d k w).2 ∧ (storeD d k w).2.steps = d.steps + 1 := by
  unfold storeD
  rw [if_pos (may_zero.2 ⟨h.2, h0, h1⟩)]
  exact ⟨rfl, un_tick (d := withC d _) h, rfl⟩
theorem un_flush {d : Dev} {k : Int} (h : Un d) (h0 : 0 ≤ k) (h1 : k < ((d.cells.length / 8 : Nat) : Int)) : (flushD d k).1 = 0 ∧ Un (flushD d k).2 ∧ (flushD d k).2.steps = d.steps + 1 := by
  unfold flushD
  rw [if_pos (may_zero.2 ⟨h.2, h0, h1⟩)]
  exact ⟨rfl, un_tick (d := withC d _) h, rfl⟩
theorem un_fence {d : Dev} (h : Un d) : (fenceD d).1 = 0 ∧ Un (fenceD d).2 ∧ (fenceD d).2.steps = d.steps + 1 := by
  unfold fenceD
  rw [if_neg (by rw [h.2]; decide)]
  exact ⟨rfl, un_tick (d := withC d _) h, rfl⟩
theorem un_put : ∀ {ws : List Int} {d : Dev} {k : Int}, Un d → 0 ≤ k → k + (ws.length : Int) ≤ (d.cells.length : Int) → (putAll d k ws).1 = 0 ∧ Un (putAll d k ws).2 ∧ (putAll d k ws).2.steps = d.steps + (ws.length : Int)
  | [], d, k, h, _, _ => ⟨rfl, h, by simp [putAll]⟩
  | w :: ws, d, k, h, h0, h1 => by
    simp only [List.length_cons] at h1
    obtain ⟨a1, a2, a3⟩ := un_store (w := w) h h0 (show k < (d.cells.length : Int) by omega)
    obtain ⟨b1, b2, b3⟩ := un_put (ws := ws) (k := k + 1) a2 (by omega) (by rw [store_len]; omega)
    unfold putAll
    rw [if_pos a1]
    exact ⟨b1, b2, by rw [b3, a3]; simp only [List.length_cons]; omega⟩
theorem un_send {d : Dev} {line first : Int} {ws : List Int} (h : Un d) (hl : inL d line) (hf : 0 ≤ first ∧ first + (ws.length : Int) ≤ 8) : (sendD d line first ws).1 = 0 ∧ Un (sendD d line first ws).2 ∧ (sendD d line first ws).2.steps = d.steps + (ws.length : Int) + 1 := by
  unfold inL at hl
  obtain ⟨a1, a2, a3⟩ := un_put (ws := ws) (k := 8 * line + first) h (by omega) (by omega)
  obtain ⟨b1, b2, b3⟩ := un_flush (k := line) a2 hl.1 (by rw [put_len]; exact hl.2)
  unfold sendD
  rw [if_pos a1]
  exact ⟨b1, b2, by rw [b3, a3]⟩
theorem un_write {d : Dev} {line : Int} {b : List Int} (h : Un d) (hl : inL d line) (hb : b.length = 64) : (writeD d line b).1 = 0 ∧ Un (writeD d line b).2 ∧ (writeD d line b).2.steps = d.steps + 9 := by
  have := un_send (first := 0) (ws := wordsU b 8) h hl (by rw [wordsU_len]; decide)
  rw [wordsU_len] at this
  unfold writeD
  rw [if_pos ⟨hl, hb⟩]
  exact ⟨this.1, this.2.1, by rw [this.2.2]; omega⟩
/-- The power lasts for so many steps. -/
def Arm (d : Dev) (r : Nat) : Prop := d.armed = true ∧ d.left = (r : Int) ∧ d.off = decide (r = 0)
theorem arm_tick {d : Dev} {r : Nat} (h : Arm d (r + 1)) : Arm (tick d) r := by
  refine ⟨h.1, ?_, ?_⟩
  · show (if d.armed = true then d.left - 1 else d.left) = _
    rw [h.1, if_pos rfl, h.2.1]
    omega
  · show (if d.armed = true then decide (d.left - 1 = 0) else d.off) = _
    rw [h.1, if_pos rfl, h.2.1]
    by_cases e : r = 0
    · rw [decide_eq_true e, decide_eq_true (by omega)]
    · rw [decide_eq_false e, decide_eq_false (by omega)]
theorem arm_up {d : Dev} {r : Nat} (h : Arm d (r + 1)) : d.off = false := by
  rw [h.2.2]
  exact decide_eq_false (by omega)
theorem arm_store {d : Dev} {k w : Int} {r : Nat} (h : Arm d r) (h0 : 0 ≤ k) (h1 : k < (d.cells.length : Int)) : (r ≠ 0 → (storeD d k w).1 = 0 ∧ Arm (storeD d k w).2 (r - 1)) ∧ (r = 0 → (storeD d k w).1 = 3 ∧ (storeD d k w).2 = d) := by
  constructor
  · intro hr
    obtain ⟨q, rfl⟩ : ∃ q, r = q + 1 := ⟨r - 1, by omega⟩
    unfold storeD
    rw [if_pos (may_zero.2 ⟨arm_up h, h0, h1⟩)]
    exact ⟨rfl, arm_tick (d := withC d _) h⟩
  · rintro rfl
    have ho : d.off = true := h.2.2
    have : mayI d.off k (d.cells.length : Int) = 3 := by simp [mayI, ho]
    unfold storeD
    rw [this, if_neg (by decide)]
    exact ⟨rfl, rfl⟩
theorem arm_flush {d : Dev} {k : Int} {r : Nat} (h : Arm d r) (h0 : 0 ≤ k) (h1 : k < ((d.cells.length / 8 : Nat) : Int)) : (r ≠ 0 → (flushD d k).1 = 0 ∧ Arm (flushD d k).2 (r - 1)) ∧ (r = 0 → (flushD d k).1 = 3 ∧ (flushD d k).2 = d) := by
  constructor
  · intro hr
    obtain ⟨q, rfl⟩ : ∃ q, r = q + 1 := ⟨r - 1, by omega⟩
    unfold flushD
    rw [if_pos (may_zero.2 ⟨arm_up h, h0, h1⟩)]
    exact ⟨rfl, arm_tick (d := withC d _) h⟩
  · rintro rfl
    have ho : d.off = true := h.2.2
    have : mayI d.off k ((d.cells.length / 8 : Nat) : Int) = 3 := by simp [mayI, ho]
    unfold flushD
    rw [this, if_neg (by decide)]
    exact ⟨rfl, rfl⟩
theorem arm_fence {d : Dev} {r : Nat} (h : Arm d r) : (r ≠ 0 → (fenceD d).1 = 0 ∧ Arm (fenceD d).2 (r - 1)) ∧ (r = 0 → (fenceD d).1 = 3 ∧ (fenceD d).2 = d) := by
  constructor
  · intro hr
    obtain ⟨q, rfl⟩ : ∃ q, r = q + 1 := ⟨r - 1, by omega⟩
    unfold fenceD
    rw [if_neg (by rw [arm_up h]; decide)]
    exact ⟨rfl, arm_tick (d := withC d _) h⟩
  · rintro rfl
    have ho : d.off = true := h.2.2
    unfold fenceD
    rw [if_pos ho]
    exact ⟨rfl, rfl⟩
theorem arm_put : ∀ {ws : List Int} {d : Dev} {k : Int} {r : Nat}, Arm d r → 0 ≤ k → k + (ws.length : Int) ≤ (d.cells.length : Int) → (ws.length ≤ r → (putAll d k ws).1 = 0 ∧ Arm (putAll d k ws).2 (r - ws.length)) ∧ (r < ws.length → (putAll d k ws).1 = 3 ∧ Arm (putAll d k ws).2 0)
  | [], d, k, r, h, _, _ => ⟨fun _ => ⟨rfl, h⟩, fun q => absurd q (by simp)⟩
  | w :: ws, d, k, r, h, h0, h1 => by
    simp only [List.length_cons] at h1 ⊢
    have hs := arm_store (w := w) h h0 (show k < (d.cells.length : Int) by omega)
    unfold putAll
    by_cases hr : r = 0
    · have := hs.2 hr
      refine ⟨fun q => by omega, fun _ => ?_⟩
      rw [if_neg (by rw [this.1]; decide)]
      exact ⟨this.1, by rw [this.2]; rw [hr] at h; exact h⟩
    · obtain ⟨a1, a2⟩ := hs.1 hr
      have ih := arm_put (ws := ws) (k := k + 1) a2 (by omega) (by rw [store_len]; omega)
      rw [if_pos a1]
      refine ⟨fun q => ?_, fun q => ih.2 (by omega)⟩
      have := ih.1 (by omega)
      rw [show r - 1 - ws.length = r - (ws.length + 1) from by omega] at this
      exact this
theorem arm_write {d : Dev} {line : Int} {b : List Int} {r : Nat} (h : Arm d r) (hl : inL d line) (hb : b.length = 64) : (9 ≤ r → (writeD d line b).1 = 0 ∧ Arm (writeD d line b).2 (r - 9)) ∧ (r < 9 → (writeD d line b).1 = 3 ∧ Arm (writeD d line b).2 0) := by
  have hin := hl
  unfold inL at hin
  have hp := arm_put (ws := wordsU b 8) (k := 8 * line + 0) h (by omega) (by rw [wordsU_len]; omega)
  rw [wordsU_len] at hp
  unfold writeD
  rw [if_pos ⟨hl, hb⟩]
  unfold sendD
  constructor
  · intro hr
    obtain ⟨a1, a2⟩ := hp.1 (by omega)
    have hf := (arm_flush (k := line) a2 hin.1 (by rw [put_len]; exact hin.2)).1 (by omega)
    rw [if_pos a1]
    rw [show r - 8 - 1 = r - 9 from by omega] at hf
    exact hf
  · intro hr
    by_cases h8 : r = 8
    · obtain ⟨a1, a2⟩ := hp.1 (by omega)
      have hf := (arm_flush (k := line) a2 hin.1 (by rw [put_len]; exact hin.2)).2 (by omega)
      rw [if_pos a1, hf.2]
      refine ⟨hf.1, ?_⟩
      rw [show r - 8 = 0 from by omega] at a2
      exact a2
    · obtain ⟨a1, a2⟩ := hp.2 (by omega)
      rw [if_neg (by rw [a1]; decide)]
      exact ⟨a1, a2⟩
theorem octs_words8 {b : List Int} (hb : Bytes b) (hl : b.length = 64) : octs (wordsU b 8) = b := by
  rw [octs_words hb 8 (by omega), List.take_of_length_le (by omega)]
end Go.Proofs.Ytklhbaghbmndeaa.Pure

/- The first example of the blocks. -/
namespace Go.Proofs.Ytklhbaghbmndeaa.Pure
open Go Go.Xw
theorem awake15' : rickyardlaw15_awake.f FU = some true := by decide +kernel
end Go.Proofs.Ytklhbaghbmndeaa.Pure

/- The pure statement of PressTorn. -/
set_option linter.unusedVariables false
set_option linter.unusedSimpArgs false
namespace Go.Proofs.Ytklhbaghbmndeaa.Pure
open Go Go.Xw
theorem PressTorn : ∀ (a0 : Arr 2 (Arr 64 Int)) (a1 : Int) (a2 : List Int), (∀ x ∈ a0.l, (∀ x' ∈ x.l, (Lit.int .u8 x').wf = true)) → (Lit.int .u8 a1).wf = true → ((∀ x ∈ a2, (Lit.int .i64 x).wf = true) ∧ List.length a2 ≤ maxLen) → ∃ fu, rickyardlaw15_PressTorn.f fu a0 a1 a2 = some true := by
  intro bs st l hbs hst hl
  refine ⟨FU, ?_⟩
  unfold rickyardlaw15_PressTorn.f
  rw [awake15']
  simp only [Option.bind_some, Bool.not_true, Bool.false_eq_true, if_false]
  by_cases hL : (l.length : Int) > 20
  · rw [decide_eq_true hL]
    rfl
  rw [decide_eq_false hL, if_neg (by decide)]
  have h8 := wf8.1 hst
  obtain ⟨k, hw⟩ : ∃ k : Nat, Int.tmod (IntKind.i64.wrap st) 12 = (k : Int) := ⟨(st % 12).toNat, by
    rw [w64 (by omega) (by omega), Int.tmod_eq_emod_of_nonneg h8.1]
    omega⟩
  have hk12 : k < 12 := by
    rw [w64 (by omega) (by omega), Int.tmod_eq_emod_of_nonneg h8.1] at hw
    omega
  have hbsl := bs.h
  have hget : ∀ i : Nat, i < 2 → Arr.get bs (i : Int) ∈ bs.l := by
    intro i hi
    have : Arr.get bs (i : Int) = bs.l[i]'(by omega) := ix_nat (by omega)
    rw [this]
    exact List.getElem_mem _
  have hb0 : Bytes (Arr.l (Arr.get bs 0)) := fun x hx => wf8.1 (hbs _ (hget 0 (by decide)) x hx)
  have hb1 : Bytes (Arr.l (Arr.get bs 1)) := fun x hx => wf8.1 (hbs _ (hget 1 (by decide)) x hx)
  have hl0 : (Arr.l (Arr.get bs 0)).length = 64 := (Arr.get bs 0).h
  have hl1 : (Arr.l (Arr.get bs 1)).length = 64 := (Arr.get bs 1).h
  unfold rickyardlaw15_PressTorn.s0
  generalize Arr.l (Arr.get bs 0) = b0 at *
  generalize Arr.l (Arr.get bs 1) = b1 at *
  have hnew : pmem_New.f FU 1 = some (some (newD 8), 0) := new_eq (k := 1) (by decide)
  have hun : Un (newD 8) := ⟨rfl, rfl⟩
  have hin : inL (newD 8) 0 := by
    unfold inL
    have : (newD 8).cells.length = 8 := by simp [newD]
    omega
  obtain ⟨a1, a2, a3⟩ := un_write hun hin hl0
  have hwr : press_Write.f FU (newD 8) 0 b0 = some (writeD (newD 8) 0 b0) := write_eq (newD_ok 8) (by decide) (by decide) hb0 (by decide)
  have hd1 : DevOk 8 9 (writeD (newD 8) 0 b0).2 := by
    unfold writeD
    rw [if_pos ⟨hin, hl0⟩]
    have := send_ok (k := 0) (i := 0) (newD_ok 8) (words_U64 (n := 8) hb0)
    rw [wordsU_len] at this
    exact this
  have hst2 := fun j hj => write_st2 (d := newD 8) (line := 0) a1 j hj
  rw [show (((0 : Nat) : Int)) = 0 from rfl] at hst2
  generalize hD1 : writeD (newD 8) 0 b0 = W at *
  have hsu : press_Sure.f FU W.2 = some (fenceD W.2) := sure_eq hd1 (by decide) (by decide) (by decide)
  obtain ⟨c1, c2, c3⟩ := un_fence a2
  have hd2 : DevOk 8 10 (fenceD W.2).2 := fence_ok hd1
  have hlen1 := hd1.len
  have hcell : ∀ i : Nat, i < 8 → CellP (fun x => x = ix (wordsU b0 8) (i : Int)) (cellA (fenceD W.2).2 i) := fun i hi => by
    have := st2_fence (by omega) (hst2 i hi) a2.2
    simpa using this
  generalize hD2 : (fenceD W.2).2 = D at *
  rw [hnew]
  simp only [Option.bind_some, Option.elim_some, hw]
  rw [hwr]
  simp only [Option.bind_some, a1, decide_true, Bool.not_true, Bool.false_eq_true, if_false]
  rw [hsu]
  simp only [Option.bind_some, c1, decide_true, Bool.not_true, Bool.false_eq_true, if_false, hD2]
  rw [arm_eq]
  have hec : D.cells = (armD D (k : Int)).cells ∧ D.plan.list = (armD D (k : Int)).plan.list := by
    unfold armD
    split <;> exact ⟨rfl, rfl⟩
  have hdA : DevOk 8 10 (armD D (k : Int)) := arm_ok hd2 (by unfold I64; omega)
  have hA : Arm (armD D (k : Int)) k := by
    unfold armD
    rw [if_neg (by rw [c2.2]; decide)]
    refine ⟨show decide ((k : Int) ≥ 0) = true from decide_eq_true (by omega), rfl, ?_⟩
    show decide ((k : Int) = 0) = decide (k = 0)
    by_cases e : k = 0
    · rw [decide_eq_true e, decide_eq_true (by omega)]
    · rw [decide_eq_false e, decide_eq_false (by omega)]
  have hcA : ∀ i : Nat, i < 8 → CellP (fun x => x = ix (wordsU b0 8) (i : Int)) (cellA (armD D (k : Int)) i) := by
    intro i hi
    have := hcell i hi
    unfold cellA at this ⊢
    rw [← hec.1]
    exact this
  simp only [Option.bind_some]
  rw [hec.1, hec.2]
  simp only [eta]
  generalize hDA : armD D (k : Int) = E at *
  have hinE : inL E 0 := by
    unfold inL
    rw [hdA.len]
    decide
  have hwr2 : press_Write.f FU E 0 b1 = some (writeD E 0 b1) := write_eq hdA (by decide) (by decide) hb1 (by decide)
  have hd3 : DevOk 8 19 (writeD E 0 b1).2 := by
    unfold writeD
    rw [if_pos ⟨hinE, hl1⟩]
    have := send_ok (k := 0) (i := 0) hdA (words_U64 (n := 8) hb1)
    rw [wordsU_len] at this
    exact this
  have hsu2 : press_Sure.f FU (writeD E 0 b1).2 = some (fenceD (writeD E 0 b1).2) := sure_eq hd3 (by decide) (by decide) (by decide)
  have hd4 : DevOk 8 20 (fenceD (writeD E 0 b1).2).2 := fence_ok hd3
  have aw := arm_write hA hinE hl1
  have hlenE := hdA.len
  -- either word
  have two : ∀ i : Nat, i < 8 → CellP (fun x => x = ix (wordsU b0 8) (i : Int) ∨ x = ix (wordsU b1 8) (i : Int)) (cellA (fenceD (writeD E 0 b1).2).2 i) := by
    intro i hi
    refine cell_fence (by rw [hd3.len]; exact hi) (cell_write (by omega) ((hcA i hi).mono fun x h => .inl h) fun j hj e => .inr ?_)
    have : j = i := by omega
    rw [this]
  have e9 : decide ((writeD E 0 b1).1 = 0) = decide ((k : Int) ≥ 9) := by
    by_cases h9 : 9 ≤ k
    · rw [decide_eq_true (aw.1 h9).1, decide_eq_true (by omega)]
    · have := (aw.2 (by omega)).1
      rw [decide_eq_false (by rw [this]; decide), decide_eq_false (by omega)]
  have e10 : decide ((fenceD (writeD E 0 b1).2).1 = 0) = decide ((k : Int) ≥ 10) := by
    by_cases h9 : 9 ≤ k
    · have hf := arm_fence (aw.1 h9).2
      by_cases h10 : 10 ≤ k
      · rw [decide_eq_true (hf.1 (by omega)).1, decide_eq_true (by omega)]
      · rw [decide_eq_false (by rw [(hf.2 (by omega)).1]; decide), decide_eq_false (by omega)]
    · have hf := arm_fence (aw.2 (by omega)).2
      rw [decide_eq_false (by rw [(hf.2 rfl).1]; decide), decide_eq_false (by omega)]
  have one : (fenceD (writeD E 0 b1).2).1 = 0 → ∀ i : Nat, i < 8 → CellP (fun x => x = ix (wordsU b1 8) (i : Int)) (cellA (fenceD (writeD E 0 b1).2).2 i) := by
    intro hf i hi
    have h10 : (k : Int) ≥ 10 := of_decide_eq_true (by rw [← e10]; exact decide_eq_true hf)
    have h0 : (writeD E 0 b1).1 = 0 := (aw.1 (by omega)).1
    have h2 := write_st2 (d := E) (line := 0) h0 i hi
    rw [show (((0 : Nat) : Int)) = 0 from rfl] at h2
    have := st2_fence (by have := hd3.len; omega) h2 (fence_zero hf)
    simpa using this
  rw [hwr2]
  simp only [Option.bind_some]
  rw [hsu2]
  generalize (writeD E 0 b1).1 = z1 at *
  generalize hF : fenceD (writeD E 0 b1).2 = F at *
  simp only [Option.bind_some, e9, e10, decide_true, Bool.not_true, Bool.false_eq_true, if_false]
  have hlI : ∀ y ∈ l, I64 y := fun y hy => wf64.1 (hl.1 y hy)
  have hcr : pmem_Device_Crash.f FU F.2 l = some (crashD F.2 l) := crash_eq hd4 (by decide) hlI (by decide)
  have hdc : DevOk 8 20 (crashD F.2 l) := crash_ok hd4
  have hinc : inL (crashD F.2 l) 0 := by
    unfold inL
    rw [hdc.len]
    decide
  have hrd : press_Read.f FU (crashD F.2 l) 0 = some (octs (lineC (crashD F.2 l) 0), 0) := by
    rw [read_dev hdc (by decide) (by decide)]
    unfold readD
    rw [if_pos hinc]
    rfl
  rw [hcr]
  simp only [Option.bind_some]
  rw [hrd]
  have hcl : (lineC (crashD F.2 l) 0).length = 8 := by simp [lineC]
  have hol : (octs (lineC (crashD F.2 l) 0)).length = 64 := by rw [octs_len, hcl]
  simp only [Option.bind_some, hol, decide_true, Bool.not_true, Bool.false_eq_true, if_false]
  have hlen4 := hd4.len
  have hci : ∀ i : Nat, i < 8 → ix (lineC (crashD F.2 l) 0) (i : Int) = (cellA (crashD F.2 l) i).stored := by
    intro i hi
    rw [ix_nat (by omega)]
    simp only [lineC, List.getElem_map, List.getElem_range]
    rw [show 8 * (0 : Int) + (i : Int) = (i : Int) from by omega]
    rfl
  have hres : ∀ i : Nat, i < 8 → ix (lineC (crashD F.2 l) 0) (i : Int) = ix (wordsU b1 8) (i : Int) ∨ ix (lineC (crashD F.2 l) 0) (i : Int) = ix (wordsU b0 8) (i : Int) ∧ F.1 ≠ 0 := by
    intro i hi
    rw [hci i hi]
    by_cases hf : F.1 = 0
    · left
      exact (cell_crash (l := l) (by omega) (one hf i hi)).2.1
    · rcases (cell_crash (l := l) (by omega) (two i hi)).2.1 with h | h
      · exact .inr ⟨h, hf⟩
      · exact .inl h
  have hcut : ∀ (b : List Int) (hb : Bytes b) (hbl : b.length = 64) (i : Nat), i < 8 → cut b ((8 * i : Nat) : Int) ((8 * i + 8 : Nat) : Int) = lay (ix (wordsU b 8) (i : Int)).toNat 8 := by
    intro b hb hbl i hi
    rw [← octs_at _ (by rw [wordsU_len]; exact hi), octs_words8 hb hbl]
  have loop : ∀ (step : Int → Option (Sum (Sum Bool Unit) Int)), (∀ i : Nat, i < 8 → step ((8 * i : Nat) : Int) = some (.inr ((8 * (i + 1) : Nat) : Int))) → step 64 = some (.inl (.inr ())) → loopM step FU 0 = some (.inr ()) := by
    intro step h1 h2
    exact loopM_run (S := fun i => ((8 * i : Nat) : Int)) 8 rfl h1 h2 (by decide)
  rw [if_neg (by cases decide ((k : Int) ≥ 9) <;> cases decide ((k : Int) ≥ 10) <;> decide)]
  rw [loop]
  · rfl
  · intro i hi
    have w1 : IntKind.i64.wrap (((8 * i : Nat) : Int) + 8) = ((8 * i + 8 : Nat) : Int) := by rw [w64 (by omega) (by omega)]; omega
    have c64 : ((8 * i : Nat) : Int) < 64 := by omega
    simp only [w1, hl0, hl1, hol]
    rw [decide_eq_true c64, if_pos rfl, if_pos (by omega), if_pos (by omega), hcut b1 hb1 hl1 i hi, octs_at _ (by omega)]
    rcases hres i hi with h | ⟨h, hf⟩
    · rw [h, decide_eq_true rfl]
      rfl
    · by_cases h1 : (lay (ix (lineC (crashD F.2 l) 0) (i : Int)).toNat 8).map toB = (lay (ix (wordsU b1 8) (i : Int)).toNat 8).map toB
      · rw [decide_eq_true h1]
        rfl
      · rw [decide_eq_false h1, if_pos (by decide), if_pos (by omega), hcut b0 hb0 hl0 i hi, h, decide_eq_true rfl, if_neg (by decide), ← e10, decide_eq_false hf]
        rfl
  · rfl
end Go.Proofs.Ytklhbaghbmndeaa.Pure

/- The law PressTorn holds for every input: the row, out of the walk of the law's function and of its pure statement. Written by rows.py. -/
namespace Go.Proofs.Ytklhbaghbmndeaa.pressTorn
open Go.ChangeShapes Go.WideShapes Go.ChangeAt Go.RowKit
open Go.ChangeMaps (open_string shut_string)
open Go Go.Xw
set_option linter.unusedVariables false
theorem own : ownKnob Try.prog.godebug = none := Facts.own
theorem laidOut : laidOutB Try.prog = true := Facts.laid
theorem closed : joinedFacts Try.pinned.checked.prog 10 Try.f10 Rows.pressTornSpec Rows.pressTornRow = true := by
  unfold joinedFacts
  rw [Facts.enter, Facts.lifts, Facts.make, Facts.laid, Facts.rowed, Facts.plain, Facts.heard]
  kernel_rfl
theorem enc_seg {α : Type} (K : Kd α) (a : α) : K.enc a = cellsOf [Kd.seg K a] := by simp [cellsOf, Kd.seg]
def start : Input := ⟨#[], #[.agg #[.int .u8 0, .int .u8 0, .int .u8 0, .int .u8 0, .int .u8 0, .int .u8 0, .int .u8 0, .int .u8 0, .int .u8 0, .int .u8 0, .int .u8 0, .int .u8 0, .int .u8 0, .int .u8 0, .int .u8 0, .int .u8 0, .int .u8 0, .int .u8 0, .int .u8 0, .int .u8 0, .int .u8 0, .int .u8 0, .int .u8 0, .int .u8 0, .int .u8 0, .int .u8 0, .int .u8 0, .int .u8 0, .int .u8 0, .int .u8 0, .int .u8 0, .int .u8 0, .int .u8 0, .int .u8 0, .int .u8 0, .int .u8 0, .int .u8 0, .int .u8 0, .int .u8 0, .int .u8 0, .int .u8 0, .int .u8 0, .int .u8 0, .int .u8 0, .int .u8 0, .int .u8 0, .int .u8 0, .int .u8 0, .int .u8 0, .int .u8 0, .int .u8 0, .int .u8 0, .int .u8 0, .int .u8 0, .int .u8 0, .int .u8 0, .int .u8 0, .int .u8 0, .int .u8 0, .int .u8 0, .int .u8 0, .int .u8 0, .int .u8 0, .int .u8 0, .int .u8 0, .int .u8 0, .int .u8 0, .int .u8 0, .int .u8 0, .int .u8 0, .int .u8 0, .int .u8 0, .int .u8 0, .int .u8 0, .int .u8 0, .int .u8 0, .int .u8 0, .int .u8 0, .int .u8 0, .int .u8 0, .int .u8 0, .int .u8 0, .int .u8 0, .int .u8 0, .int .u8 0, .int .u8 0, .int .u8 0, .int .u8 0, .int .u8 0, .int .u8 0, .int .u8 0, .int .u8 0, .int .u8 0, .int .u8 0, .int .u8 0, .int .u8 0, .int .u8 0, .int .u8 0, .int .u8 0, .int .u8 0, .int .u8 0, .int .u8 0, .int .u8 0, .int .u8 0, .int .u8 0, .int .u8 0, .int .u8 0, .int .u8 0, .int .u8 0, .int .u8 0, .int .u8 0, .int .u8 0, .int .u8 0, .int .u8 0, .int .u8 0, .int .u8 0, .int .u8 0, .int .u8 0, .int .u8 0, .int .u8 0, .int .u8 0, .int .u8 0, .int .u8 0, .int .u8 0, .int .u8 0, .int .u8 0, .int .u8 0, .int .u8 0], .int .u8 0, .slice none 0 0], []⟩
set_option maxRecDepth 100000 in
set_option maxHeartbeats 1000000 in
theorem lifted (os : Os) (started : os.Started) (H : Type) (enc : TypeId × Value → H) :
    ReturnsInHanded {} Try.checked os 10 .any (Rows.pressTornSpec.pre6 enc Try.prog Try.f10 Rows.pressTornRow.domain false) (Rows.pressTornSpec.post enc Try.prog Try.f10 false true false false) := by
  refine returnsInHanded_of_change_sized (C := Try.checked) own started (by kernel_rfl) Try.func10
    (ChangeSpec.witness6 (enc := enc) (C := Try.checked) false start 8 (by kernel_rfl) (by kernel_rfl) (by kernel_rfl) (by kernel_rfl)) ?_
  intro W base args ds gs before hval0 hW hcnd hsz0 _
  have hval : ∀ (j : Nat) t v, Try.f10.params[j]? = some t → args[j]? = some v → Value.okWide Try.prog W .any base t v := hval0
  have hW' := hW
  obtain ⟨p, q, hA0, hV, rfl, hfz, hnd⟩ := hW
  have hA : DataW.TrodAll enc Try.prog W 0 (fun _ => true) true Try.f10.params.toList args.toList ds p := hA0
  rw [Try.params10] at hA hval
  obtain ⟨v0, vs0, d0, ds0, p0, q0, hargs, rfl, rfl, h0, r0⟩ := trodAll_cons hA
  obtain ⟨v1, vs1, d1, ds1, p1, q1, rfl, rfl, rfl, h1, r1⟩ := trodAll_cons r0
  obtain ⟨v2, vs2, d2, ds2, p2, q2, rfl, rfl, rfl, h2, r2⟩ := trodAll_cons r1
  obtain ⟨rfl, rfl, rfl⟩ := trodAll_nil r2
  obtain rfl : args = #[v0, v1, v2] := by cases args; simp_all
  obtain ⟨rfl, rfl⟩ := trodVars_none hV
  have k0 := h0
  have lt0 : ∀ x ∈ p0, x.block < W.heap.size := by obtain ⟨m, hm⟩ := k0; exact DataW.trod_lt m _ _ _ hm
  obtain ⟨fu0, hf0⟩ := h0
  obtain ⟨a0, e0, o0⟩ := (opn_arr Try.underlying72 (by kernel_rfl) (by kernel_rfl) (opn_arr Try.underlying71 (by kernel_rfl) (by kernel_rfl) (opn_int Try.underlying5))) enc _ _ _ _ _ _ hf0
  obtain rfl := agg_of (by kernel_rfl) (hval 0 72 v0 rfl rfl) (e0.trans (enc_seg _ _))
  obtain ⟨a1, rfl, rfl, rfl, w1⟩ := open_int Try.underlying5 (hval 1 5 v1 rfl rfl) h1
  have k2 := h2
  have lt2 : ∀ x ∈ p2, x.block < W.heap.size := by obtain ⟨m, hm⟩ := k2; exact DataW.trod_lt m _ _ _ hm
  obtain ⟨fu2, hf2⟩ := h2
  obtain ⟨aa2, len2, cap2, rfl⟩ := okWide_slice Try.underlying25 (hval 2 25 v2 rfl rfl)
  obtain ⟨a2, V2_0, e2, R2_0, o2, l2, _⟩ := (opn_slice (K := (kI .i64)) Try.underlying25 (by kernel_rfl) (by decide) (opn_int Try.underlying3)) enc _ _ _ _ _ _ hf2
  obtain rfl : Value.slice aa2 len2 cap2 = V2_0 := by simpa [Value.cells] using e2
  obtain ⟨fu, hfu⟩ := Pure.PressTorn a0 a1 a2 o0 w1 ⟨o2, l2⟩
  refine Calls.mono (rickyardlaw15_PressTorn.ok fu W a0 a1 a2 _ R2_0 true hfu) fun e W' hr => ?_
  obtain ⟨v, rfl, rfl, gr⟩ := hr
  have bel := Fr.below gr
  exact ⟨_, rfl, _, _, _, [], _, [], hW', trodAll_mk1 (shut_bool Try.underlying4 _), (trodAll_cons_mk (Below.trod laidOut (by kernel_rfl) (of_decide_eq_true (by kernel_rfl)) k0 bel lt0) (trodAll_cons_mk (shut_int Try.underlying5 w1) (trodAll_cons_mk (Below.trod laidOut (by kernel_rfl) (of_decide_eq_true (by kernel_rfl)) k2 bel lt2) trodAll_mk0))), rfl, bel.frame _, fun h => by cases h⟩
theorem over : Rows.pressTornRow.holds Try.pinned (OpenSpec.ofChange Rows.pressTornSpec) :=
  OpenClaim.holds_of_wide 10 Try.f10 rfl rfl rfl rfl rfl rfl rfl ⟨rfl, rfl, rfl, rfl, rfl⟩ rfl rfl rfl rfl rfl (by kernel_rfl) Try.func10 closed
    (of_decide_eq_true (by kernel_rfl)) (by unfold Func.isWrapper; first | (rw [if_pos (by decide +kernel)]; kernel_rfl) | (rw [if_neg (by decide +kernel)]; exact ⟨rfl, rfl⟩))
    (fun os started H enc _ => lifted os started H enc)
theorem proved : Rows.PressTornSaid := over
end Go.Proofs.Ytklhbaghbmndeaa.pressTorn
namespace Go.Proofs.Ytklhbaghbmndeaa
/-- The law holds. -/
theorem pressTorn_holds : Rows.PressTornSaid := pressTorn.proved
#print axioms pressTorn_holds
end Go.Proofs.Ytklhbaghbmndeaa
