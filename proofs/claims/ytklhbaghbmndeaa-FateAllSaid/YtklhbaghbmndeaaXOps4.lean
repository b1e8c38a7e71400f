/- The words of the walks: copies, arrays' elements, literals, joins of ways, rounds, regions whose order is open, results in memory. -/
import Derived.Test.YtklhbaghbmndeaaXOps3
set_option linter.unusedVariables false
set_option linter.unusedSimpArgs false
namespace Go.Xw
open Go

/-! ### 1. Joins and rounds -/
theorem cw_mid {P : Program} {n : Nat} {c : Code} {Q : Exit → Env → World → Prop} {ρ : Env} {w : World} (M : Env → World → Prop) (h : CW P n c (thn M Q) ρ w) (hk : ∀ ρ w, M ρ w → Q .normal ρ w) : CW P n c Q ρ w :=
  cw_mono h (by intro e ρ w q; cases e <;> first | exact hk _ _ q | exact q)
theorem thn_i {M : Env → World → Prop} {Q : Exit → Env → World → Prop} {ρ : Env} {w : World} (h : M ρ w) : thn M Q .normal ρ w := h
def lp {σ ε : Type} (e : ε) (I : σ → Env → World → Prop) (Q : Exit → Env → World → Prop) (x : Sum ε σ) : Exit → Env → World → Prop := fun ex ρ w => match x with
  | .inr s' => ex = .normal ∧ I s' ρ w
  | .inl e' => ex ≠ .normal ∧ (e' = e → Q ex ρ w)
theorem lp_in {σ ε : Type} {e : ε} {I : σ → Env → World → Prop} {Q : Exit → Env → World → Prop} {s' : σ} {ρ : Env} {w : World} (h : I s' ρ w) : lp e I Q (.inr s') .normal ρ w := ⟨rfl, h⟩
theorem lp_exit {σ ε : Type} {e e' : ε} {I : σ → Env → World → Prop} {Q : Exit → Env → World → Prop} {id : Nat} {ρ : Env} {w : World} (h : e' = e → Q (.exit id) ρ w) : lp e I Q (.inl e') (.exit id) ρ w := ⟨by simp, h⟩
theorem lp_ret {σ ε : Type} {e e' : ε} {I : σ → Env → World → Prop} {Q : Exit → Env → World → Prop} {ρ : Env} {w : World} (h : e' = e → Q .ret ρ w) : lp e I Q (.inl e') .ret ρ w := ⟨by simp, h⟩
theorem cw_round {P : Program} {n : Nat} {c : Code} {Q : Exit → Env → World → Prop} {σ ε : Type} {step : σ → Option (Sum ε σ)} (I : σ → Env → World → Prop)
    {e : ε} {k : Nat} {s : σ} {ρ : Env} {w : World} (h : loopM step k s = some e) (hI : I s ρ w)
    (hs : ∀ s x ρ w, I s ρ w → step s = some x → CW P n c (lp e I Q x) ρ w) : CW P n (.loop c) Q ρ w :=
  cw_loop I h hI (fun s s' ρ w hi hst => hs s _ ρ w hi hst) (fun s ρ w hi hst => cw_mono (hs s _ ρ w hi hst) fun ex ρ w q => ⟨q.1, q.2 rfl⟩)

theorem bs {α β : Type} {x : Option α} {f : α → Option β} {r : β} (h : x.bind f = some r) : ∃ a, x = some a ∧ f a = some r := by
  cases x with
  | none => simp at h
  | some a => exact ⟨a, rfl, h⟩
theorem gs {β : Type} {c : Prop} [Decidable c] {x : Option β} {r : β} (h : (if c then x else none) = some r) : c ∧ x = some r := by
  by_cases hc : c
  · rw [if_pos hc] at h; exact ⟨hc, h⟩
  · rw [if_neg hc] at h; simp at h
theorem is {β : Type} {b : Bool} {x y : Option β} {r : β} (h : (if b = true then x else y) = some r) : b = true ∧ x = some r ∨ b = false ∧ y = some r := by
  cases b
  · exact .inr ⟨rfl, by simpa using h⟩
  · exact .inl ⟨rfl, by simpa using h⟩
def lt {α β : Type} (e : α) (f : α → Option β) : Option β := f e
theorem ls {α β : Type} {e : α} {f : α → Option β} {r : β} (h : lt e f = some r) : ∃ x, x = e ∧ f x = some r := ⟨e, rfl, h⟩

/-! ### 2. Regions whose order is open -/
def dstAt (l : List Oper) (k : Nat) : Option Tmp := (l[k]?).bind (·.dst)
def aftB (l : List Oper) (i j : Nat) : Bool := match l[i]? with
  | some o => o.after.toList.any fun e => Region.binds .any e && Nat.beq e.on j
  | none => false
/-- Slot t is, when operation i comes up, what it was at the region's begin: whoever of the first n writes it comes behind i. -/
def keepB (l : List Oper) (n i t : Nat) : Bool := (List.range n).all fun k => dstAt l k != some t || aftB l k i
/-- The operations from n on come each behind all others ahead of it; edges lead back; the first n write each a slot of its own. -/
def drawB (l : List Oper) (n N : Nat) : Bool :=
  Nat.ble n l.length &&
  ((List.range l.length).all fun k => Nat.blt k n || (List.range k).all fun j => (List.range (k + 1)).any fun i => Nat.blt j i && aftB l i j) &&
  ((List.range l.length).all fun k => match l[k]? with
    | some o => o.after.toList.all fun e => !Region.binds .any e || Nat.blt e.on k
    | none => false) &&
  ((List.range n).all fun k => match dstAt l k with
    | some d => Nat.blt d N && (List.range n).all fun j => Nat.beq j k || dstAt l j != some d
    | none => false)
theorem blt_iff {a b : Nat} : Nat.blt a b = true ↔ a < b := by rw [Nat.blt_eq]
theorem countP_lt {l : List Nat} {p q : Nat → Bool} (h : ∀ x ∈ l, p x = true → q x = true) {a : Nat} (ha : a ∈ l) (hp : p a = false) (hq : q a = true) : l.countP p < l.countP q := by
  induction l with
  | nil => simp at ha
  | cons x l ih =>
    simp only [List.countP_cons]
    rcases List.mem_cons.1 ha with rfl | ha'
    · have := List.countP_mono_left (p := p) (q := q) (l := l) fun x hx => h x (by simp [hx])
      simp [hp, hq]
      omega
    · have := ih (fun x hx => h x (by simp [hx])) ha'
      have hx := h x (by simp)
      cases hpx : p x
      · cases q x <;> simp <;> omega
      · simp [hx hpx]
        omega
def StepOk (P : Program) (ops : Array Oper) (o : Oper) (R : Value → World → Prop) (ρ : Env) (w : World) : Prop :=
  ((o.guard = none ∨ ∃ j want t, o.guard = some (j, want) ∧ (ops[j]?).bind (·.dst) = some t ∧ ρ t = .bool want) ∧ OpV P o ρ w R) ∨
  ((∃ j want t, o.guard = some (j, want) ∧ (ops[j]?).bind (·.dst) = some t ∧ (ρ t = .bool (!want) ∨ ρ t = undef)) ∧ R undef w)
theorem StepOk.wpOp {P : Program} {n i : Nat} {ops : Array Oper} {o : Oper} {R : Value → World → Prop} {ρ : Env} {w : World} (h : StepOk P ops o R ρ w) (ho : ops[i]? = some o) {a : Act} (ha : Fits n a ρ) {K : Act → World → Prop} {Q : Exit → Act → World → Prop}
    (hk : ∀ v w', R v w' → K (a.put o.dst v) w') : wpOp P ops Q i K a w := by
  unfold Go.wpOp
  rw [ho]
  rcases h with ⟨hg, hv⟩ | ⟨⟨j, want, t, hg, hj, ht⟩, hr⟩
  · have hw : Region.wanted o (yielded ops a.tmps) = true := by
      rcases hg with hg | ⟨j, want, t, hg, hj, ht⟩
      · simp [Region.wanted, hg]
      · simp [Region.wanted, hg, yielded_of ha hj ht]
    simp only [hw, if_true]
    exact .inl (hv.wp ha.eval hk)
  · have hw : Region.wanted o (yielded ops a.tmps) = false := by
      rcases ht with ht | ht
      · simp [Region.wanted, hg, yielded_of ha hj ht]
      · have hy : yielded ops a.tmps j = none := by
          have h1 : a.tmps.getD t undef = undef := by rw [ha.e, ht]
          cases h3 : a.tmps[t]? with
          | none => simp [yielded, hj, h3]
          | some x =>
            rw [Array.getD_eq_getD_getElem?, h3] at h1
            obtain rfl : x = undef := h1
            simp [yielded, hj, h3, undef]
        simp [Region.wanted, hg, hy]
    simp only [hw]
    exact hk _ _ hr

section
variable {P : Program} {N n : Nat} {l : List Oper} {Q : Exit → Env → World → Prop}
theorem ready_iff {listed : Array Bool} (hs : listed.size = l.length) {i : Nat} (h : i ∈ Region.ready .any l.toArray listed) : i < l.length ∧ listed.getD i true = false ∧ ∀ j, aftB l i j = true → listed.getD j false = true := by
  simp only [Region.ready, List.mem_filter, List.mem_range, List.size_toArray, Bool.and_eq_true, Bool.not_eq_true'] at h
  obtain ⟨h1, h2, h3⟩ := h
  refine ⟨h1, h2, fun j hj => ?_⟩
  simp only [List.getElem?_toArray, List.getElem?_eq_getElem h1, Option.map_some, Option.getD_some, Array.all_eq_true] at h3
  simp only [aftB, List.getElem?_eq_getElem h1, Array.any_toList, Array.any_eq_true] at hj
  obtain ⟨k, hk, hb⟩ := hj
  simp only [Bool.and_eq_true] at hb
  have := h3 k hk
  rw [hb.1] at this
  have e := Nat.eq_of_beq_eq_true hb.2
  rw [e] at this
  simpa using this
theorem ready_of {listed : Array Bool} {i : Nat} (hi : i < l.length) (hl : listed.getD i true = false) (ha : ∀ o, l[i]? = some o → ∀ e ∈ o.after.toList, Region.binds .any e = true → listed.getD e.on false = true) : i ∈ Region.ready .any l.toArray listed := by
  simp only [Region.ready, List.mem_filter, List.mem_range, List.size_toArray, Bool.and_eq_true, Bool.not_eq_true']
  refine ⟨hi, hl, ?_⟩
  simp only [List.getElem?_toArray, List.getElem?_eq_getElem hi, Option.map_some, Option.getD_some, Array.all_eq_true]
  intro k hk
  cases hbd : Region.binds .any (l[i]).after[k]
  · rfl
  · rw [ha _ (List.getElem?_eq_getElem hi) _ (Array.getElem_mem_toList hk) hbd]
    simp
theorem getD_set {listed : Array Bool} {i j : Nat} (hi : i < listed.size) : (listed.setIfInBounds i true).getD j false = (Nat.beq j i || listed.getD j false) := by
  by_cases e : j = i
  · subst e
    simp [Array.getD_eq_getD_getElem?, hi]
  · have : Nat.beq j i = false := by
      cases hb : Nat.beq j i
      · rfl
      · exact absurd (Nat.eq_of_beq_eq_true hb) e
    simp [Array.getD_eq_getD_getElem?, Array.getElem?_setIfInBounds, Ne.symm e, this]
theorem getD_tf {listed : Array Bool} {i : Nat} (hi : i < listed.size) : listed.getD i true = listed.getD i false := by
  simp [Array.getD, hi]
theorem all_before {listed : Array Bool} (hcl : ∀ k, listed.getD k false = true → ∀ j, aftB l k j = true → listed.getD j false = true) {i : Nat} (hp : ∀ j, aftB l i j = true → listed.getD j false = true)
    (ht : ((List.range i).all fun j => (List.range (i + 1)).any fun k => Nat.blt j k && aftB l k j) = true) : ∀ d j, i - j ≤ d → j < i → listed.getD j false = true
  | 0, j, hd, hj => by omega
  | d + 1, j, hd, hj => by
    obtain ⟨k, hk, hk2⟩ := List.any_eq_true.1 (List.all_eq_true.1 ht j (List.mem_range.2 hj))
    have hk' := List.mem_range.1 hk
    rw [Bool.and_eq_true] at hk2
    have hjk := blt_iff.1 hk2.1
    by_cases e : k = i
    · subst e
      exact hp j hk2.2
    · exact hcl k (all_before hcl hp ht d k (by omega) (by omega)) j hk2.2
/-- The forced tail. -/
theorem tail_any (hB : drawB l n N = true) {Q' : Exit → Act → World → Prop} : ∀ (fuel p : Nat) (listed : Array Bool) (a : Act) (w : World), n ≤ p → p ≤ l.length → listed.size = l.length → (∀ k, k < l.length → listed.getD k false = Nat.blt k p) → l.length - p ≤ fuel →
    wpList P l.toArray Q' (l.drop p) a w → wpAny P .any l.toArray Q' fuel listed a w := by
  simp only [drawB, Bool.and_eq_true] at hB
  obtain ⟨⟨⟨_, htail⟩, hback⟩, _⟩ := hB
  have hready : ∀ (p : Nat) (listed : Array Bool), n ≤ p → listed.size = l.length → (∀ k, k < l.length → listed.getD k false = Nat.blt k p) → ∀ i ∈ Region.ready .any l.toArray listed, i = p := by
    intro p listed hnp hsz hl i hi
    obtain ⟨h1, h2, h3⟩ := ready_iff hsz hi
    rw [getD_tf (by omega), hl i h1] at h2
    have hpi : p ≤ i := by
      rcases Nat.lt_or_ge i p with h | h
      · rw [blt_iff.2 h] at h2; simp at h2
      · exact h
    rcases Nat.lt_or_ge p i with h | h
    · exfalso
      have ht := List.all_eq_true.1 htail i (List.mem_range.2 h1)
      have : Nat.blt i n = false := by
        cases hb : Nat.blt i n
        · rfl
        · have := blt_iff.1 hb; omega
      rw [this, Bool.false_or] at ht
      have := all_before (listed := listed) (fun k hk j hj => by
        have hkl : k < l.length := by
          rcases Nat.lt_or_ge k l.length with h | h
          · exact h
          · rw [Array.getD_eq_getD_getElem?, Array.getElem?_eq_none (by omega)] at hk; simp at hk
        have hb := List.all_eq_true.1 hback k (List.mem_range.2 hkl)
        rw [List.getElem?_eq_getElem hkl] at hb
        simp only [aftB, List.getElem?_eq_getElem hkl] at hj
        obtain ⟨e, he, he2⟩ := List.any_eq_true.1 hj
        rw [Bool.and_eq_true] at he2
        have hq := List.all_eq_true.1 hb e he
        rw [he2.1, Nat.eq_of_beq_eq_true he2.2] at hq
        have hjk := blt_iff.1 hq
        have h2 := hl k hkl
        rw [hk] at h2
        have h4 := blt_iff.1 h2.symm
        rw [hl j (by omega)]
        exact blt_iff.2 (by omega)) h3 ht i p (by omega) h
      rw [hl p (by omega)] at this
      have := blt_iff.1 this
      omega
    · omega
  intro fuel
  induction fuel with
  | zero =>
    intro p listed a w hnp hpl hsz hl hf h
    have hp : p = l.length := by omega
    subst hp
    refine ⟨?_, by simpa [wpList] using h⟩
    apply List.eq_nil_iff_forall_not_mem.2
    intro i hi
    have := hready l.length listed hnp hsz hl i hi
    have := (ready_iff hsz hi).1
    omega
  | succ fuel ih =>
    intro p listed a w hnp hpl hsz hl hf h
    refine ⟨fun hr => ?_, fun i hi => ?_⟩
    · by_cases hp : p = l.length
      · subst hp
        simpa [wpList] using h
      · exfalso
        have hpl' : p < l.length := by omega
        have : p ∈ Region.ready .any l.toArray listed := by
          refine ready_of hpl' ?_ ?_
          · rw [getD_tf (by omega), hl p hpl']
            cases hb : Nat.blt p p
            · rfl
            · have := blt_iff.1 hb; omega
          · intro o ho e he hbd
            have hb := List.all_eq_true.1 hback p (List.mem_range.2 hpl')
            rw [ho] at hb
            have hlt : e.on < p := by
              have := List.all_eq_true.1 hb e he
              rw [hbd] at this
              exact blt_iff.1 this
            rw [hl e.on (by omega)]
            exact blt_iff.2 hlt
        rw [hr] at this
        simp at this
    · obtain rfl := hready p listed hnp hsz hl i hi
      have hil : i < l.length := (ready_iff hsz hi).1
      rw [List.drop_eq_getElem_cons hil] at h
      unfold Go.wpOp
      have ho : l.toArray[i]? = some l[i] := by simp [hil]
      rw [ho]
      have hK : ∀ a w, wpList P l.toArray Q' (l.drop (i + 1)) a w → wpAny P .any l.toArray Q' fuel (listed.setIfInBounds i true) a w := by
        intro a w hh
        refine ih (i + 1) _ a w (by omega) hil (by simpa using hsz) (fun k hk => ?_) (by omega) hh
        rw [getD_set (by omega), hl k hk]
        by_cases e : k = i
        · subst e
          rw [blt_iff.2 (Nat.lt_succ_self k), Nat.beq_refl]
          rfl
        · have : Nat.beq k i = false := by
            cases hb : Nat.beq k i
            · rfl
            · exact absurd (Nat.eq_of_beq_eq_true hb) e
          rw [this, Bool.false_or, Bool.eq_iff_iff, Nat.blt_eq, Nat.blt_eq]
          omega
      simp only [wpList] at h
      split at h
      · rename_i hw
        simp only [hw, if_true]
        exact h.imp (Oper.wp_mono hK) id
      · rename_i hw
        simp only [hw]
        exact hK _ _ h
theorem cw_drawG {id : Nat} (n : Nat) (G : Nat → Value → World → Prop) (Inv : (Nat → Bool) → World → Prop) {ρ0 : Env} {w0 : World} (hm : P.follows .mixedOrders = true) (hB : drawB l n N = true)
    (h0 : Inv (fun _ => false) { w0 with drawn := w0.drawn + 1 })
    (step : ∀ i, i < n → ∀ o, l[i]? = some o → ∀ (dn : Nat → Bool) ρ w, dn i = false → (∀ k, dn k = true → ∀ j, aftB l k j = true → dn j = true) → Inv dn w → (∀ t, keepB l n i t = true → ρ t = ρ0 t) → (∀ j, aftB l i j = true → ∀ d, dstAt l j = some d → G j (ρ d) w) → StepOk P l.toArray o (fun v w' => G i v w' ∧ Inv (fun k => Nat.beq k i || dn k) w' ∧ ∀ k v', k < n → k ≠ i → dn k = true → G k v' w → G k v' w') ρ w)
    (tail : ∀ ρ w (dn : Nat → Bool), (∀ k, k < n → dn k = true) → Inv dn w → (∀ t, ((List.range n).all fun k => dstAt l k != some t) = true → ρ t = ρ0 t) → (∀ j, j < n → ∀ d, dstAt l j = some d → G j (ρ d) w) → OL P N l.toArray Q (l.drop n) ρ w) :
    CW P N (.region id l.toArray true) Q ρ0 w0 := by
  intro a ha
  refine wp_region_any hm ?_
  have hB' := hB
  simp only [drawB, Bool.and_eq_true] at hB'
  obtain ⟨⟨⟨hnl, htail⟩, hback⟩, hd⟩ := hB'
  have hnl' : n ≤ l.length := Nat.le_of_ble_eq_true hnl
  have key : ∀ (fuel : Nat) (listed : Array Bool) (a : Act) (ρ : Env) (w : World), Fits N a ρ → listed.size = l.length → (List.range l.length).countP (fun k => !listed.getD k false) ≤ fuel → (∀ k, k < l.length → listed.getD k false = true → k < n) → (∀ k, listed.getD k false = true → ∀ j, aftB l k j = true → listed.getD j false = true) → Inv (fun k => listed.getD k false) w →
      (∀ t, (∀ k, k < n → listed.getD k false = true → dstAt l k ≠ some t) → ρ t = ρ0 t) → (∀ k, k < n → listed.getD k false = true → ∀ d, dstAt l k = some d → G k (ρ d) w) → wpAny P .any l.toArray (lift N Q) fuel listed a w := by
    intro fuel
    induction fuel with
    | zero =>
      intro listed a ρ w hf hsz hc hln hcl hgr hkeep hG
      have hall : ∀ k, k < l.length → listed.getD k false = true := by
        intro k hk
        have h0 : (List.range l.length).countP (fun k => !listed.getD k false) = 0 := by omega
        have := List.countP_eq_zero.1 h0 k (List.mem_range.2 hk)
        simpa using this
      have hn : n = l.length := by
        rcases Nat.lt_or_ge n l.length with h | h
        · have := hln n h (hall n h); omega
        · omega
      refine tail_any hB 0 n listed a w (Nat.le_refl _) hnl' hsz (fun k hk => ?_) (by omega) ?_
      · rw [hall k hk]; exact (blt_iff.2 (by omega)).symm
      · exact tail ρ w _ (fun k hk => hall k (by omega)) hgr (fun t ht => hkeep t fun k hk _ e => by
          have := List.all_eq_true.1 ht k (List.mem_range.2 hk)
          rw [e] at this
          simp at this) (fun j hj d he => hG j hj (hall j (by omega)) d he) a hf
    | succ fuel ih =>
      intro listed a ρ w hf hsz hc hln hcl hgr hkeep hG
      by_cases hall : ∀ k, k < n → listed.getD k false = true
      · refine tail_any hB (fuel + 1) n listed a w (Nat.le_refl _) hnl' hsz (fun k hk => ?_) ?_ ?_
        · rw [Bool.eq_iff_iff, Nat.blt_eq]
          exact ⟨hln k hk, hall k⟩
        · have : (List.range l.length).countP (fun k => !listed.getD k false) = l.length - n := by
            have e : (List.range l.length).countP (fun k => !listed.getD k false) = (List.range l.length).countP (fun k => !Nat.blt k n) := by
              apply List.countP_congr
              intro k hk
              have hk' := List.mem_range.1 hk
              have : listed.getD k false = Nat.blt k n := by
                rw [Bool.eq_iff_iff, Nat.blt_eq]
                exact ⟨hln k hk', hall k⟩
              rw [this]
            rw [e]
            have hsplit : l.length = n + (l.length - n) := by omega
            rw [hsplit, List.range_add, List.countP_append]
            have h1 : (List.range n).countP (fun k => !Nat.blt k n) = 0 := by
              apply List.countP_eq_zero.2
              intro k hk
              have := blt_iff.2 (List.mem_range.1 hk)
              simp [this]
            have h2 : ((List.range (l.length - n)).map (n + ·)).countP (fun k => !Nat.blt k n) = l.length - n := by
              rw [List.countP_eq_length.2]
              · simp
              · intro k hk
                obtain ⟨q, _, rfl⟩ := List.mem_map.1 hk
                cases hb : Nat.blt (n + q) n
                · rfl
                · have := blt_iff.1 hb; omega
            rw [h1, h2]
            omega
          omega
        · exact tail ρ w _ hall hgr (fun t ht => hkeep t fun k hk _ e => by
            have := List.all_eq_true.1 ht k (List.mem_range.2 hk)
            rw [e] at this
            simp at this) (fun j hj d he => hG j hj (hall j hj) d he) a hf
      · refine ⟨fun hr => ?_, fun i hi => ?_⟩
        · exfalso
          have hex : ∃ k, k < l.length ∧ listed.getD k false = false := by
            apply Classical.byContradiction
            intro hne
            apply hall
            intro k hk
            cases hb : listed.getD k false
            · exact absurd ⟨k, by omega, hb⟩ hne
            · rfl
          obtain ⟨i, ⟨hil, hif⟩, hmin⟩ : ∃ i, (i < l.length ∧ listed.getD i false = false) ∧ ∀ j, j < i → ¬ (j < l.length ∧ listed.getD j false = false) := by
            obtain ⟨k, hk⟩ := hex
            have : ∀ m k, k ≤ m → (k < l.length ∧ listed.getD k false = false) → ∃ i, (i < l.length ∧ listed.getD i false = false) ∧ ∀ j, j < i → ¬ (j < l.length ∧ listed.getD j false = false) := by
              intro m
              induction m with
              | zero => intro k hk h; exact ⟨k, h, fun j hj => by omega⟩
              | succ m ihm =>
                intro k hk h
                by_cases hx : ∃ j, j < k ∧ (j < l.length ∧ listed.getD j false = false)
                · obtain ⟨j, hj, hjj⟩ := hx
                  exact ihm j (by omega) hjj
                · exact ⟨k, h, fun j hj hjj => hx ⟨j, hj, hjj⟩⟩
            exact this k k (Nat.le_refl _) hk
          have : i ∈ Region.ready .any l.toArray listed := by
            refine ready_of hil (by rw [getD_tf (by omega)]; exact hif) ?_
            intro o ho e he hbd
            have hb := List.all_eq_true.1 hback i (List.mem_range.2 hil)
            rw [ho] at hb
            have hlt : e.on < i := by
              have := List.all_eq_true.1 hb e he
              rw [hbd] at this
              exact blt_iff.1 this
            cases hb2 : listed.getD e.on false
            · exact absurd ⟨by omega, hb2⟩ (hmin e.on hlt)
            · rfl
          rw [hr] at this
          simp at this
        · obtain ⟨hil, hif, hprev⟩ := ready_iff hsz hi
          rw [getD_tf (by omega)] at hif
          have hin : i < n := by
            rcases Nat.lt_or_ge i n with h | h
            · exact h
            · exfalso
              apply hall
              intro k hk
              have ht := List.all_eq_true.1 htail i (List.mem_range.2 hil)
              have : Nat.blt i n = false := by
                cases hb : Nat.blt i n
                · rfl
                · have := blt_iff.1 hb; omega
              rw [this, Bool.false_or] at ht
              exact all_before hcl hprev ht i k (by omega) (by omega)
          have ho : l[i]? = some l[i] := List.getElem?_eq_getElem hil
          have hdi := List.all_eq_true.1 hd i (List.mem_range.2 hin)
          cases hdst : dstAt l i with
          | none => rw [hdst] at hdi; simp at hdi
          | some d =>
            rw [hdst] at hdi
            simp only [Bool.and_eq_true] at hdi
            have hod : l[i].dst = some d := by simpa [dstAt, ho] using hdst
            have hother : ∀ j, j < n → j ≠ i → dstAt l j ≠ some d := by
              intro j hj hne e
              have := List.all_eq_true.1 hdi.2 j (List.mem_range.2 hj)
              rw [e] at this
              have hb : Nat.beq j i = false := by
                cases hb : Nat.beq j i
                · rfl
                · exact absurd (Nat.eq_of_beq_eq_true hb) hne
              rw [hb] at this
              simp at this
            have hst := step i hin l[i] ho _ ρ w hif hcl hgr (fun t ht => hkeep t fun k hk hlk e => by
              have := List.all_eq_true.1 ht k (List.mem_range.2 hk)
              rw [e] at this
              simp only [bne_self_eq_false, Bool.false_or] at this
              -- k comes behind i, and is listed: then i is
              have hli := hcl k hlk i this
              rw [hli] at hif
              simp at hif) (fun j hj dj hdj => by
              have hlj := hprev j hj
              have hjl : j < l.length := by
                rcases Nat.lt_or_ge j l.length with h | h
                · exact h
                · rw [Array.getD_eq_getD_getElem?, Array.getElem?_eq_none (by omega)] at hlj; simp at hlj
              exact hG j (hln j hjl hlj) hlj dj hdj)
            refine hst.wpOp (n := N) (by simp [hil]) hf ?_
            rintro v w' ⟨hGv, hinv', hkeepG⟩
            have hinv : Inv (fun k => (listed.setIfInBounds i true).getD k false) w' := by
              rw [show (fun k => (listed.setIfInBounds i true).getD k false) = fun k => (Nat.beq k i || listed.getD k false) from funext fun k => getD_set (by omega)]
              exact hinv'
            rw [hod]
            refine ih _ _ (upd ρ d v) w' (hf.put hdi.1 v) (by simpa using hsz) ?_ ?_ ?_ hinv ?_ ?_
            · have := countP_lt (l := List.range l.length) (p := fun k => !(listed.setIfInBounds i true).getD k false) (q := fun k => !listed.getD k false) (fun k hk h => by
                rw [getD_set (by omega)] at h
                cases hx : listed.getD k false
                · rfl
                · rw [hx] at h; simp at h) (List.mem_range.2 hil) (by rw [getD_set (by omega)]; simp) (by rw [hif]; rfl)
              omega
            · intro k hk hlk
              rw [getD_set (by omega)] at hlk
              by_cases e : k = i
              · omega
              · have hb : Nat.beq k i = false := by
                  cases hb : Nat.beq k i
                  · rfl
                  · exact absurd (Nat.eq_of_beq_eq_true hb) e
                rw [hb, Bool.false_or] at hlk
                exact hln k hk hlk
            · intro k hlk j hj
              rw [getD_set (by omega)] at hlk ⊢
              by_cases e : k = i
              · subst e
                rw [hprev j hj]
                simp
              · have hb : Nat.beq k i = false := by
                  cases hb : Nat.beq k i
                  · rfl
                  · exact absurd (Nat.eq_of_beq_eq_true hb) e
                rw [hb, Bool.false_or] at hlk
                rw [hcl k hlk j hj]
                simp
            · intro t ht
              have htd : t ≠ d := by
                intro e
                exact ht i hin (by rw [getD_set (by omega)]; simp) (by rw [hdst, e])
              have hb : Nat.beq t d = false := by
                cases hb : Nat.beq t d
                · rfl
                · exact absurd (Nat.eq_of_beq_eq_true hb) htd
              rw [upd, hb, cond_false]
              exact hkeep t fun k hk hlk => ht k hk (by rw [getD_set (by omega), hlk]; simp)
            · intro k hk hlk dk hdk
              rw [getD_set (by omega)] at hlk
              by_cases e : k = i
              · subst e
                rw [hdst] at hdk
                obtain rfl := Option.some.inj hdk
                rw [upd, Nat.beq_refl, cond_true]
                exact hGv
              · have hb : Nat.beq k i = false := by
                  cases hb : Nat.beq k i
                  · rfl
                  · exact absurd (Nat.eq_of_beq_eq_true hb) e
                rw [hb, Bool.false_or] at hlk
                have hne : dk ≠ d := fun e2 => hother k hk e (by rw [hdk, e2])
                have hb2 : Nat.beq dk d = false := by
                  cases hb : Nat.beq dk d
                  · rfl
                  · exact absurd (Nat.eq_of_beq_eq_true hb) hne
                rw [upd, hb2, cond_false]
                exact hkeepG k _ hk e hlk (hG k hk hlk dk hdk)
  have hempty : ∀ k, (Array.replicate l.toArray.size false).getD k false = false := fun k => by rw [Array.getD_eq_getD_getElem?, Array.getElem?_replicate]; split <;> rfl
  refine key l.toArray.size _ a ρ0 _ ha (by simp) ?_ ?_ ?_ (by rw [show (fun k => (Array.replicate l.toArray.size false).getD k false) = fun _ => false from funext hempty]; exact h0) ?_ ?_
  · exact Nat.le_trans (List.countP_le_length) (by simp)
  · intro k _ h; rw [hempty] at h; simp at h
  · intro k h; rw [hempty] at h; simp at h
  · intro t _; rfl
  · intro k _ h; rw [hempty] at h; simp at h
theorem StepOk.mono {ops : Array Oper} {o : Oper} {R R' : Value → World → Prop} {ρ : Env} {w : World} (h : StepOk P ops o R ρ w) (hr : ∀ v w', R v w' → R' v w') : StepOk P ops o R' ρ w := by
  rcases h with ⟨hg, hv⟩ | ⟨hg, h⟩
  · exact .inl ⟨hg, hv.mono hr⟩
  · exact .inr ⟨hg, hr _ _ h⟩
theorem cw_draw {id : Nat} (n : Nat) (G : Nat → Value → World → Prop) {ρ0 : Env} {w0 : World} (hm : P.follows .mixedOrders = true) (hB : drawB l n N = true)
    (stab : ∀ i v w w', G i v w → Gr w w' → G i v w')
    (step : ∀ i, i < n → ∀ o, l[i]? = some o → ∀ ρ w, Gr w0 w → (∀ t, keepB l n i t = true → ρ t = ρ0 t) → (∀ j, aftB l i j = true → ∀ d, dstAt l j = some d → G j (ρ d) w) → StepOk P l.toArray o (fun v w' => G i v w' ∧ Gr w w') ρ w)
    (tail : ∀ ρ w, Gr w0 w → (∀ t, ((List.range n).all fun k => dstAt l k != some t) = true → ρ t = ρ0 t) → (∀ j, j < n → ∀ d, dstAt l j = some d → G j (ρ d) w) → OL P N l.toArray Q (l.drop n) ρ w) :
    CW P N (.region id l.toArray true) Q ρ0 w0 :=
  cw_drawG n G (fun _ w => Gr w0 w) hm hB (Fr.drew w0)
    (fun i hi o ho dn ρ w _ _ hg hk hd => (step i hi o ho ρ w hg hk hd).mono fun v w' ⟨h1, h2⟩ => ⟨h1, hg.gr h2, fun k v' _ _ _ h => stab k v' w w' h h2⟩)
    (fun ρ w dn _ hg hk hd => tail ρ w hg hk hd)
end
end Go.Xw
