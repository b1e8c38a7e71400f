/- The words of the walks: a frame as a function from slots to values, rules for code, regions and operations. -/
import Derived.Tactics
import Derived.Orders
import Derived.Below
import Derived.OwnWalk
import Derived.Laws.Rows
import Derived.Laws.AppendOwn
import Derived.Laws.CopyOwn
import Derived.Laws.MakeOwn
import Derived.Laws.OwnMore
import Derived.Laws.Slices
import Derived.Laws.Strings
import Derived.Lib.ConvBytes
import Derived.Laws.BytesArg
import Derived.WalkKit
set_option linter.unusedVariables false
set_option linter.unusedSimpArgs false
namespace Go.Xw
open Go

/-! ### 1. Frames -/
abbrev Env := Nat → Value
def upd (ρ : Env) (d : Nat) (v : Value) : Env := fun t => bif Nat.beq t d then v else ρ t
def evO (ρ : Env) : Operand → Value
  | .tmp t => ρ t
  | .const v => v
  | .global g => .pointer (some ⟨g, 0, none⟩)
  | .func f => .func (.func f) #[] #[]
structure Fits (n : Nat) (a : Act) (ρ : Env) : Prop where
  d : a.defers = []
  s : a.tmps.size = n
  e : ∀ t, a.tmps.getD t undef = ρ t
theorem Fits.eval {n : Nat} {a : Act} {ρ : Env} (h : Fits n a ρ) : a.eval = evO ρ := by
  funext x
  cases x <;> simp [Act.eval, evO, ← h.e]
theorem Fits.put {n : Nat} {a : Act} {ρ : Env} (h : Fits n a ρ) {d : Nat} (hd : Nat.blt d n = true) (v : Value) : Fits n (a.put (some d) v) (upd ρ d v) := by
  have hd' : d < n := by simpa [Nat.blt_eq] using hd
  refine ⟨h.d, by simp [Act.put, h.s], fun t => ?_⟩
  have hs := h.s
  by_cases e : t = d
  · subst e
    have : t < a.tmps.size := by omega
    simp [Act.put, upd, Array.getD, this]
  · have e' : Nat.beq t d = false := by
      cases hb : Nat.beq t d
      · rfl
      · exact absurd (Nat.eq_of_beq_eq_true hb) e
    rw [upd, e', cond_false, ← h.e t]
    simp [Act.put, Array.getD_eq_getD_getElem?, Array.getElem?_setIfInBounds, Ne.symm e]
theorem Fits.putN {n : Nat} {a : Act} {ρ : Env} (h : Fits n a ρ) (v : Value) : Fits n (a.put none v) ρ := h
def lift (n : Nat) (Q : Exit → Env → World → Prop) : Exit → Act → World → Prop := fun e a w => ∃ ρ, Fits n a ρ ∧ Q e ρ w
def CW (P : Program) (n : Nat) (c : Code) (Q : Exit → Env → World → Prop) (ρ : Env) (w : World) : Prop := ∀ a, Fits n a ρ → c.wp P (lift n Q) a w
def thn (K : Env → World → Prop) (Q : Exit → Env → World → Prop) : Exit → Env → World → Prop
  | .normal, ρ, w => K ρ w
  | e, ρ, w => Q e ρ w
def blk (id : Nat) (Q : Exit → Env → World → Prop) : Exit → Env → World → Prop
  | .exit i, ρ, w => bif Nat.beq i id then Q .normal ρ w else Q (.exit i) ρ w
  | e, ρ, w => Q e ρ w

section
variable {P : Program} {n : Nat} {ρ : Env} {w : World} {Q : Exit → Env → World → Prop}
theorem cw_mono {c : Code} {Q' : Exit → Env → World → Prop} (h : CW P n c Q ρ w) (hq : ∀ e ρ w, Q e ρ w → Q' e ρ w) : CW P n c Q' ρ w :=
  fun a ha => wp_mono (h a ha) fun e a w ⟨ρ, hf, q⟩ => ⟨ρ, hf, hq _ _ _ q⟩
theorem cw_seq {x y : Code} (h : CW P n x (thn (CW P n y Q) Q) ρ w) : CW P n (.seq x y) Q ρ w :=
  fun a ha => wp_seq (wp_mono (h a ha) (by
    rintro e a' w' ⟨ρ', hf, hq⟩
    cases e <;> first | exact hq a' hf | exact ⟨ρ', hf, hq⟩))
theorem cw_cut {x y : Code} (M : Env → World → Prop) (h : CW P n x (thn M Q) ρ w) (hk : ∀ ρ w, M ρ w → CW P n y Q ρ w) : CW P n (.seq x y) Q ρ w :=
  cw_seq (cw_mono h (by intro e ρ w q; cases e <;> first | exact hk _ _ q | exact q))
theorem cw_condT {x y : Code} {c : Operand} {b : Bool} (hc : evO ρ c = .bool b) (hb : b = true) (h : CW P n x Q ρ w) : CW P n (.cond c x y) Q ρ w := by
  subst hb
  exact fun a ha => wp_cond_true (by rw [ha.eval]; exact hc) (h a ha)
theorem cw_condF {x y : Code} {c : Operand} {b : Bool} (hc : evO ρ c = .bool b) (hb : b = false) (h : CW P n y Q ρ w) : CW P n (.cond c x y) Q ρ w := by
  subst hb
  exact fun a ha => wp_cond_false (by rw [ha.eval]; exact hc) (h a ha)
theorem cw_block {c : Code} {id : Nat} (h : CW P n c (blk id Q) ρ w) : CW P n (.block id c) Q ρ w :=
  fun a ha => wp_block (wp_mono (h a ha) (by
    rintro e a' w' ⟨ρ', hf, hq⟩
    cases e with
    | exit i =>
      simp only [Exit.inBlock]
      simp only [blk] at hq
      by_cases hi : i = id
      · subst hi
        rw [if_pos rfl]
        rw [show Nat.beq i i = true from by simp] at hq
        exact ⟨ρ', hf, hq⟩
      · rw [if_neg hi]
        have e' : Nat.beq i id = false := by
          cases hb : Nat.beq i id
          · rfl
          · exact absurd (Nat.eq_of_beq_eq_true hb) hi
        rw [e'] at hq
        exact ⟨ρ', hf, hq⟩
    | _ => exact ⟨ρ', hf, hq⟩))
theorem cw_exit {id : Nat} (h : Q (.exit id) ρ w) : CW P n (.exit id) Q ρ w := fun a ha => wp_exit ⟨ρ, ha, h⟩
theorem cw_ret (h : Q .ret ρ w) : CW P n .ret Q ρ w := fun a ha => wp_ret ⟨ρ, ha, h⟩
theorem cw_skip (h : Q .normal ρ w) : CW P n .skip Q ρ w := fun a ha => wp_skip ⟨ρ, ha, h⟩
theorem cw_label {l : Nat} (h : Q .normal ρ w) : CW P n (.label l) Q ρ w := fun a ha => wp_label ⟨ρ, ha, h⟩
end

/-! ### 2. Loops -/
def loopM {σ ε : Type} (step : σ → Option (Sum ε σ)) : Nat → σ → Option ε
  | 0, _ => none
  | k + 1, s => match step s with
    | none => none
    | some (.inl e) => some e
    | some (.inr s') => loopM step k s'
theorem cw_loop {P : Program} {n : Nat} {c : Code} {Q : Exit → Env → World → Prop} {σ ε : Type} {step : σ → Option (Sum ε σ)} (I : σ → Env → World → Prop)
    {e : ε} {k : Nat} {s : σ} {ρ : Env} {w : World} (h : loopM step k s = some e) (hI : I s ρ w)
    (hin : ∀ s s' ρ w, I s ρ w → step s = some (.inr s') → CW P n c (fun ex ρ' w' => ex = .normal ∧ I s' ρ' w') ρ w)
    (hout : ∀ s ρ w, I s ρ w → step s = some (.inl e) → CW P n c (fun ex ρ' w' => ex ≠ .normal ∧ Q ex ρ' w') ρ w) : CW P n (.loop c) Q ρ w := by
  intro a ha b kk cs
  have key : ∀ k s ρ a w, loopM step k s = some e → Fits n a ρ → I s ρ w →
      ∃ e a' w', lift n Q e a' w' ∧ Arrives P (lone (b.at a (.code c :: .inLoop c :: kk)) cs w) b kk cs e a' w' := by
    intro k
    induction k with
    | zero => intro s ρ a w h; simp [loopM] at h
    | succ k ih =>
      intro s ρ a w h ha hI
      simp only [loopM] at h
      cases hst : step s with
      | none => rw [hst] at h; simp at h
      | some x =>
        rw [hst] at h
        cases x with
        | inl e' =>
          obtain rfl : e' = e := by simpa using h
          obtain ⟨ex, a₁, w₁, ⟨ρ₁, hf, hne, hq⟩, harr⟩ := hout s ρ w hI hst a ha b (.inLoop c :: kk) cs
          cases ex with
          | normal => exact absurd rfl hne
          | exit id => exact ⟨_, a₁, w₁, ⟨ρ₁, hf, hq⟩, .pass (x := .inLoop c) rfl (fun _ _ => .inl (by simp)) harr⟩
          | goto l => exact ⟨_, a₁, w₁, ⟨ρ₁, hf, hq⟩, .pass (x := .inLoop c) rfl (fun _ _ => .inl (by simp)) harr⟩
          | ret => exact ⟨_, a₁, w₁, ⟨ρ₁, hf, hq⟩, .pass (x := .inLoop c) rfl (fun _ _ => .inl (by simp)) harr⟩
          | panic ch => exact ⟨_, a₁, w₁, ⟨ρ₁, hf, hq⟩, .pass (x := .inLoop c) rfl (fun _ _ => .inl (by simp)) harr⟩
          | outgrown => exact ⟨_, a₁, w₁, ⟨ρ₁, hf, hq⟩, .pass (x := .inLoop c) rfl (fun _ _ => .inl (by simp)) harr⟩
        | inr s' =>
          obtain ⟨ex, a₁, w₁, ⟨ρ₁, hf, rfl, hI'⟩, harr⟩ := hin s s' ρ w hI hst a ha b (.inLoop c :: kk) cs
          obtain ⟨e₂, a₂, w₂, hq₂, harr₂⟩ := ih s' ρ₁ a₁ w₁ h hf hI'
          exact ⟨e₂, a₂, w₂, hq₂, .of_steps (Steps.trans harr (.one step_inLoop)) harr₂⟩
  obtain ⟨ex, a', w', hq, harr⟩ := key k s ρ a w h ha hI
  exact ⟨ex, a', w', hq, .of_steps (.one step_loop) harr⟩

/-! ### 3. Operations and regions -/
def OpV (P : Program) (o : Oper) (ρ : Env) (w : World) (R : Value → World → Prop) : Prop :=
  match (execOp (evO ρ) o).run P w with
  | .ok (.value v) w' => R v w'
  | .ok .skip w' => R undef w'
  | .ok (.enter f args) w' => Calls P f args w' fun e w'' => ∃ v, e = .returned v ∧ R v w''
  | _ => False
theorem OpV.wp {P : Program} {o : Oper} {ρ : Env} {w : World} {R : Value → World → Prop} {a : Act} {K : Act → World → Prop} {Q : Exit → Act → World → Prop}
    (h : OpV P o ρ w R) (ha : a.eval = evO ρ) (hk : ∀ v w', R v w' → K (a.put o.dst v) w') : o.wp P a w K Q := by
  unfold Oper.wp
  rw [ha]
  unfold OpV at h
  generalize (execOp (evO ρ) o).run P w = r at h
  cases r with
  | ok x w' =>
    cases x <;> simp only at h <;> first
      | exact h.elim
      | exact hk _ _ h
      | exact Calls.mono h (by rintro e w'' ⟨v, rfl, hr⟩; exact hk _ _ hr)
  | halt x w' => exact h.elim
theorem OpV.mono {P : Program} {o : Oper} {ρ : Env} {w : World} {R R' : Value → World → Prop} (h : OpV P o ρ w R) (hr : ∀ v w', R v w' → R' v w') : OpV P o ρ w R' := by
  unfold OpV at *
  generalize (execOp (evO ρ) o).run P w = r at *
  cases r with
  | ok x w' =>
    cases x <;> simp only at h ⊢ <;> first
      | exact h.elim
      | exact hr _ _ h
      | exact Calls.mono h (by rintro e w'' ⟨v, rfl, h'⟩; exact ⟨v, rfl, hr _ _ h'⟩)
  | halt x w' => exact h.elim
theorem opv_val {P : Program} {o : Oper} {ρ : Env} {w : World} {v : Value} {w' : World} (h : (execOp (evO ρ) o).run P w = .ok (.value v) w') {R : Value → World → Prop} (hr : R v w') : OpV P o ρ w R := by
  unfold OpV; rw [h]; exact hr
theorem opv_skip {P : Program} {o : Oper} {ρ : Env} {w : World} {w' : World} (h : (execOp (evO ρ) o).run P w = .ok .skip w') {R : Value → World → Prop} (hr : R undef w') : OpV P o ρ w R := by
  unfold OpV; rw [h]; exact hr

def OL (P : Program) (n : Nat) (ops : Array Oper) (Q : Exit → Env → World → Prop) (l : List Oper) (ρ : Env) (w : World) : Prop := ∀ a, Fits n a ρ → wpList P ops (lift n Q) l a w
section
variable {P : Program} {n : Nat} {ρ : Env} {w : World} {Q : Exit → Env → World → Prop} {ops : Array Oper} {l : List Oper}
theorem ol_nil (h : Q .normal ρ w) : OL P n ops Q [] ρ w := fun a ha => ⟨ρ, ha, h⟩
theorem ol_nilK {K : Env → World → Prop} (h : K ρ w) : OL P n ops (thn K Q) [] ρ w := fun a ha => ⟨ρ, ha, h⟩
theorem cw_region {id : Nat} (h : OL P n l.toArray Q l ρ w) : CW P n (.region id l.toArray false) Q ρ w := fun a ha => wp_region_lit (h a ha)
theorem yielded_of {a : Act} (ha : Fits n a ρ) {j t : Nat} {b : Bool} (hj : (ops[j]?).bind (·.dst) = some t) (ht : ρ t = .bool b) : yielded ops a.tmps j = some b := by
  have h1 : a.tmps.getD t undef = .bool b := by rw [ha.e, ht]
  have h2 : a.tmps[t]? = some (.bool b) := by
    rw [Array.getD_eq_getD_getElem?] at h1
    cases h3 : a.tmps[t]? with
    | none => rw [h3] at h1; simp [undef] at h1
    | some x => rw [h3] at h1; simpa using h1
  simp [yielded, hj, h2]
theorem ol_op {o : Oper} {d : Nat} {R : Value → World → Prop} (h : OpV P o ρ w R) (hd : o.dst = some d) (hn : Nat.blt d n = true) (hg : o.guard = none)
    (hk : ∀ v w', R v w' → OL P n ops Q l (upd ρ d v) w') : OL P n ops Q (o :: l) ρ w :=
  fun a ha => wpList_plain hg fun K hK => h.wp ha.eval fun v w' hr => hK _ _ (by rw [hd]; exact hk v w' hr _ (ha.put hn v))
theorem ol_op0 {o : Oper} {R : Value → World → Prop} (h : OpV P o ρ w R) (hd : o.dst = none) (hg : o.guard = none)
    (hk : ∀ v w', R v w' → OL P n ops Q l ρ w') : OL P n ops Q (o :: l) ρ w :=
  fun a ha => wpList_plain hg fun K hK => h.wp ha.eval fun v w' hr => hK _ _ (by rw [hd]; exact hk v w' hr _ (ha.putN v))
theorem ol_val {o : Oper} {d : Nat} {v : Value} (h : (execOp (evO ρ) o).run P w = .ok (.value v) w) (hd : o.dst = some d) (hn : Nat.blt d n = true) (hg : o.guard = none)
    (hk : OL P n ops Q l (upd ρ d v) w) : OL P n ops Q (o :: l) ρ w :=
  ol_op (R := fun v' w' => v' = v ∧ w' = w) (opv_val h ⟨rfl, rfl⟩) hd hn hg (by rintro _ _ ⟨rfl, rfl⟩; exact hk)
theorem ol_gop {o : Oper} {d j t : Nat} {want b : Bool} {R : Value → World → Prop} (h : OpV P o ρ w R) (hd : o.dst = some d) (hn : Nat.blt d n = true) (hg : o.guard = some (j, want))
    (hj : (ops[j]?).bind (·.dst) = some t) (ht : ρ t = .bool b) (hb : b = want)
    (hk : ∀ v w', R v w' → OL P n ops Q l (upd ρ d v) w') : OL P n ops Q (o :: l) ρ w :=
  fun a ha => wpList_step fun K hK => by
    rw [if_pos (by simp [Region.wanted, hg, yielded_of ha hj ht, hb])]
    exact h.wp ha.eval fun v w' hr => hK _ _ (by rw [hd]; exact hk v w' hr _ (ha.put hn v))
theorem ol_gval {o : Oper} {d j t : Nat} {want b : Bool} {v : Value} (h : (execOp (evO ρ) o).run P w = .ok (.value v) w) (hd : o.dst = some d) (hn : Nat.blt d n = true) (hg : o.guard = some (j, want))
    (hj : (ops[j]?).bind (·.dst) = some t) (ht : ρ t = .bool b) (hb : b = want)
    (hk : OL P n ops Q l (upd ρ d v) w) : OL P n ops Q (o :: l) ρ w :=
  ol_gop (R := fun v' w' => v' = v ∧ w' = w) (opv_val h ⟨rfl, rfl⟩) hd hn hg hj ht hb (by rintro _ _ ⟨rfl, rfl⟩; exact hk)
theorem ol_gskip {o : Oper} {d j t : Nat} {want b : Bool} (hd : o.dst = some d) (hn : Nat.blt d n = true) (hg : o.guard = some (j, want))
    (hj : (ops[j]?).bind (·.dst) = some t) (ht : ρ t = .bool b) (hb : b = !want)
    (hk : OL P n ops Q l (upd ρ d undef) w) : OL P n ops Q (o :: l) ρ w :=
  fun a ha => wpList_step fun K hK => by
    rw [if_neg (by subst hb; cases want <;> simp [Region.wanted, hg, yielded_of ha hj ht])]
    exact hK _ _ (by rw [hd]; exact hk _ (ha.put hn undef))
end

/-! ### 4. Calls -/
def entry (l : List Value) : Env := fun t => l.getD t undef
def fin (P : Program) (fn : Func) (R : Ending → World → Prop) : Exit → Env → World → Prop := fun e ρ w =>
  (e = .ret ∨ e = .normal) ∧ ∀ tmps : Array Value, (∀ t, tmps.getD t undef = ρ t) → ∃ v, (results fn tmps).run P w = .ok v w ∧ R (.returned v) w
theorem calls_cw {P : Program} {f : FuncId} {fn : Func} {c : Code} {l : List Value} {w : World} {R : Ending → World → Prop} {n : Nat}
    (hf : P.funcs[f]? = some fn) (hb : fn.body = some c) (hn : fn.ntmps = n) (hl : Nat.ble l.length n = true) (h : CW P n c (fin P fn R) (entry l) w) : Calls P f l.toArray w R := by
  refine calls_of_wp hf hb (wp_mono (h _ ⟨rfl, ?_, fun t => ?_⟩) ?_)
  · have : l.length ≤ n := Nat.le_of_ble_eq_true hl
    simp [hn]; omega
  · rw [Array.getD_eq_getD_getElem?, entry, List.getD_eq_getElem?_getD, Array.getElem?_append]
    split
    · simp
    · rename_i hlt
      have hlt' : l.length ≤ t := by simpa using hlt
      rw [Array.getElem?_replicate, List.getElem?_eq_none hlt']
      split <;> rfl
  · rintro e a w' ⟨ρ, hf, he, hr⟩
    have := hr a.tmps hf.e
    rcases he with rfl | rfl <;> exact ⟨hf.d, this⟩

theorem fin_ret1 {P : Program} {fn : Func} {R : Ending → World → Prop} {ρ : Env} {w : World} {p : Nat} {v : Value} (hr : fn.results = #[.tmp p]) (h1 : ρ p = v) (h : R (.returned v) w) : fin P fn R .ret ρ w :=
  ⟨.inl rfl, fun tmps ht => ⟨v, by
    have e1 := ht p
    rw [h1, Array.getD_eq_getD_getElem?] at e1
    simp [results, hr, e1], h⟩⟩
theorem fin_ret2 {P : Program} {fn : Func} {R : Ending → World → Prop} {ρ : Env} {w : World} {p q : Nat} {v u : Value} (hr : fn.results = #[.tmp p, .tmp q]) (h1 : ρ p = v) (h2 : ρ q = u) (h : R (.returned (.tuple #[v, u])) w) : fin P fn R .ret ρ w :=
  ⟨.inl rfl, fun tmps ht => ⟨.tuple #[v, u], by
    have e1 := ht p
    have e2 := ht q
    rw [h1, Array.getD_eq_getD_getElem?] at e1
    rw [h2, Array.getD_eq_getD_getElem?] at e2
    simp [results, hr, e1, e2], h⟩⟩
theorem fin_ret3 {P : Program} {fn : Func} {R : Ending → World → Prop} {ρ : Env} {w : World} {p q s : Nat} {v u x : Value} (hr : fn.results = #[.tmp p, .tmp q, .tmp s]) (h1 : ρ p = v) (h2 : ρ q = u) (h3 : ρ s = x) (h : R (.returned (.tuple #[v, u, x])) w) : fin P fn R .ret ρ w :=
  ⟨.inl rfl, fun tmps ht => ⟨.tuple #[v, u, x], by
    have e1 := ht p
    have e2 := ht q
    have e3 := ht s
    rw [h1, Array.getD_eq_getD_getElem?] at e1
    rw [h2, Array.getD_eq_getD_getElem?] at e2
    rw [h3, Array.getD_eq_getD_getElem?] at e3
    simp [results, hr, e1, e2, e3], h⟩⟩
theorem fin_ret4 {P : Program} {fn : Func} {R : Ending → World → Prop} {ρ : Env} {w : World} {p q s z : Nat} {v u x y : Value} (hr : fn.results = #[.tmp p, .tmp q, .tmp s, .tmp z]) (h1 : ρ p = v) (h2 : ρ q = u) (h3 : ρ s = x) (h4 : ρ z = y) (h : R (.returned (.tuple #[v, u, x, y])) w) : fin P fn R .ret ρ w :=
  ⟨.inl rfl, fun tmps ht => ⟨.tuple #[v, u, x, y], by
    have e1 := ht p
    have e2 := ht q
    have e3 := ht s
    have e4 := ht z
    rw [h1, Array.getD_eq_getD_getElem?] at e1
    rw [h2, Array.getD_eq_getD_getElem?] at e2
    rw [h3, Array.getD_eq_getD_getElem?] at e3
    rw [h4, Array.getD_eq_getD_getElem?] at e4
    simp [results, hr, e1, e2, e3, e4], h⟩⟩
end Go.Xw
