/- DirDamage: texts merged, part 1 of 7. The last part proves that the law DirDamage holds for every input. -/
import Derived.Test.YtdifnahlheogdaaGreatDoorRows
import Derived.WalkKit
import Derived.ProofKit
import Derived.JoinedOf
import Derived.KernelRfl
import Derived.Tactics
import Derived.Orders
import Derived.Below
import Derived.OwnWalk
import Derived.Laws.Rows
import Derived.Laws.AppendOwn
import Derived.Laws.CopyOwn
import Derived.Laws.MakeOwn
import Derived.Laws.OwnMore
import Derived.Laws.Slices
import Derived.Laws.Strings
import Derived.Lib.ConvBytes
import Derived.Laws.BytesArg
import Derived.Laws.IdiomStrings
import Derived.DeepKeys
import Derived.Laws.StructEq
import Derived.Laws.Tables
import Derived.Laws.RangeString
set_option maxRecDepth 100000
set_option maxHeartbeats 4000000
set_option linter.unusedVariables false
set_option linter.unusedSimpArgs false
set_option linter.unusedSectionVars false
namespace Go.Proofs.YtdifnahlheogdaaGreatDoor.Facts
open Go
def cs (l : List Nat) : List Char := l.map Char.ofNat
def w0 : List Nat := [104, 97, 114, 110, 101, 115, 115]
def w1 : List Nat := [51, 52, 57, 48, 52, 57, 55, 55, 50, 57, 102, 54, 97, 99, 51, 50, 54, 54, 50, 97, 52, 51, 57, 99, 55, 50, 51, 98, 102, 56, 54, 53, 52, 56, 100, 101, 49, 97, 50, 98, 55, 48, 97, 102, 49, 98, 100, 99, 54, 50, 57, 52, 51, 97, 50, 50, 51, 51, 57, 54, 99, 98, 54, 98]
def w2 : List Nat := [99, 117, 116]
def w3 : List Nat := [97, 116]
def rest : List Nat := [114, 105, 99, 107, 121, 97, 114, 100, 47, 114, 105, 99, 107, 121, 97, 114, 100, 108, 97, 119, 50, 53, 46, 68, 105, 114, 68, 97, 109, 97, 103, 101, 32, 114, 105, 99, 107, 121, 97, 114, 100, 47, 114, 105, 99, 107, 121, 97, 114, 100, 108, 97, 119, 50, 53, 46, 68, 105, 114, 69, 108, 100, 101, 114, 32, 114, 105, 99, 107, 121, 97, 114, 100, 47, 114, 105, 99, 107, 121, 97, 114, 100, 108, 97, 119, 50, 53, 46, 68, 105, 114, 65, 99, 116, 115]
theorem toList_is : Tryz.pinned.checked.prog.initOrder.toList = (cs w0 ++ Char.ofNat 32 :: (cs w1 ++ Char.ofNat 32 :: (cs w2 ++ Char.ofNat 32 :: (cs w3 ++ Char.ofNat 32 :: cs rest)))) := by
 have h : Tryz.pinned.checked.prog.initOrder = String.ofList (cs w0 ++ Char.ofNat 32 :: (cs w1 ++ Char.ofNat 32 :: (cs w2 ++ Char.ofNat 32 :: (cs w3 ++ Char.ofNat 32 :: cs rest)))) := by kernel_rfl
 rw [h]
 exact String.toList_ofList
theorem word_cut : ∀ (l r : List Char), (l.all fun c => !decide (c = Char.ofNat 32)) = true → wordsSigns (l ++ Char.ofNat 32 :: r) = l :: wordsSigns r
 | [], r, _ => rfl
 | c :: l, r, h => by
  rw [List.all_cons, Bool.and_eq_true] at h
  have hc : c ≠ Char.ofNat 32 := by simpa using h.1
  have ih := word_cut l r h.2
  have : wordsSigns (c :: (l ++ Char.ofNat 32 :: r)) = match wordsSigns (l ++ Char.ofNat 32 :: r) with
   | w :: ws => (c :: w) :: ws
   | [] => [[c]] := by
   conv => lhs; unfold wordsSigns
   split
   ·rename_i heq; cases heq
   ·rename_i heq; injection heq with h1 _; exact absurd h1 hc
   rename_i heq; injection heq with h1 h2; subst h1 h2; rfl
  rw [List.cons_append, this, ih]
theorem pl0 : ((cs w0).all fun c => !decide (c = Char.ofNat 32)) = true := by kernel_rfl
theorem pl1 : ((cs w1).all fun c => !decide (c = Char.ofNat 32)) = true := by kernel_rfl
theorem pl2 : ((cs w2).all fun c => !decide (c = Char.ofNat 32)) = true := by kernel_rfl
theorem pl3 : ((cs w3).all fun c => !decide (c = Char.ofNat 32)) = true := by kernel_rfl
theorem words : wordsSigns Tryz.pinned.checked.prog.initOrder.toList = cs w0 :: cs w1 :: cs w2 :: cs w3 :: wordsSigns (cs rest) :=
 (congrArg wordsSigns toList_is).trans ((word_cut (cs w0) _ pl0).trans (congrArg (cs w0 :: ·) ((word_cut (cs w1) _ pl1).trans (congrArg (cs w1 :: ·) ((word_cut (cs w2) _ pl2).trans (congrArg (cs w2 :: ·) ((word_cut (cs w3) _ pl3).trans (congrArg (cs w3 :: ·) rfl))))))))
variable {P : Program} {X : List (List Char)}
theorem behind : behindMainWord (cs w0 :: cs w1 :: cs w2 :: cs w3 :: X) = cs w2 :: cs w3 :: X := by kernel_rfl
theorem strip : stripLifts liftWords (cs w2 :: cs w3 :: X) = ([], cs w2 :: cs w3 :: X) := by kernel_rfl
theorem heads (h : wordsSigns P.initOrder.toList = cs w0 :: cs w1 :: cs w2 :: cs w3 :: X) : P.headLifts = [] := by
 unfold Program.headLifts
 rw [h, behind, strip]
 kernel_rfl
theorem make_of (h : wordsSigns P.initOrder.toList = cs w0 :: cs w1 :: cs w2 :: cs w3 :: X) : P.make = some .cut := by
 unfold Program.make
 rw [h, behind]
 kernel_rfl
theorem lifts_of (h : wordsSigns P.initOrder.toList = cs w0 :: cs w1 :: cs w2 :: cs w3 :: X) : P.liftsFinal = false := by
 unfold Program.liftsFinal
 rw [h, behind, heads h]
 kernel_rfl
theorem enter_of (h : wordsSigns P.initOrder.toList = cs w0 :: cs w1 :: cs w2 :: cs w3 :: X) (h1 : P.laysLater = false) (h2 : P.bearsReflect = false) (h3 : P.doorFits [] = true) : P.mayEnter = true := by
 unfold Program.mayEnter
 rw [h, behind]
 simp only [strip]
 rw [h1, h2, h3]
 kernel_rfl
theorem lays : Tryz.pinned.checked.prog.laysLater = false := by kernel_rfl
theorem bears : Tryz.pinned.checked.prog.bearsReflect = false := by kernel_rfl
theorem doors : Tryz.pinned.checked.prog.doorFits [] = true := by kernel_rfl
theorem laid : laidOutB Tryz.pinned.checked.prog = true := by kernel_rfl
theorem rowed : mapsRowed Tryz.pinned.checked.prog = true := by kernel_rfl
theorem plain : Tryz.pinned.checked.prog.plainKeys = true := by kernel_rfl
theorem heard : Tryz.pinned.checked.prog.stopsHeard = true := by kernel_rfl
theorem own : ownKnob Tryz.pinned.checked.prog.godebug = none := by kernel_rfl
theorem make : Tryz.pinned.checked.prog.make = some .cut := make_of words
theorem lifts : Tryz.pinned.checked.prog.liftsFinal = false := lifts_of words
theorem enter : Tryz.pinned.checked.prog.mayEnter = true := enter_of words lays bears doors
end Go.Proofs.YtdifnahlheogdaaGreatDoor.Facts
namespace Go.Xw
open Go
abbrev Env := Nat → Value
def upd (ρ : Env) (d : Nat) (v : Value) : Env := fun t => bif Nat.beq t d then v else ρ t
def evO (ρ : Env) : Operand → Value
  | .tmp t => ρ t
  | .const v => v
  | .global g => .pointer (some ⟨g, 0, none⟩)
  | .func f => .func (.func f) #[] #[]
structure Fits (n : Nat) (a : Act) (ρ : Env) : Prop where
  d : a.defers = []
  s : a.tmps.size = n
  e : ∀ t, a.tmps.getD t undef = ρ t
theorem Fits.eval {n : Nat} {a : Act} {ρ : Env} (h : Fits n a ρ) : a.eval = evO ρ := by
  funext x
  cases x <;> simp [Act.eval, evO, ← h.e]
theorem Fits.put {n : Nat} {a : Act} {ρ : Env} (h : Fits n a ρ) {d : Nat} (hd : Nat.blt d n = true) (v : Value) : Fits n (a.put (some d) v) (upd ρ d v) := by
  have hd' : d < n := by simpa [Nat.blt_eq] using hd
  refine ⟨h.d, by simp [Act.put, h.s], fun t => ?_⟩
  have hs := h.s
  by_cases e : t = d
  · subst e
    have : t < a.tmps.size := by omega
    simp [Act.put, upd, Array.getD, this]
  · have e' : Nat.beq t d = false := by
      cases hb : Nat.beq t d
      · rfl
      · exact absurd (Nat.eq_of_beq_eq_true hb) e
    rw [upd, e', cond_false, ← h.e t]
    simp [Act.put, Array.getD_eq_getD_getElem?, Array.getElem?_setIfInBounds, Ne.symm e]
theorem Fits.putN {n : Nat} {a : Act} {ρ : Env} (h : Fits n a ρ) (v : Value) : Fits n (a.put none v) ρ := h
def lift (n : Nat) (Q : Exit → Env → World → Prop) : Exit → Act → World → Prop := fun e a w => ∃ ρ, Fits n a ρ ∧ Q e ρ w
def CW (P : Program) (n : Nat) (c : Code) (Q : Exit → Env → World → Prop) (ρ : Env) (w : World) : Prop := ∀ a, Fits n a ρ → c.wp P (lift n Q) a w
def thn (K : Env → World → Prop) (Q : Exit → Env → World → Prop) : Exit → Env → World → Prop
  | .normal, ρ, w => K ρ w
  | e, ρ, w => Q e ρ w
def blk (id : Nat) (Q : Exit → Env → World → Prop) : Exit → Env → World → Prop
  | .exit i, ρ, w => bif Nat.beq i id then Q .normal ρ w else Q (.exit i) ρ w
  | e, ρ, w => Q e ρ w
section
variable {P : Program} {n : Nat} {ρ : Env} {w : World} {Q : Exit → Env → World → Prop}
theorem cw_mono {c : Code} {Q' : Exit → Env → World → Prop} (h : CW P n c Q ρ w) (hq : ∀ e ρ w, Q e ρ w → Q' e ρ w) : CW P n c Q' ρ w :=
  fun a ha => wp_mono (h a ha) fun e a w ⟨ρ, hf, q⟩ => ⟨ρ, hf, hq _ _ _ q⟩
theorem cw_seq {x y : Code} (h : CW P n x (thn (CW P n y Q) Q) ρ w) : CW P n (.seq x y) Q ρ w :=
  fun a ha => wp_seq (wp_mono (h a ha) (by
    rintro e a' w' ⟨ρ', hf, hq⟩
    cases e <;> first | exact hq a' hf | exact ⟨ρ', hf, hq⟩))
theorem cw_condT {x y : Code} {c : Operand} {b : Bool} (hc : evO ρ c = .bool b) (hb : b = true) (h : CW P n x Q ρ w) : CW P n (.cond c x y) Q ρ w := by
  subst hb
  exact fun a ha => wp_cond_true (by rw [ha.eval]; exact hc) (h a ha)
theorem cw_condF {x y : Code} {c : Operand} {b : Bool} (hc : evO ρ c = .bool b) (hb : b = false) (h : CW P n y Q ρ w) : CW P n (.cond c x y) Q ρ w := by
  subst hb
  exact fun a ha => wp_cond_false (by rw [ha.eval]; exact hc) (h a ha)
theorem cw_block {c : Code} {id : Nat} (h : CW P n c (blk id Q) ρ w) : CW P n (.block id c) Q ρ w :=
  fun a ha => wp_block (wp_mono (h a ha) (by
    rintro e a' w' ⟨ρ', hf, hq⟩
    cases e with
    | exit i =>
      simp only [Exit.inBlock]
      simp only [blk] at hq
      by_cases hi : i = id
      · subst hi
        rw [if_pos rfl]
        rw [show Nat.beq i i = true from by simp] at hq
        exact ⟨ρ', hf, hq⟩
      · rw [if_neg hi]
        have e' : Nat.beq i id = false := by
          cases hb : Nat.beq i id
          · rfl
          · exact absurd (Nat.eq_of_beq_eq_true hb) hi
        rw [e'] at hq
        exact ⟨ρ', hf, hq⟩
    | _ => exact ⟨ρ', hf, hq⟩))
theorem cw_exit {id : Nat} (h : Q (.exit id) ρ w) : CW P n (.exit id) Q ρ w := fun a ha => wp_exit ⟨ρ, ha, h⟩
theorem cw_ret (h : Q .ret ρ w) : CW P n .ret Q ρ w := fun a ha => wp_ret ⟨ρ, ha, h⟩
theorem cw_skip (h : Q .normal ρ w) : CW P n .skip Q ρ w := fun a ha => wp_skip ⟨ρ, ha, h⟩
theorem cw_label {l : Nat} (h : Q .normal ρ w) : CW P n (.label l) Q ρ w := fun a ha => wp_label ⟨ρ, ha, h⟩
end
def loopM {σ ε : Type} (step : σ → Option (Sum ε σ)) : Nat → σ → Option ε
  | 0, _ => none
  | k + 1, s => match step s with
    | none => none
    | some (.inl e) => some e
    | some (.inr s') => loopM step k s'
theorem cw_loop {P : Program} {n : Nat} {c : Code} {Q : Exit → Env → World → Prop} {σ ε : Type} {step : σ → Option (Sum ε σ)} (I : σ → Env → World → Prop)
    {e : ε} {k : Nat} {s : σ} {ρ : Env} {w : World} (h : loopM step k s = some e) (hI : I s ρ w)
    (hin : ∀ s s' ρ w, I s ρ w → step s = some (.inr s') → CW P n c (fun ex ρ' w' => ex = .normal ∧ I s' ρ' w') ρ w)
    (hout : ∀ s ρ w, I s ρ w → step s = some (.inl e) → CW P n c (fun ex ρ' w' => ex ≠ .normal ∧ Q ex ρ' w') ρ w) : CW P n (.loop c) Q ρ w := by
  intro a ha b kk cs
  have key : ∀ k s ρ a w, loopM step k s = some e → Fits n a ρ → I s ρ w →
      ∃ e a' w', lift n Q e a' w' ∧ Arrives P (lone (b.at a (.code c :: .inLoop c :: kk)) cs w) b kk cs e a' w' := by
    intro k
    induction k with
    | zero => intro s ρ a w h; simp [loopM] at h
    | succ k ih =>
      intro s ρ a w h ha hI
      simp only [loopM] at h
      cases hst : step s with
      | none => rw [hst] at h; simp at h
      | some x =>
        rw [hst] at h
        cases x with
        | inl e' =>
          obtain rfl : e' = e := by simpa using h
          obtain ⟨ex, a₁, w₁, ⟨ρ₁, hf, hne, hq⟩, harr⟩ := hout s ρ w hI hst a ha b (.inLoop c :: kk) cs
          cases ex with
          | normal => exact absurd rfl hne
          | exit id => exact ⟨_, a₁, w₁, ⟨ρ₁, hf, hq⟩, .pass (x := .inLoop c) rfl (fun _ _ => .inl (by simp)) harr⟩
          | goto l => exact ⟨_, a₁, w₁, ⟨ρ₁, hf, hq⟩, .pass (x := .inLoop c) rfl (fun _ _ => .inl (by simp)) harr⟩
          | ret => exact ⟨_, a₁, w₁, ⟨ρ₁, hf, hq⟩, .pass (x := .inLoop c) rfl (fun _ _ => .inl (by simp)) harr⟩
          | panic ch => exact ⟨_, a₁, w₁, ⟨ρ₁, hf, hq⟩, .pass (x := .inLoop c) rfl (fun _ _ => .inl (by simp)) harr⟩
          | outgrown => exact ⟨_, a₁, w₁, ⟨ρ₁, hf, hq⟩, .pass (x := .inLoop c) rfl (fun _ _ => .inl (by simp)) harr⟩
        | inr s' =>
          obtain ⟨ex, a₁, w₁, ⟨ρ₁, hf, rfl, hI'⟩, harr⟩ := hin s s' ρ w hI hst a ha b (.inLoop c :: kk) cs
          obtain ⟨e₂, a₂, w₂, hq₂, harr₂⟩ := ih s' ρ₁ a₁ w₁ h hf hI'
          exact ⟨e₂, a₂, w₂, hq₂, .of_steps (Steps.trans harr (.one step_inLoop)) harr₂⟩
  obtain ⟨ex, a', w', hq, harr⟩ := key k s ρ a w h ha hI
  exact ⟨ex, a', w', hq, .of_steps (.one step_loop) harr⟩
def OpV (P : Program) (o : Oper) (ρ : Env) (w : World) (R : Value → World → Prop) : Prop :=
  match (execOp (evO ρ) o).run P w with
  | .ok (.value v) w' => R v w'
  | .ok .skip w' => R undef w'
  | .ok (.enter f args) w' => Calls P f args w' fun e w'' => ∃ v, e = .returned v ∧ R v w''
  | _ => False
theorem OpV.wp {P : Program} {o : Oper} {ρ : Env} {w : World} {R : Value → World → Prop} {a : Act} {K : Act → World → Prop} {Q : Exit → Act → World → Prop}
    (h : OpV P o ρ w R) (ha : a.eval = evO ρ) (hk : ∀ v w', R v w' → K (a.put o.dst v) w') : o.wp P a w K Q := by
  unfold Oper.wp
  rw [ha]
  unfold OpV at h
  generalize (execOp (evO ρ) o).run P w = r at h
  cases r with
  | ok x w' =>
    cases x <;> simp only at h <;> first
      | exact h.elim
      | exact hk _ _ h
      | exact Calls.mono h (by rintro e w'' ⟨v, rfl, hr⟩; exact hk _ _ hr)
  | halt x w' => exact h.elim
theorem OpV.mono {P : Program} {o : Oper} {ρ : Env} {w : World} {R R' : Value → World → Prop} (h : OpV P o ρ w R) (hr : ∀ v w', R v w' → R' v w') : OpV P o ρ w R' := by
  unfold OpV at *
  generalize (execOp (evO ρ) o).run P w = r at *
  cases r with
  | ok x w' =>
    cases x <;> simp only at h ⊢ <;> first
      | exact h.elim
      | exact hr _ _ h
      | exact Calls.mono h (by rintro e w'' ⟨v, rfl, h'⟩; exact ⟨v, rfl, hr _ _ h'⟩)
  | halt x w' => exact h.elim
theorem opv_val {P : Program} {o : Oper} {ρ : Env} {w : World} {v : Value} {w' : World} (h : (execOp (evO ρ) o).run P w = .ok (.value v) w') {R : Value → World → Prop} (hr : R v w') : OpV P o ρ w R := by
  unfold OpV; rw [h]; exact hr
theorem opv_skip {P : Program} {o : Oper} {ρ : Env} {w : World} {w' : World} (h : (execOp (evO ρ) o).run P w = .ok .skip w') {R : Value → World → Prop} (hr : R undef w') : OpV P o ρ w R := by
  unfold OpV; rw [h]; exact hr
def OL (P : Program) (n : Nat) (ops : Array Oper) (Q : Exit → Env → World → Prop) (l : List Oper) (ρ : Env) (w : World) : Prop := ∀ a, Fits n a ρ → wpList P ops (lift n Q) l a w
section
variable {P : Program} {n : Nat} {ρ : Env} {w : World} {Q : Exit → Env → World → Prop} {ops : Array Oper} {l : List Oper}
theorem ol_nil (h : Q .normal ρ w) : OL P n ops Q [] ρ w := fun a ha => ⟨ρ, ha, h⟩
theorem cw_region {id : Nat} (h : OL P n l.toArray Q l ρ w) : CW P n (.region id l.toArray false) Q ρ w := fun a ha => wp_region_lit (h a ha)
theorem yielded_of {a : Act} (ha : Fits n a ρ) {j t : Nat} {b : Bool} (hj : (ops[j]?).bind (·.dst) = some t) (ht : ρ t = .bool b) : yielded ops a.tmps j = some b := by
  have h1 : a.tmps.getD t undef = .bool b := by rw [ha.e, ht]
  have h2 : a.tmps[t]? = some (.bool b) := by
    rw [Array.getD_eq_getD_getElem?] at h1
    cases h3 : a.tmps[t]? with
    | none => rw [h3] at h1; simp [undef] at h1
    | some x => rw [h3] at h1; simpa using h1
  simp [yielded, hj, h2]
theorem ol_op {o : Oper} {d : Nat} {R : Value → World → Prop} (h : OpV P o ρ w R) (hd : o.dst = some d) (hn : Nat.blt d n = true) (hg : o.guard = none)
    (hk : ∀ v w', R v w' → OL P n ops Q l (upd ρ d v) w') : OL P n ops Q (o :: l) ρ w :=
  fun a ha => wpList_plain hg fun K hK => h.wp ha.eval fun v w' hr => hK _ _ (by rw [hd]; exact hk v w' hr _ (ha.put hn v))
theorem ol_op0 {o : Oper} {R : Value → World → Prop} (h : OpV P o ρ w R) (hd : o.dst = none) (hg : o.guard = none)
    (hk : ∀ v w', R v w' → OL P n ops Q l ρ w') : OL P n ops Q (o :: l) ρ w :=
  fun a ha => wpList_plain hg fun K hK => h.wp ha.eval fun v w' hr => hK _ _ (by rw [hd]; exact hk v w' hr _ (ha.putN v))
theorem ol_val {o : Oper} {d : Nat} {v : Value} (h : (execOp (evO ρ) o).run P w = .ok (.value v) w) (hd : o.dst = some d) (hn : Nat.blt d n = true) (hg : o.guard = none)
    (hk : OL P n ops Q l (upd ρ d v) w) : OL P n ops Q (o :: l) ρ w :=
  ol_op (R := fun v' w' => v' = v ∧ w' = w) (opv_val h ⟨rfl, rfl⟩) hd hn hg (by rintro _ _ ⟨rfl, rfl⟩; exact hk)
theorem ol_gop {o : Oper} {d j t : Nat} {want b : Bool} {R : Value → World → Prop} (h : OpV P o ρ w R) (hd : o.dst = some d) (hn : Nat.blt d n = true) (hg : o.guard = some (j, want))
    (hj : (ops[j]?).bind (·.dst) = some t) (ht : ρ t = .bool b) (hb : b = want)
    (hk : ∀ v w', R v w' → OL P n ops Q l (upd ρ d v) w') : OL P n ops Q (o :: l) ρ w :=
  fun a ha => wpList_step fun K hK => by
    rw [if_pos (by simp [Region.wanted, hg, yielded_of ha hj ht, hb])]
    exact h.wp ha.eval fun v w' hr => hK _ _ (by rw [hd]; exact hk v w' hr _ (ha.put hn v))
theorem ol_gskip {o : Oper} {d j t : Nat} {want b : Bool} (hd : o.dst = some d) (hn : Nat.blt d n = true) (hg : o.guard = some (j, want))
    (hj : (ops[j]?).bind (·.dst) = some t) (ht : ρ t = .bool b) (hb : b = !want)
    (hk : OL P n ops Q l (upd ρ d undef) w) : OL P n ops Q (o :: l) ρ w :=
  fun a ha => wpList_step fun K hK => by
    rw [if_neg (by subst hb; cases want <;> simp [Region.wanted, hg, yielded_of ha hj ht])]
    exact hK _ _ (by rw [hd]; exact hk _ (ha.put hn undef))
end
def entry (l : List Value) : Env := fun t => l.getD t undef
def fin (P : Program) (fn : Func) (R : Ending → World → Prop) : Exit → Env → World → Prop := fun e ρ w =>
  (e = .ret ∨ e = .normal) ∧ ∀ tmps : Array Value, (∀ t, tmps.getD t undef = ρ t) → ∃ v, (results fn tmps).run P w = .ok v w ∧ R (.returned v) w
theorem calls_cw {P : Program} {f : FuncId} {fn : Func} {c : Code} {l : List Value} {w : World} {R : Ending → World → Prop} {n : Nat}
    (hf : P.funcs[f]? = some fn) (hb : fn.body = some c) (hn : fn.ntmps = n) (hl : Nat.ble l.length n = true) (h : CW P n c (fin P fn R) (entry l) w) : Calls P f l.toArray w R := by
  refine calls_of_wp hf hb (wp_mono (h _ ⟨rfl, ?_, fun t => ?_⟩) ?_)
  · have : l.length ≤ n := Nat.le_of_ble_eq_true hl
    simp [hn]; omega
  · rw [Array.getD_eq_getD_getElem?, entry, List.getD_eq_getElem?_getD, Array.getElem?_append]
    split
    · simp
    · rename_i hlt
      have hlt' : l.length ≤ t := by simpa using hlt
      rw [Array.getElem?_replicate, List.getElem?_eq_none hlt']
      split <;> rfl
  · rintro e a w' ⟨ρ, hf, he, hr⟩
    have := hr a.tmps hf.e
    rcases he with rfl | rfl <;> exact ⟨hf.d, this⟩
structure Fr (S : Nat → Prop) (w w' : World) : Prop where
  os : w'.os = w.os
  tape : w'.tape = w.tape
  output : w'.output = w.output
  size : w.heap.size ≤ w'.heap.size
  blk : ∀ k, k < w.heap.size → ¬ S k → w'.heap[k]? = w.heap[k]?
abbrev Gr (w w' : World) : Prop := Fr (fun _ => False) w w'
theorem Fr.refl (S : Nat → Prop) (w : World) : Fr S w w := ⟨rfl, rfl, rfl, Nat.le_refl _, fun _ _ _ => rfl⟩
theorem Fr.trans {S T : Nat → Prop} {a b c : World} (h : Fr S a b) (k : Fr T b c) (hs : ∀ j, j < a.heap.size → T j → S j) : Fr S a c :=
  ⟨k.os.trans h.os, k.tape.trans h.tape, k.output.trans h.output, Nat.le_trans h.size k.size,
    fun j hj hn => (k.blk j (Nat.lt_of_lt_of_le hj h.size) (fun ht => hn (hs j hj ht))).trans (h.blk j hj hn)⟩
theorem Fr.gr {S : Nat → Prop} {a b c : World} (h : Fr S a b) (k : Gr b c) : Fr S a c := h.trans k fun _ _ hf => hf.elim
theorem Fr.mono {S T : Nat → Prop} {a b : World} (h : Fr S a b) (hs : ∀ j, S j → T j) : Fr T a b := ⟨h.os, h.tape, h.output, h.size, fun k hk hn => h.blk k hk fun hx => hn (hs k hx)⟩
theorem Fr.of_grown {w w' : World} (h : w.grownBy w' none) : Gr w w' := ⟨h.os, h.tape, h.output, h.size, fun k hk _ => h.block k hk (by simp)⟩
theorem Fr.of_grownBy {w w' : World} {r : Option Nat} (h : w.grownBy w' r) : Fr (fun j => some j = r) w w' := ⟨h.os, h.tape, h.output, h.size, fun k hk hn => h.block k hk hn⟩
theorem Fr.alloc (w : World) (o : Obj) : Gr w (w.alloc o) := Fr.of_grown (World.grownBy_alloc w o none)
theorem Fr.drew (w : World) : Gr w { w with drawn := w.drawn + 1 } := ⟨rfl, rfl, rfl, Nat.le_refl _, fun _ _ _ => rfl⟩
theorem Fr.setRow {w : World} (g : Nat) (cs : Array Value) : Fr (fun j => j = g) w (w.setRow g cs) := ⟨rfl, rfl, rfl, by simp, fun k _ hk => setRow_other w g k cs hk⟩
theorem Fr.below {w w' : World} (h : Gr w w') : RowKit.Below w.heap.size w w' := ⟨h.os, h.tape, h.output, h.size, fun k hk => h.blk k hk (fun x => x)⟩
structure Seg where
  n : Nat
  l : List Value
  h : l.length = n
  one : ∀ v ∈ l, v.oneCell' = true
def cellsOf : List Seg → List Value
  | [] => []
  | s :: ss => s.l ++ cellsOf ss
def sumN : List Seg → Nat
  | [] => 0
  | s :: ss => s.n + sumN ss
theorem len_cellsOf (ss : List Seg) : (cellsOf ss).length = sumN ss := by
  induction ss with
  | nil => rfl
  | cons s ss ih => simp [cellsOf, sumN, ih, s.h]
theorem one_cellsOf (ss : List Seg) : ∀ v ∈ cellsOf ss, v.oneCell' = true := by
  induction ss with
  | nil => intro v hv; simp [cellsOf] at hv
  | cons s ss ih =>
    intro v hv
    simp only [cellsOf, List.mem_append] at hv
    rcases hv with hv | hv
    · exact s.one v hv
    · exact ih v hv
theorem cellsOf_append (a b : List Seg) : cellsOf (a ++ b) = cellsOf a ++ cellsOf b := by
  induction a with
  | nil => rfl
  | cons s a ih => simp [cellsOf, ih]
def aggV (ss : List Seg) : Value := .agg (cellsOf ss).toArray
structure Kd (α : Type) where
  enc : α → List Value
  size : Nat
  len : ∀ x, (enc x).length = size
  one : ∀ x, ∀ v ∈ enc x, v.oneCell' = true
def Kd.seg {α : Type} (K : Kd α) (x : α) : Seg := ⟨K.size, K.enc x, K.len x, K.one x⟩
def kI (k : IntKind) : Kd Int := ⟨fun x => [.int k x], 1, fun _ => rfl, fun _ v hv => by simp at hv; subst hv; rfl⟩
def kB : Kd Bool := ⟨fun x => [.bool x], 1, fun _ => rfl, fun _ v hv => by simp at hv; subst hv; rfl⟩
def sv (l : List UInt8) : Value := .string ⟨l.toArray⟩
def kS : Kd (List UInt8) := ⟨fun x => [sv x], 1, fun _ => rfl, fun _ v hv => by simp at hv; subst hv; rfl⟩
def kT {α : Type} (segs : α → List Seg) (n : Nat) (h : ∀ x, sumN (segs x) = n) : Kd α := ⟨fun x => cellsOf (segs x), n, fun x => (len_cellsOf _).trans (h x), fun x => one_cellsOf _⟩
structure Arr (n : Nat) (α : Type) where
  l : List α
  h : l.length = n
deriving DecidableEq
theorem Arr.ext {n : Nat} {α : Type} {a b : Arr n α} (h : a.l = b.l) : a = b := by cases a; cases b; simp_all
def Arr.rep (n : Nat) {α : Type} (x : α) : Arr n α := ⟨List.replicate n x, by simp⟩
instance {n : Nat} {α : Type} [Inhabited α] : Inhabited (Arr n α) := ⟨Arr.rep n default⟩
def ix {α : Type} [Inhabited α] (l : List α) (i : Int) : α := l.getD i.toNat default
def Arr.get {n : Nat} {α : Type} [Inhabited α] (a : Arr n α) (i : Int) : α := ix a.l i
def Arr.set {n : Nat} {α : Type} (a : Arr n α) (i : Int) (x : α) : Arr n α := ⟨a.l.set i.toNat x, by simp [a.h]⟩
theorem len_flat {α : Type} (K : Kd α) (l : List α) : (l.flatMap K.enc).length = l.length * K.size := by
  induction l with
  | nil => simp
  | cons x l ih => simp [List.flatMap_cons, ih, K.len, Nat.add_mul]; omega
theorem one_flat {α : Type} (K : Kd α) (l : List α) : ∀ v ∈ l.flatMap K.enc, v.oneCell' = true := by
  intro v hv
  obtain ⟨x, _, hx⟩ := List.mem_flatMap.1 hv
  exact K.one x v hx
def kA (n : Nat) {α : Type} (K : Kd α) : Kd (Arr n α) := ⟨fun a => a.l.flatMap K.enc, n * K.size, fun a => by rw [len_flat, a.h], fun a => one_flat K a.l⟩
def At (w : World) (b o : Nat) (cs : List Value) : Prop := ∀ j v, cs[j]? = some v → w.cell? ⟨b, o + j, none⟩ = some v
theorem At.sub {w : World} {b o : Nat} {cs : List Value} (h : At w b o cs) {p : Nat} {m r : List Value} {q : List Value} (e : cs = q ++ (m ++ r)) (hp : q.length = p) : At w b (o + p) m := by
  intro j v hv
  have := h (p + j) v (by
    subst e
    subst hp
    rw [List.getElem?_append_right (by omega), Nat.add_sub_cancel_left]
    have hj : j < m.length := (List.getElem?_eq_some_iff.1 hv).1
    rw [List.getElem?_append_left hj]
    exact hv)
  rw [← Nat.add_assoc] at this
  exact this
theorem flat_split {α : Type} (K : Kd α) [Inhabited α] (l : List α) (i : Nat) (hi : i < l.length) :
    l.flatMap K.enc = (l.take i).flatMap K.enc ++ (K.enc (l.getD i default) ++ (l.drop (i + 1)).flatMap K.enc) := by
  have h1 : l = l.take i ++ (l.getD i default :: l.drop (i + 1)) := by
    rw [List.getD_eq_getElem?_getD, List.getElem?_eq_getElem hi]
    simp
  conv => lhs; rw [h1]
  rw [List.flatMap_append, List.flatMap_cons]
theorem At.elem {α : Type} [Inhabited α] {K : Kd α} {w : World} {b o : Nat} {l : List α} (h : At w b o (l.flatMap K.enc)) {i : Int} (h0 : 0 ≤ i) (h1 : i < (l.length : Int)) :
    At w b (o + i.toNat * K.size) (K.enc (ix l i)) :=
  h.sub (flat_split K l i.toNat (by omega)) (by rw [len_flat, List.length_take, Nat.min_eq_left (by omega)])
structure Spl (cs : List Value) (o : Nat) (x cs' : List Value) : Prop where
  e : cs' = cs.take o ++ x ++ cs.drop (o + x.length)
  fit : o + x.length ≤ cs.length
theorem Spl.len {cs x cs' : List Value} {o : Nat} (h : Spl cs o x cs') : cs'.length = cs.length := by
  have := h.fit
  rw [h.e]
  simp
  omega
theorem Spl.whole {xs ys : List Value} (h : xs.length = ys.length) : Spl xs 0 ys ys := ⟨by simp [← h], by omega⟩
theorem Spl.mid {q m m' r : List Value} {o : Nat} (hq : q.length = o) (hm : m.length = m'.length) : Spl (q ++ (m ++ r)) o m' (q ++ (m' ++ r)) := by
  subst hq
  refine ⟨?_, by simp [hm]⟩
  rw [← hm]
  simp [List.take_append, List.drop_append]
theorem Spl.comp {q s s' r x : List Value} {o p : Nat} (hq : q.length = p) (h : Spl s o x s') : Spl (q ++ (s ++ r)) (p + o) x (q ++ (s' ++ r)) := by
  have hf := h.fit
  subst hq
  refine ⟨?_, by simp; omega⟩
  rw [h.e]
  have e1 : (q ++ (s ++ r)).take (q.length + o) = q ++ s.take o := by
    rw [List.take_append, List.take_of_length_le (by omega), Nat.add_sub_cancel_left, List.take_append, Nat.sub_eq_zero_of_le (show o ≤ s.length from by omega), List.take_zero, List.append_nil]
  have e2 : (q ++ (s ++ r)).drop (q.length + o + x.length) = s.drop (o + x.length) ++ r := by
    rw [List.drop_append, List.drop_of_length_le (by omega), List.nil_append, show q.length + o + x.length - q.length = o + x.length from by omega, List.drop_append, Nat.sub_eq_zero_of_le (show o + x.length ≤ s.length from by omega), List.drop_zero]
  rw [e1, e2]
  simp
theorem Spl.seg_in (ss : List Seg) (i : Nat) (s' : Seg) {s : Seg} {o p : Nat} {x : List Value} (hs : ss[i]? = some s) (hp : sumN (ss.take i) = p) (h : Spl s.l o x s'.l) :
    Spl (cellsOf ss) (p + o) x (cellsOf (ss.take i ++ (s' :: ss.drop (i + 1)))) := by
  obtain ⟨hi, he⟩ := List.getElem?_eq_some_iff.1 hs
  have e : ss = ss.take i ++ (s :: ss.drop (i + 1)) := by
    conv => lhs; rw [← List.take_append_drop i ss]
    rw [List.drop_eq_getElem_cons hi, he]
  have e2 : cellsOf ss = cellsOf (ss.take i) ++ (s.l ++ cellsOf (ss.drop (i + 1))) := by
    conv => lhs; rw [e]
    rw [cellsOf_append, cellsOf]
  rw [e2, cellsOf_append, cellsOf]
  exact Spl.comp (by rw [len_cellsOf, hp]) h
theorem flat_set {α : Type} (K : Kd α) (l : List α) (i : Nat) (hi : i < l.length) (y : α) :
    (l.set i y).flatMap K.enc = (l.take i).flatMap K.enc ++ (K.enc y ++ (l.drop (i + 1)).flatMap K.enc) := by
  rw [List.set_eq_take_append_cons_drop, if_pos hi, List.flatMap_append, List.flatMap_cons]
theorem Spl.elem {α : Type} [Inhabited α] {K : Kd α} (l : List α) (i : Int) (y : α) {o : Nat} {x : List Value} (h0 : 0 ≤ i) (h1 : i < (l.length : Int)) (h : Spl (K.enc (ix l i)) o x (K.enc y)) :
    Spl (l.flatMap K.enc) (i.toNat * K.size + o) x ((l.set i.toNat y).flatMap K.enc) := by
  have hi : i.toNat < l.length := by omega
  rw [flat_split K l i.toNat hi, flat_set K l i.toNat hi y]
  exact Spl.comp (by rw [len_flat, List.length_take, Nat.min_eq_left (by omega)]) h
def Blk (w : World) (g : Nat) (T : TypeId) (ss : List Seg) : Prop := w.heap[g]? = some (.cells (cellsOf ss).toArray T (0, 0))
def sb : Value → Nat
  | .slice (some a) _ _ => a.block
  | _ => 0
def so : Value → Nat
  | .slice (some a) _ _ => a.off
  | _ => 0
def Rd {α : Type} (K : Kd α) (w : World) (v : Value) (l : List α) : Prop :=
  ∃ A c, v = .slice A l.length c ∧ l.length ≤ c ∧ (0 < l.length → ∃ b o, A = some ⟨b, o, none⟩ ∧ At w b o (l.flatMap K.enc))
theorem Rd.val {α : Type} {K : Kd α} {w : World} {v : Value} {l : List α} (h : Rd K w v l) : ∃ A c, v = .slice A l.length c := by
  obtain ⟨A, c, e, _⟩ := h
  exact ⟨A, c, e⟩
theorem Rd.one {α : Type} {K : Kd α} {w : World} {v : Value} {l : List α} (h : Rd K w v l) : v.oneCell' = true := by
  obtain ⟨A, c, rfl, _⟩ := h
  rfl
theorem Rd.nil {α : Type} (K : Kd α) (w : World) : Rd K w (.slice none 0 0) [] := ⟨none, 0, rfl, Nat.le_refl _, fun h => by simp at h⟩
theorem Rd.elem {α : Type} [Inhabited α] {K : Kd α} {w : World} {v : Value} {l : List α} (h : Rd K w v l) {i : Int} (h0 : 0 ≤ i) (h1 : i < (l.length : Int)) : At w (sb v) (so v + i.toNat * K.size) (K.enc (ix l i)) := by
  obtain ⟨A, c, rfl, hc, hr⟩ := h
  obtain ⟨b, o, rfl, ha⟩ := hr (by omega)
  exact ha.elem h0 h1
def Own {α : Type} (K : Kd α) (E : TypeId) (w : World) (B : Nat) (v : Value) (l : List α) : Prop := w.ownsRow B E K.size v l.length (l.flatMap K.enc)
theorem Own.nil {α : Type} (K : Kd α) (E : TypeId) (w : World) (B : Nat) : Own K E w B (.slice none 0 0) [] := World.ownsRow_nil w B E K.size
theorem Own.rd {α : Type} {K : Kd α} {E : TypeId} {w : World} {B : Nat} {v : Value} {l : List α} (h : Own K E w B v l) : Rd K w v l := by
  rcases h.2 with ⟨rfl, h0⟩ | ⟨g, cap, cur, rfl, hb, hg, hn, hm, hs, ht⟩
  · have : l = [] := List.eq_nil_of_length_eq_zero h0
    subst this
    exact Rd.nil K w
  · refine ⟨_, cap, rfl, hn, fun _ => ⟨g, 0, rfl, fun j u hu => ?_⟩⟩
    have := World.ownsRow.cells (g := g) h rfl j u hu
    rwa [Addr.add_lit] at this
theorem Own.fr {α : Type} {K : Kd α} {E : TypeId} {S : Nat → Prop} {w w' : World} {B : Nat} {v : Value} {l : List α} (h : Own K E w B v l) (hf : Fr S w w') (hs : ∀ k, v.ownBlock = some k → ¬ S k) : Own K E w' B v l := by
  refine ⟨h.1, ?_⟩
  rcases h.2 with hn | ⟨g, cap, cur, rfl, hb, hg, r⟩
  · exact .inl hn
  · exact .inr ⟨g, cap, cur, rfl, hb, (hf.blk g (Array.getElem?_eq_some_iff.1 hg).1 (hs g rfl)).trans hg, r⟩
theorem Own.base {α : Type} {K : Kd α} {E : TypeId} {w : World} {B B' : Nat} {v : Value} {l : List α} (h : Own K E w B v l) (hb : B' ≤ B) : Own K E w B' v l := by
  refine ⟨h.1, ?_⟩
  rcases h.2 with hn | ⟨g, cap, cur, rfl, hb', r⟩
  · exact .inl hn
  · exact .inr ⟨g, cap, cur, rfl, Nat.le_trans hb hb', r⟩
theorem Own.lt {α : Type} {K : Kd α} {E : TypeId} {w : World} {B : Nat} {v : Value} {l : List α} (h : Own K E w B v l) {k : Nat} (hk : v.ownBlock = some k) : k < w.heap.size := (World.ownsRow.lt h k hk).2
def Off (v : Value) (g : Nat) : Prop := v.ownBlock ≠ some g
def fldB (P : Program) (T i : Nat) : Option Nat := match P.underlying T with
  | some (.struct fs) => (fs[i]?).bind fun f => match P.info? f.type with
    | some inf => if inf.size = 0 then none else some f.offset
    | none => none
  | _ => none
def aggB (P : Program) (T : TypeId) : Option Bool := (P.underlying T).map fun | .struct _ | .array _ _ => true | _ => false
def szB (P : Program) (T : TypeId) : Option Nat := (P.info? T).map (·.size)
def calB (P : Program) (f : FuncId) : Option Bool := (P.funcs[f]?).map fun fn => !(fn.name == "runtime.NumGoroutine") && !fn.body.isNone
def bAnd (k : IntKind) (a b : Int) : Int := k.wrap (BitVec.ofInt k.bits a &&& BitVec.ofInt k.bits b).toNat
def bOr (k : IntKind) (a b : Int) : Int := k.wrap (BitVec.ofInt k.bits a ||| BitVec.ofInt k.bits b).toNat
def bXor (k : IntKind) (a b : Int) : Int := k.wrap (BitVec.ofInt k.bits a ^^^ BitVec.ofInt k.bits b).toNat
def bNot (k : IntKind) (a b : Int) : Int := k.wrap (BitVec.ofInt k.bits a &&& ~~~ BitVec.ofInt k.bits b).toNat
def shL (k : IntKind) (a b : Int) : Int := k.wrap (a * 2 ^ min b.toNat k.bits)
def shR (k : IntKind) (a b : Int) : Int := a.fdiv (2 ^ min b.toNat k.bits)
def mnI (a b : Int) : Int := if b < a then b else a
def mxI (a b : Int) : Int := if a < b then b else a
def toB (x : Int) : UInt8 := UInt8.ofNat x.toNat
def ofB (b : UInt8) : Int := (b.toNat : Int)
section
variable {P : Program} {ρ : Env} {w : World} {o : Oper} {x y z : Operand} {T T' : TypeId}
theorem xr_move {v : Value} (ho : o.op = .move x) (hx : evO ρ x = v) : (execOp (evO ρ) o).run P w = .ok (.value v) w := by simp [execOp, ho, hx]
theorem xr_assign {v : Value} (ho : o.op = .assign x) (hx : evO ρ x = v) : (execOp (evO ρ) o).run P w = .ok (.value v) w := by simp [execOp, ho, hx]
theorem xr_pickT {v : Value} {b : Bool} (ho : o.op = .pick x y z) (hx : evO ρ x = .bool b) (hb : b = true) (hv : evO ρ y = v) : (execOp (evO ρ) o).run P w = .ok (.value v) w := by simp [execOp, ho, hx, hb, hv, asBool]
theorem xr_pickF {v : Value} {b : Bool} (ho : o.op = .pick x y z) (hx : evO ρ x = .bool b) (hb : b = false) (hv : evO ρ z = v) : (execOp (evO ρ) o).run P w = .ok (.value v) w := by simp [execOp, ho, hx, hb, hv, asBool]
theorem xr_not {b : Bool} (ho : o.op = .unOp .not T x) (hx : evO ρ x = .bool b) : (execOp (evO ρ) o).run P w = .ok (.value (.bool (!b))) w := by simp [execOp, ho, hx, Op.unary]
theorem xr_add {k : IntKind} {a b : Int} (ho : o.op = .binOp .add T x y T') (hx : evO ρ x = .int k a) (hy : evO ρ y = .int k b) : (execOp (evO ρ) o).run P w = .ok (.value (.int k (k.wrap (a + b)))) w := by simp [execOp, ho, hx, hy, eqGuard, binOp, Op.intArith]
theorem xr_sub {k : IntKind} {a b : Int} (ho : o.op = .binOp .sub T x y T') (hx : evO ρ x = .int k a) (hy : evO ρ y = .int k b) : (execOp (evO ρ) o).run P w = .ok (.value (.int k (k.wrap (a - b)))) w := by simp [execOp, ho, hx, hy, eqGuard, binOp, Op.intArith]
theorem xr_mul {k : IntKind} {a b : Int} (ho : o.op = .binOp .mul T x y T') (hx : evO ρ x = .int k a) (hy : evO ρ y = .int k b) : (execOp (evO ρ) o).run P w = .ok (.value (.int k (k.wrap (a * b)))) w := by simp [execOp, ho, hx, hy, eqGuard, binOp, Op.intArith]
theorem xr_quo {k : IntKind} {a b : Int} (ho : o.op = .binOp .quo T x y T') (hx : evO ρ x = .int k a) (hy : evO ρ y = .int k b) (hb : b ≠ 0) : (execOp (evO ρ) o).run P w = .ok (.value (.int k (k.wrap (a.tdiv b)))) w := by simp [execOp, ho, hx, hy, eqGuard, binOp, Op.intDiv, hb]
theorem xr_rem {k : IntKind} {a b : Int} (ho : o.op = .binOp .rem T x y T') (hx : evO ρ x = .int k a) (hy : evO ρ y = .int k b) (hb : b ≠ 0) : (execOp (evO ρ) o).run P w = .ok (.value (.int k (a.tmod b))) w := by simp [execOp, ho, hx, hy, eqGuard, binOp, Op.intDiv, hb]
theorem xr_and {k : IntKind} {a b : Int} (ho : o.op = .binOp .and T x y T') (hx : evO ρ x = .int k a) (hy : evO ρ y = .int k b) : (execOp (evO ρ) o).run P w = .ok (.value (.int k (bAnd k a b))) w := by simp [execOp, ho, hx, hy, eqGuard, binOp, Op.intBits, bAnd]
theorem xr_or {k : IntKind} {a b : Int} (ho : o.op = .binOp .or T x y T') (hx : evO ρ x = .int k a) (hy : evO ρ y = .int k b) : (execOp (evO ρ) o).run P w = .ok (.value (.int k (bOr k a b))) w := by simp [execOp, ho, hx, hy, eqGuard, binOp, Op.intBits, bOr]
theorem xr_xor {k : IntKind} {a b : Int} (ho : o.op = .binOp .xor T x y T') (hx : evO ρ x = .int k a) (hy : evO ρ y = .int k b) : (execOp (evO ρ) o).run P w = .ok (.value (.int k (bXor k a b))) w := by simp [execOp, ho, hx, hy, eqGuard, binOp, Op.intBits, bXor]
theorem xr_andNot {k : IntKind} {a b : Int} (ho : o.op = .binOp .andNot T x y T') (hx : evO ρ x = .int k a) (hy : evO ρ y = .int k b) : (execOp (evO ρ) o).run P w = .ok (.value (.int k (bNot k a b))) w := by simp [execOp, ho, hx, hy, eqGuard, binOp, Op.intBits, bNot]
theorem xr_shl {k k' : IntKind} {a b : Int} (ho : o.op = .binOp .shl T x y T') (hx : evO ρ x = .int k a) (hy : evO ρ y = .int k' b) (hb : 0 ≤ b) : (execOp (evO ρ) o).run P w = .ok (.value (.int k (shL k a b))) w := by
  simp [execOp, ho, hx, hy, eqGuard, binOp, Op.shift, shL, Int.not_lt.2 hb]
theorem xr_shr {k k' : IntKind} {a b : Int} (ho : o.op = .binOp .shr T x y T') (hx : evO ρ x = .int k a) (hy : evO ρ y = .int k' b) (hb : 0 ≤ b) : (execOp (evO ρ) o).run P w = .ok (.value (.int k (shR k a b))) w := by
  simp [execOp, ho, hx, hy, eqGuard, binOp, Op.shift, shR, Int.not_lt.2 hb]
theorem xr_lss {k : IntKind} {a b : Int} (ho : o.op = .binOp .lss T x y T') (hx : evO ρ x = .int k a) (hy : evO ρ y = .int k b) : (execOp (evO ρ) o).run P w = .ok (.value (.bool (decide (a < b)))) w := by simp [execOp, ho, hx, hy, eqGuard, binOp, Op.intCmp]
theorem xr_leq {k : IntKind} {a b : Int} (ho : o.op = .binOp .leq T x y T') (hx : evO ρ x = .int k a) (hy : evO ρ y = .int k b) : (execOp (evO ρ) o).run P w = .ok (.value (.bool (decide (a ≤ b)))) w := by simp [execOp, ho, hx, hy, eqGuard, binOp, Op.intCmp]
theorem xr_gtr {k : IntKind} {a b : Int} (ho : o.op = .binOp .gtr T x y T') (hx : evO ρ x = .int k a) (hy : evO ρ y = .int k b) : (execOp (evO ρ) o).run P w = .ok (.value (.bool (decide (a > b)))) w := by simp [execOp, ho, hx, hy, eqGuard, binOp, Op.intCmp]
theorem xr_geq {k : IntKind} {a b : Int} (ho : o.op = .binOp .geq T x y T') (hx : evO ρ x = .int k a) (hy : evO ρ y = .int k b) : (execOp (evO ρ) o).run P w = .ok (.value (.bool (decide (a ≥ b)))) w := by simp [execOp, ho, hx, hy, eqGuard, binOp, Op.intCmp]
theorem xr_eqI {k : IntKind} {a b : Int} {d : TypeDesc} (ho : o.op = .binOp .eql T x y T') (hT : P.underlying T = some d) (hd : (match d with | .int _ => true | _ => false) = true) (hx : evO ρ x = .int k a) (hy : evO ρ y = .int k b) : (execOp (evO ρ) o).run P w = .ok (.value (.bool (decide (a = b)))) w := by
  cases d <;> simp at hd
  simp [execOp, ho, hx, hy, eqGuard, binOp, Op.intCmp, run_underlying hT]
  rfl
theorem xr_neI {k : IntKind} {a b : Int} {d : TypeDesc} (ho : o.op = .binOp .neq T x y T') (hT : P.underlying T = some d) (hd : (match d with | .int _ => true | _ => false) = true) (hx : evO ρ x = .int k a) (hy : evO ρ y = .int k b) : (execOp (evO ρ) o).run P w = .ok (.value (.bool (!decide (a = b)))) w := by
  cases d <;> simp at hd
  simp [execOp, ho, hx, hy, eqGuard, binOp, Op.intCmp, run_underlying hT]
  rfl
theorem xr_conv {k k' : IntKind} {a : Int} {d : TypeDesc} (ho : o.op = .convert T T' x) (hT : P.underlying T = some d) (hT' : P.underlying T' = some (.int k)) (hx : evO ρ x = .int k' a) : (execOp (evO ρ) o).run P w = .ok (.value (.int k (k.wrap a))) w := by
  simp [execOp, ho, hx, convert, run_underlying hT, run_underlying hT', Conv.intToInt]
theorem xr_extract {vs : Array Value} {i : Nat} {v : Value} (ho : o.op = .extract x i) (hx : evO ρ x = .tuple vs) (hv : vs[i]? = some v) : (execOp (evO ρ) o).run P w = .ok (.value v) w := by
  simp [execOp, ho, hx, Instr.extract, hv]
theorem xr_nilCheck {a : Addr} (ho : o.op = .nilCheck x) (hx : evO ρ x = .pointer (some a)) : (execOp (evO ρ) o).run P w = .ok (.value (.pointer (some a))) w := by
  simp [execOp, ho, hx]
theorem xr_lenS {A : Option Addr} {n c : Nat} {E : TypeId} (ho : o.op = .call ⟨.builtin .len, #[x], #[T]⟩) (hT : P.underlying T = some (.slice E)) (hx : evO ρ x = .slice A n c) : (execOp (evO ρ) o).run P w = .ok (.value (.int .i64 (n : Int))) w := by
  simp [execOp, ho, resolve, invoke, builtin, hx, Builtin.len_, run_underlying hT, goInt]
theorem xr_lenR {α : Type} {K : Kd α} {l : List α} {v : Value} {E : TypeId} {w' : World} (ho : o.op = .call ⟨.builtin .len, #[x], #[T]⟩) (hT : P.underlying T = some (.slice E)) (hx : evO ρ x = v) (hr : Rd K w' v l) : (execOp (evO ρ) o).run P w = .ok (.value (.int .i64 (l.length : Int))) w := by
  obtain ⟨A, c, rfl⟩ := hr.val
  exact xr_lenS ho hT hx
theorem xr_lenStr {l : List UInt8} (ho : o.op = .call ⟨.builtin .len, #[x], #[T]⟩) (hT : P.underlying T = some .string) (hx : evO ρ x = sv l) : (execOp (evO ρ) o).run P w = .ok (.value (.int .i64 (l.length : Int))) w := by
  have e : ByteArray.size ⟨l.toArray⟩ = l.length := by simp [ByteArray.size]
  simp [execOp, ho, resolve, invoke, builtin, hx, Builtin.len_, run_underlying hT, goInt, sv]
  exact congrArg _ e
theorem xr_min2 {k : IntKind} {a b : Int} {ts : Array TypeId} (ho : o.op = .call ⟨.builtin .min, #[x, y], ts⟩) (hx : evO ρ x = .int k a) (hy : evO ρ y = .int k b) : (execOp (evO ρ) o).run P w = .ok (.value (.int k (mnI a b))) w := by
  simp [execOp, ho, resolve, invoke, builtin, hx, hy, Builtin.min_, Builtin.min2, mnI]
theorem xr_fieldAddr {g p i q : Nat} (ho : o.op = .fieldAddr T x i) (hf : fldB P T i = some q) (hx : evO ρ x = .pointer (some ⟨g, p, none⟩)) : (execOp (evO ρ) o).run P w = .ok (.value (.pointer (some ⟨g, p + q, none⟩))) w := by
  unfold fldB at hf
  split at hf
  · rename_i fs hu
    cases hi : fs[i]? with
    | none => simp [hi] at hf
    | some f =>
      simp only [hi, Option.bind_some] at hf
      cases hinf : P.info? f.type with
      | none => simp [hinf] at hf
      | some inf =>
        simp only [hinf] at hf
        split at hf
        · simp at hf
        · rename_i hs
          obtain rfl : f.offset = q := by simpa using hf
          simp [execOp, ho, hx, Instr.fieldAt, run_underlying hu, hi, Instr.sureAddr, fieldPlace, sizeOf, typeInfo, hinf, hs, Addr.add_lit]
  · simp at hf
theorem xr_indexA {g p len s : Nat} {E : TypeId} {k : IntKind} {i : Int} (ho : o.op = .indexAddr T x y) (hT : P.underlying T = some (.array len E)) (hs : szB P E = some s)
    (hx : evO ρ x = .pointer (some ⟨g, p, none⟩)) (hy : evO ρ y = .int k i) (h0 : 0 ≤ i) (h1 : i < (len : Int)) : (execOp (evO ρ) o).run P w = .ok (.value (.pointer (some ⟨g, p + i.toNat * s, none⟩))) w := by
  unfold szB at hs
  obtain ⟨inf, hinf, rfl⟩ := Option.map_eq_some_iff.1 hs
  simp [execOp, ho, hx, hy, Instr.indexAt, asIntOf, run_underlying hT, Instr.sureAddr, h0, h1, sizeOf, typeInfo, hinf, Addr.add_lit]
theorem xr_indexR {α : Type} {K : Kd α} {l : List α} {v : Value} {E : TypeId} {k : IntKind} {i : Int} (ho : o.op = .indexAddr T x y) (hT : P.underlying T = some (.slice E)) (hs : szB P E = some K.size)
    (hx : evO ρ x = v) (hr : Rd K w v l) (hy : evO ρ y = .int k i) (h0 : 0 ≤ i) (h1 : i < (l.length : Int)) : (execOp (evO ρ) o).run P w = .ok (.value (.pointer (some ⟨sb v, so v + i.toNat * K.size, none⟩))) w := by
  unfold szB at hs
  obtain ⟨inf, hinf, he⟩ := Option.map_eq_some_iff.1 hs
  obtain ⟨A, c, rfl, hc, hr⟩ := hr
  obtain ⟨b, q, rfl, _⟩ := hr (by omega)
  simp [execOp, ho, hx, hy, Instr.indexAt, asIntOf, run_underlying hT, h0, h1, sizeOf, typeInfo, hinf, Addr.add_lit, he, sb, so]
theorem xr_load1 {g p : Nat} {v : Value} (ho : o.op = .load T x) (hT : aggB P T = some false) (hx : evO ρ x = .pointer (some ⟨g, p, none⟩)) (ha : At w g p [v]) : (execOp (evO ρ) o).run P w = .ok (.value v) w := by
  unfold aggB at hT
  obtain ⟨d, hu, hd⟩ := Option.map_eq_some_iff.1 hT
  have hc := ha 0 v rfl
  rw [Nat.add_zero] at hc
  have hagg : (isAgg T).run P w = .ok false w := by
    unfold isAgg
    rw [Sem.run_bind, run_underlying hu w]
    cases d <;> simp_all
  simp [execOp, ho, hx, Instr.loadAt, Instr.sureAddr, loadVar, hagg, hc]
theorem xr_loadA {g p : Nat} {cs : List Value} (ho : o.op = .load T x) (hT : aggB P T = some true) (hs : szB P T = some cs.length) (hx : evO ρ x = .pointer (some ⟨g, p, none⟩)) (ha : At w g p cs) : (execOp (evO ρ) o).run P w = .ok (.value (.agg cs.toArray)) w := by
  unfold aggB at hT
  unfold szB at hs
  obtain ⟨inf, hinf, he⟩ := Option.map_eq_some_iff.1 hs
  obtain ⟨d, hu, hd⟩ := Option.map_eq_some_iff.1 hT
  have hagg : (isAgg T).run P w = .ok true w := by
    unfold isAgg
    rw [Sem.run_bind, run_underlying hu w]
    cases d <;> simp_all
  have hl := run_loadCells_list (P := P) w ⟨g, p, none⟩ cs (fun j v hv => by rw [Addr.add_lit]; exact ha j v hv)
  simp [execOp, ho, hx, Instr.loadAt, Instr.sureAddr, loadVar, hagg, sizeOf, typeInfo, hinf, he, hl]
end
section
variable {P : Program} {n : Nat} {ρ : Env} {w : World} {Q : Exit → Env → World → Prop} {ops : Array Oper} {l : List Oper} {o : Oper} {x y : Operand} {T T' : TypeId} {d : Nat}
theorem run_storeCells_spl {g p : Nat} {cs x cs' : List Value} {T : TypeId} (hg : w.heap[g]? = some (.cells cs.toArray T (0, 0))) (hs : Spl cs p x cs') (h1 : ∀ v ∈ x, v.oneCell' = true) :
    (storeCells ⟨g, p, none⟩ x).run P w = .ok () (w.setRow g cs'.toArray) := by
  have := run_storeCells_at P g p T x 0 cs.toArray w hg (by simpa using hs.fit) h1
  simp only [Nat.add_zero] at this
  rw [this, hs.e]
theorem Own.store {α : Type} [Inhabited α] {K : Kd α} {E : TypeId} {B : Nat} {v : Value} {L : List α} (h : Own K E w B v L) {i : Int} (h0 : 0 ≤ i) (h1 : i < (L.length : Int)) {p : Nat} {xs : List Value} {z : α} (hs : Spl (K.enc (ix L i)) p xs (K.enc z))
    (hone : ∀ u ∈ xs, u.oneCell' = true) : ∃ w', (storeCells ⟨sb v, so v + (i.toNat * K.size + p), none⟩ xs).run P w = .ok () w' ∧ Own K E w' B v (L.set i.toNat z) ∧ Fr (fun j => some j = v.ownBlock) w w' := by
  rcases h.2 with ⟨rfl, hn⟩ | ⟨g, cap, cur, rfl, hb, hg, hn, hm, hcs, ht⟩
  · omega
  · have hsp := Spl.elem L i z h0 h1 hs
    have hlen : (L.flatMap K.enc).length = L.length * K.size := h.1
    have hcur : cur = (L.flatMap K.enc ++ cur.toList.drop (L.length * K.size)).toArray := by
      rw [← ht, List.take_append_drop, Array.toArray_toList]
    have hsp2 : Spl (L.flatMap K.enc ++ cur.toList.drop (L.length * K.size)) (i.toNat * K.size + p) xs ((L.set i.toNat z).flatMap K.enc ++ cur.toList.drop (L.length * K.size)) := by
      have := Spl.comp (q := []) (r := cur.toList.drop (L.length * K.size)) (p := 0) rfl hsp
      simpa using this
    have hg' : w.heap[g]? = some (.cells (L.flatMap K.enc ++ cur.toList.drop (L.length * K.size)).toArray E (0, 0)) := by rw [← hcur]; exact hg
    have hst := run_storeCells_spl (P := P) hg' hsp2 hone
    refine ⟨_, by simpa [sb, so] using hst, ⟨by rw [len_flat, List.length_set], .inr ⟨g, cap, _, by rw [List.length_set], hb, setRow_heap w g _ _ E _ hg, by simpa using hn, hm, ?_, ?_⟩⟩, ?_⟩
    · have := hsp2.len
      rw [List.size_toArray, this, ← hcs]
      conv => rhs; rw [hcur]
      simp
    · have e : (L.set i.toNat z).length * K.size = ((L.set i.toNat z).flatMap K.enc).length := (len_flat K _).symm
      rw [e]
      simp
    · exact (Fr.setRow g _).mono fun j hj => by subst hj; simp [Value.ownBlock]
theorem opv_storeRow {α : Type} [Inhabited α] {K : Kd α} {E : TypeId} {B m p q : Nat} {v u : Value} {L : List α} {xs : List Value} {z : α} {i : Int} (ho : o.op = .store T' x y) (hsz : szB P T' = some m) (hx : evO ρ x = .pointer (some ⟨sb v, q, none⟩)) (hy : evO ρ y = u)
    (hc : u.cells = xs.toArray) (hm : xs.length = m) (hone : ∀ u ∈ xs, u.oneCell' = true) (h : Own K E w B v L) (h0 : 0 ≤ i) (h1 : i < (L.length : Int)) (hs : Spl (K.enc (ix L i)) p xs (K.enc z)) (hq : q = so v + (i.toNat * K.size + p)) :
    OpV P o ρ w (fun _ w' => Own K E w' B v (L.set i.toNat z) ∧ Fr (fun j => some j = v.ownBlock) w w') := by
  unfold szB at hsz
  obtain ⟨inf, hinf, he⟩ := Option.map_eq_some_iff.1 hsz
  obtain ⟨w', hst, h2, h3⟩ := h.store (P := P) h0 h1 hs hone
  subst hq
  exact opv_skip (w' := w') (by simp [execOp, ho, hx, hy, Instr.storeAt, Instr.sureAddr, storeVar, sizeOf, typeInfo, hinf, hc, hm, he, hst]) ⟨h2, h3⟩
end
def subv (s : Nat) (v : Value) (lo hi : Nat) : Value := match v with
  | .slice a _ c => .slice (if c = lo then a else a.map (·.add (lo * s))) (hi - lo) (c - lo)
  | v => v
def cut {α : Type} (l : List α) (lo hi : Int) : List α := (l.take hi.toNat).drop lo.toNat
theorem cut_length {α : Type} (l : List α) {lo hi : Int} (h0 : 0 ≤ lo) (h1 : lo ≤ hi) (h2 : hi ≤ (l.length : Int)) : (cut l lo hi).length = hi.toNat - lo.toNat := by
  simp [cut]
  omega
theorem Rd.cut {α : Type} {K : Kd α} {w : World} {v : Value} {l : List α} (h : Rd K w v l) {lo hi : Int} (h0 : 0 ≤ lo) (h1 : lo ≤ hi) (h2 : hi ≤ (l.length : Int)) : Rd K w (subv K.size v lo.toNat hi.toNat) (Xw.cut l lo hi) := by
  obtain ⟨A, c, rfl, hc, hr⟩ := h
  have hl := cut_length l h0 h1 h2
  refine ⟨_, c - lo.toNat, by rw [hl]; rfl, by rw [hl]; omega, fun hp => ?_⟩
  obtain ⟨b, o, rfl, ha⟩ := hr (by omega)
  refine ⟨b, o + lo.toNat * K.size, ?_, ?_⟩
  · rw [if_neg (by omega)]
    simp [Addr.add_lit]
  · have e : l = l.take lo.toNat ++ (Xw.cut l lo hi ++ l.drop hi.toNat) := by
      have e1 : l.take hi.toNat = l.take lo.toNat ++ Xw.cut l lo hi := by
        unfold Xw.cut
        conv => lhs; rw [← List.take_append_drop lo.toNat (l.take hi.toNat)]
        rw [List.take_take, Nat.min_eq_left (by omega)]
      rw [← List.append_assoc, ← e1, List.take_append_drop]
    refine ha.sub (q := (l.take lo.toNat).flatMap K.enc) (r := (l.drop hi.toNat).flatMap K.enc) ?_ (by rw [len_flat, List.length_take, Nat.min_eq_left (by omega)])
    conv => lhs; rw [e]
    rw [List.flatMap_append, List.flatMap_append]
theorem sliceBound_ok {P : Program} {w : World} {k : IntKind} {i : Int} {y : Nat} {code : BoundsCode} (h0 : 0 ≤ i) (h1 : i ≤ (y : Int)) : (Instr.sliceBound (.int k i) y code).run P w = .ok i.toNat w := by
  simp [Instr.sliceBound, asIntOf, h0, h1]
section
variable {P : Program} {ρ : Env} {w : World} {o : Oper} {x a b : Operand} {T E : TypeId}
theorem xr_slice_n {α : Type} {K : Kd α} {l : List α} {v : Value} (ho : o.op = .slice T x none none none) (hT : P.underlying T = some (.slice E)) (hs : szB P E = some K.size) (hx : evO ρ x = v) (hr : Rd K w v l) :
    (execOp (evO ρ) o).run P w = .ok (.value (subv K.size v 0 l.length)) w := by
  unfold szB at hs
  obtain ⟨inf, hinf, he⟩ := Option.map_eq_some_iff.1 hs
  obtain ⟨A, c, rfl, hc, _⟩ := hr
  simp [execOp, ho, hx, Instr.sliceAt, Instr.slice, run_underlying hT, Instr.sliceBounds, sizeOf, typeInfo, hinf, he, subv]
theorem xr_slice_l {α : Type} {K : Kd α} {l : List α} {v : Value} {k : IntKind} {lo : Int} (ho : o.op = .slice T x (some a) none none) (hT : P.underlying T = some (.slice E)) (hs : szB P E = some K.size) (hx : evO ρ x = v) (hr : Rd K w v l)
    (ha : evO ρ a = .int k lo) (h0 : 0 ≤ lo) (h1 : lo ≤ (l.length : Int)) : (execOp (evO ρ) o).run P w = .ok (.value (subv K.size v lo.toNat l.length)) w := by
  unfold szB at hs
  obtain ⟨inf, hinf, he⟩ := Option.map_eq_some_iff.1 hs
  obtain ⟨A, c, rfl, hc, _⟩ := hr
  simp [execOp, ho, hx, ha, Instr.sliceAt, Instr.slice, run_underlying hT, Instr.sliceBounds, sizeOf, typeInfo, hinf, he, subv, sliceBound_ok h0 h1]
theorem xr_slice_h {α : Type} {K : Kd α} {l : List α} {v : Value} {k : IntKind} {hi : Int} (ho : o.op = .slice T x none (some b) none) (hT : P.underlying T = some (.slice E)) (hs : szB P E = some K.size) (hx : evO ρ x = v) (hr : Rd K w v l)
    (hb : evO ρ b = .int k hi) (h0 : 0 ≤ hi) (h1 : hi ≤ (l.length : Int)) : (execOp (evO ρ) o).run P w = .ok (.value (subv K.size v 0 hi.toNat)) w := by
  unfold szB at hs
  obtain ⟨inf, hinf, he⟩ := Option.map_eq_some_iff.1 hs
  obtain ⟨A, c, rfl, hc, _⟩ := hr
  have hc' : hi ≤ (c : Int) := by omega
  simp [execOp, ho, hx, hb, Instr.sliceAt, Instr.slice, run_underlying hT, Instr.sliceBounds, sizeOf, typeInfo, hinf, he, subv, sliceBound_ok h0 hc']
theorem xr_slice_lh {α : Type} {K : Kd α} {l : List α} {v : Value} {k k' : IntKind} {lo hi : Int} (ho : o.op = .slice T x (some a) (some b) none) (hT : P.underlying T = some (.slice E)) (hs : szB P E = some K.size) (hx : evO ρ x = v) (hr : Rd K w v l)
    (ha : evO ρ a = .int k lo) (hb : evO ρ b = .int k' hi) (h0 : 0 ≤ lo) (h1 : lo ≤ hi) (h2 : hi ≤ (l.length : Int)) : (execOp (evO ρ) o).run P w = .ok (.value (subv K.size v lo.toNat hi.toNat)) w := by
  unfold szB at hs
  obtain ⟨inf, hinf, he⟩ := Option.map_eq_some_iff.1 hs
  obtain ⟨A, c, rfl, hc, _⟩ := hr
  have hc' : hi ≤ (c : Int) := by omega
  have h0' : 0 ≤ hi := by omega
  have hlo : lo ≤ ((hi.toNat : Nat) : Int) := by omega
  simp [execOp, ho, hx, ha, hb, Instr.sliceAt, Instr.slice, run_underlying hT, Instr.sliceBounds, sizeOf, typeInfo, hinf, he, subv, sliceBound_ok h0' hc', sliceBound_ok h0 hlo]
theorem size_mk (l : List UInt8) : ByteArray.size ⟨l.toArray⟩ = l.length := by simp [ByteArray.size]
theorem extract_mk (l : List UInt8) (p q : Nat) : ByteArray.extract ⟨l.toArray⟩ p q = ⟨((l.take q).drop p).toArray⟩ := by
  apply ByteArray.ext
  rw [ByteArray.data_extract]
  apply Array.toList_inj.1
  simp [List.extract_eq_take_drop, List.drop_take]
theorem xr_str_l {l : List UInt8} {k : IntKind} {lo : Int} (ho : o.op = .slice T x (some a) none none) (hT : P.underlying T = some .string) (hx : evO ρ x = sv l) (ha : evO ρ a = .int k lo) (h0 : 0 ≤ lo) (h1 : lo ≤ (l.length : Int)) :
    (execOp (evO ρ) o).run P w = .ok (.value (sv (cut l lo l.length))) w := by
  have e := size_mk l
  have h1' : lo ≤ ((ByteArray.size ⟨l.toArray⟩ : Nat) : Int) := by rw [e]; exact h1
  simp [execOp, ho, hx, ha, Instr.sliceAt, Instr.slice, run_underlying hT, Instr.sliceBounds, sv, sliceBound_ok h0 h1', extract_mk, cut]
  rw [e, List.take_length]
theorem xr_str_h {l : List UInt8} {k : IntKind} {hi : Int} (ho : o.op = .slice T x none (some b) none) (hT : P.underlying T = some .string) (hx : evO ρ x = sv l) (hb : evO ρ b = .int k hi) (h0 : 0 ≤ hi) (h1 : hi ≤ (l.length : Int)) :
    (execOp (evO ρ) o).run P w = .ok (.value (sv (cut l 0 hi))) w := by
  have e := size_mk l
  have h1' : hi ≤ ((ByteArray.size ⟨l.toArray⟩ : Nat) : Int) := by rw [e]; exact h1
  simp [execOp, ho, hx, hb, Instr.sliceAt, Instr.slice, run_underlying hT, Instr.sliceBounds, sv, sliceBound_ok h0 h1', extract_mk, cut]
theorem xr_str_lh {l : List UInt8} {k k' : IntKind} {lo hi : Int} (ho : o.op = .slice T x (some a) (some b) none) (hT : P.underlying T = some .string) (hx : evO ρ x = sv l) (ha : evO ρ a = .int k lo) (hb : evO ρ b = .int k' hi) (h0 : 0 ≤ lo) (h1 : lo ≤ hi) (h2 : hi ≤ (l.length : Int)) :
    (execOp (evO ρ) o).run P w = .ok (.value (sv (cut l lo hi))) w := by
  have e := size_mk l
  have h0' : 0 ≤ hi := by omega
  have h1' : hi ≤ ((ByteArray.size ⟨l.toArray⟩ : Nat) : Int) := by rw [e]; exact h2
  have hlo : lo ≤ ((hi.toNat : Nat) : Int) := by omega
  simp [execOp, ho, hx, ha, hb, Instr.sliceAt, Instr.slice, run_underlying hT, Instr.sliceBounds, sv, sliceBound_ok h0' h1', sliceBound_ok h0 hlo, extract_mk, cut]
theorem xr_sliceArr {g p len : Nat} {s : Nat} (ho : o.op = .slice T x none none none) (hT : P.underlying T = some (.array len E)) (hs : szB P E = some s) (hx : evO ρ x = .pointer (some ⟨g, p, none⟩)) :
    (execOp (evO ρ) o).run P w = .ok (.value (.slice (some ⟨g, p, none⟩) len len)) w := by
  unfold szB at hs
  obtain ⟨inf, hinf, he⟩ := Option.map_eq_some_iff.1 hs
  simp [execOp, ho, hx, Instr.sliceAt, Instr.sureAddr, run_underlying hT, Instr.sliceBounds, sizeOf, typeInfo, hinf, Addr.add_lit]
theorem toList_mk (l : List UInt8) : ByteArray.toList ⟨l.toArray⟩ = l := by rw [ByteArray.toList_eq]
theorem mk_append (l m : List UInt8) : (⟨l.toArray⟩ ++ ⟨m.toArray⟩ : ByteArray) = ⟨(l ++ m).toArray⟩ := by
  apply ByteArray.ext
  simp
def LIM : Nat := 4294967296
theorem beq_dec (l m : List UInt8) : (l == m) = decide (l = m) := by
  by_cases h : l = m <;> simp [h]
theorem flat_kI (k : IntKind) (l : List Int) : l.flatMap (kI k).enc = l.map (Value.int k) := by
  induction l with
  | nil => rfl
  | cons z l ih => rw [List.flatMap_cons, ih]; rfl
theorem xr_addStr {l m : List UInt8} {T' : TypeId} (ho : o.op = .binOp .add T x a T') (hx : evO ρ x = sv l) (hy : evO ρ a = sv m) (hl : l.length + m.length ≤ LIM) : (execOp (evO ρ) o).run P w = .ok (.value (sv (l ++ m))) w := by
  unfold LIM at hl
  simp only [execOp, ho, hx, hy, eqGuard, binOp, sv, Op.stringOp]
  simp [mk_append]
  rw [size_mk, size_mk]
  omega
theorem xr_eqStr {l m : List UInt8} {T' : TypeId} (ho : o.op = .binOp .eql T x a T') (hT : P.underlying T = some .string) (hx : evO ρ x = sv l) (hy : evO ρ a = sv m) : (execOp (evO ρ) o).run P w = .ok (.value (.bool (decide (l = m)))) w := by
  simp only [execOp, ho, hx, hy, binOp, sv, Op.stringOp, toList_mk]
  simp [eqGuard, run_underlying hT, beq_dec]
theorem xr_neStr {l m : List UInt8} {T' : TypeId} (ho : o.op = .binOp .neq T x a T') (hT : P.underlying T = some .string) (hx : evO ρ x = sv l) (hy : evO ρ a = sv m) : (execOp (evO ρ) o).run P w = .ok (.value (.bool (!decide (l = m)))) w := by
  simp only [execOp, ho, hx, hy, binOp, sv, Op.stringOp, toList_mk]
  simp [eqGuard, run_underlying hT, beq_dec]
theorem xr_indexStr {l : List UInt8} {k : IntKind} {i : Int} (ho : o.op = .index T x a) (hT : P.underlying T = some .string) (hx : evO ρ x = sv l) (hy : evO ρ a = .int k i) (h0 : 0 ≤ i) (h1 : i < (l.length : Int)) :
    (execOp (evO ρ) o).run P w = .ok (.value (.int .u8 (ofB (l.getD i.toNat 0)))) w := by
  have hi : i.toNat < l.length := by omega
  have e : ((ByteArray.mk l.toArray)[i.toNat]? : Option UInt8) = some (l.getD i.toNat 0) := by
    have hs : i.toNat < (ByteArray.mk l.toArray).size := by rw [size_mk]; exact hi
    rw [getElem?_pos (ByteArray.mk l.toArray) i.toNat hs]
    simp only [List.getD_eq_getElem?_getD, List.getElem?_eq_getElem hi, Option.getD_some]
    rfl
  simp [execOp, ho, hx, hy, Instr.index, asIntOf, run_underlying hT, sv, h0, e, ofB]
theorem strOfNums_eq (xs : List Int) : strOfNums xs = ⟨(xs.map toB).toArray⟩ := by
  apply ByteArray.ext
  simp [strOfNums, toB]
theorem xr_toStr {v : Value} {l : List Int} {dT : TypeId} (ho : o.op = .convert T dT x) (hT : P.underlying T = some (.slice E)) (hE : P.underlying E = some (.int .u8)) (hD : P.underlying dT = some .string) (hx : evO ρ x = v) (hr : Rd (kI .u8) w v l) :
    (execOp (evO ρ) o).run P w = .ok (.value (sv (l.map toB))) w := by
  obtain ⟨A, c, rfl, hc, hr⟩ := hr
  have key : (convert T dT (.slice A l.length c)).run P w = .ok (sv (l.map toB)) w := by
    rcases Nat.eq_zero_or_pos l.length with h0 | hp
    · have : l = [] := List.eq_nil_of_length_eq_zero h0
      subst this
      cases A with
      | none => rw [run_convert_bytes_nil w T E hT hE _ _ dT hD]; rfl
      | some ad =>
        have hl : (loadCells ad 0).run P w = .ok #[] w := by simpa using run_loadCells_list (P := P) w ad [] (by simp)
        simp [convert, run_underlying hT, run_underlying hD, run_underlying hE, Conv.bytesToString, hl, sv]
        rfl
    · obtain ⟨b, q, rfl, ha⟩ := hr hp
      have := run_convert_bytes_arg (P := P) w T E hT hE b q l.length c l rfl (fun i hi => ha i _ (by
        rw [flat_kI, List.getElem?_map, List.getD_eq_getElem?_getD, List.getElem?_eq_getElem hi]
        rfl)) dT hD
      rw [this, strOfNums_eq]
      rfl
  simp [execOp, ho, hx, key]
end
def elB (P : Program) (E : TypeId) : Option (Option Value × Nat × Nat) := (P.info? E).map fun i => (i.zero, i.size, i.bytes)
theorem elB_parts {P : Program} {E : TypeId} {z : Value} {s b : Nat} (h : elB P E = some (some z, s, b)) : ∃ i, P.info? E = some i ∧ i.zero = some z ∧ i.size = s ∧ i.bytes = b := by
  obtain ⟨i, hi, hzz⟩ := Option.map_eq_some_iff.1 h
  simp only [Prod.mk.injEq] at hzz
  exact ⟨i, hi, hzz.1, hzz.2.1, hzz.2.2⟩
def splL {α : Type} (L : List α) (q : Nat) (m : List α) : List α := L.take q ++ m ++ L.drop (q + m.length)
theorem splL_length {α : Type} (L : List α) (q : Nat) (m : List α) (h : q + m.length ≤ L.length) : (splL L q m).length = L.length := by
  simp [splL]
  omega
theorem oneCell_cells {v : Value} (h : v.oneCell' = true) : v.cells = #[v] := by cases v <;> simp_all [Value.oneCell', Value.cells]
section
variable {P : Program} {ρ : Env} {w : World} {o : Oper} {x y : Operand} {T E : TypeId}
def NewR {α : Type} (K : Kd α) (E : TypeId) (B : Nat) (w : World) (l : List α) (v : Value) (w' : World) : Prop := Own K E w' B v l ∧ Gr w w' ∧ (∀ k, v.ownBlock = some k → w.heap.size ≤ k)
theorem madeCells_flat {α : Type} (K : Kd α) (z : α) (zc : Array Value) (h : zc = (K.enc z).toArray) (n : Nat) : (madeCells zc (n * K.size)).toList = (List.replicate n z).flatMap K.enc := by
  have hsz : zc.size = K.size := by rw [h]; simp [K.len]
  have key : ∀ n, (List.range (n * K.size)).map (fun i => zc[i % K.size]!) = (List.replicate n z).flatMap K.enc := by
    intro n
    induction n with
    | zero => simp
    | succ n ih =>
      rw [Nat.succ_mul, List.range_add, List.map_append, ih, List.replicate_succ', List.flatMap_append]
      congr 1
      rw [List.map_map]
      simp only [List.flatMap_cons, List.flatMap_nil, List.append_nil]
      apply List.ext_getElem (by simp [K.len])
      intro j h1 h2
      have hj : j < K.size := by simpa using h1
      have e : (n * K.size + j) % K.size = j := by rw [Nat.mul_comm, Nat.mul_add_mod]; exact Nat.mod_eq_of_lt hj
      have hj' : j < zc.size := by omega
      simp only [List.getElem_map, List.getElem_range, Function.comp, e]
      rw [getElem!_pos zc j hj']
      simp [h]
  have := key n
  simpa [madeCells, hsz] using this
theorem opv_make {α : Type} {K : Kd α} {z : α} {a b : Operand} {m : Int} {bs B : Nat} {zv : Value} (ho : o.op = .makeSlice T a b) (hT : P.underlying T = some (.slice E)) (hE : elB P E = some (some zv, K.size, bs)) (hz : zv.cells = (K.enc z).toArray)
    (ha : evO ρ a = .int .i64 m) (hb : evO ρ b = .int .i64 m) (h0 : 0 ≤ m) (h1 : m.toNat ≤ LIM) (hbs : Nat.ble bs 65536 = true) (hB : B ≤ w.heap.size) : OpV P o ρ w (NewR K E B w (List.replicate m.toNat z)) := by
  obtain ⟨i, hi, hiz, his, hib⟩ := elB_parts hE
  obtain ⟨k, rfl⟩ := Int.eq_ofNat_of_zero_le h0
  simp only [Int.toNat_natCast] at *
  unfold LIM at h1
  have hbs' : bs ≤ 65536 := Nat.le_of_ble_eq_true hbs
  have hby : i.bytes * k ≤ 281474976710656 := by
    rw [hib]
    calc bs * k ≤ 65536 * k := Nat.mul_le_mul_right _ hbs'
      _ ≤ 281474976710656 := by omega
  obtain ⟨w', hr, hown, hg⟩ := run_make_full (P := P) w w.heap.size T E i zv K.size hT hi hiz his .i64 .i64 k hby (by simp only [maxLen]; omega) (Nat.le_refl _)
  refine opv_val (w' := w') (v := .slice (some ⟨w.heap.size, 0, none⟩) k k) ?_ ?_
  · simp only [execOp, ho, ha, hb]
    simp [hr]
  · have hown' : Own K E w' w.heap.size (.slice (some ⟨w.heap.size, 0, none⟩) k k) (List.replicate k z) := by
      unfold Own
      rw [List.length_replicate, ← madeCells_flat K z zv.cells hz k]
      exact hown
    exact ⟨hown'.base hB, Fr.of_grown hg, fun q hq => by simp [Value.ownBlock] at hq; omega⟩
def AppR {α : Type} (K : Kd α) (E : TypeId) (B : Nat) (w : World) (v : Value) (l : List α) (v' : Value) (w' : World) : Prop := Own K E w' B v' l ∧ Fr (fun j => some j = v.ownBlock) w w' ∧ (∀ g, g < w.heap.size → Off v g → Off v' g)
theorem run_append_empty {B size n c : Nat} (T ty E : TypeId) (i : TypeInfo) (hT : P.underlying T = some (.slice E)) (hi : P.info? E = some i) {v : Value} {A : Option Addr} {xs : List Value} (hown : w.ownsRow B E size v n xs) :
    (Builtin.append_ #[T, T] ty #[v, .slice A 0 c]).run P w = .ok v w := by
  have hl : ∀ (ad : Addr), (loadCells ad 0).run P w = .ok #[] w := fun ad => by simpa using run_loadCells_list (P := P) w ad [] (by simp)
  rcases hown.2 with ⟨rfl, rfl⟩ | ⟨g, cap, cur, rfl, _, _, hnc, _⟩
  · cases A <;> simp [Builtin.append_, run_underlying hT, sizeOf, typeInfo, hi, Builtin.lenOf, Builtin.firstCells, hl]
  · cases A <;> simp [Builtin.append_, run_underlying hT, sizeOf, typeInfo, hi, Builtin.lenOf, Builtin.firstCells, hnc, storeCells, hl]
theorem Own.append {α : Type} {K : Kd α} {B bs : Nat} {v u zv : Value} {L M : List α} (h : Own K E w B v L) (hr : Rd K w u M) (ty : TypeId) (hT : P.underlying T = some (.slice E)) (hE : elB P E = some (some zv, K.size, bs)) (hz : zv.cells.size = K.size) (hK : 0 < K.size)
    (hbs : Nat.ble bs 32768 = true) (hlim : L.length + M.length ≤ LIM) (hB : B ≤ w.heap.size) : ∃ v' w', (Builtin.append_ #[T, T] ty #[v, u]).run P w = .ok v' w' ∧ AppR K E B w v (L ++ M) v' w' := by
  obtain ⟨i, hi, hiz, his, hib⟩ := elB_parts hE
  obtain ⟨A, c, rfl, hc, hr⟩ := hr
  unfold LIM at hlim
  have hbs' : bs ≤ 32768 := Nat.le_of_ble_eq_true hbs
  rcases Nat.eq_zero_or_pos M.length with h0 | hp
  · have : M = [] := List.eq_nil_of_length_eq_zero h0
    subst this
    refine ⟨v, w, run_append_empty T ty E i hT hi h, by rw [List.append_nil]; exact h, Fr.refl _ _, fun _ _ x => x⟩
  · obtain ⟨b, q, rfl, ha⟩ := hr hp
    have hnews : ∀ j z, (M.flatMap K.enc)[j]? = some z → w.cell? ((⟨b, q, none⟩ : Addr).add j) = some z := fun j z hz => by rw [Addr.add_lit]; exact ha j z hz
    have hlM : (M.flatMap K.enc).length = M.length * K.size := len_flat K M
    have hbytes : (L.length + M.length) * bs ≤ 140737488355328 := by
      calc (L.length + M.length) * bs ≤ (L.length + M.length) * 32768 := Nat.mul_le_mul_left _ hbs'
        _ ≤ 140737488355328 := by omega
    obtain ⟨v', w', hrun, hown, hg, hnil⟩ := run_append_own (P := P) w B T ty E i zv K.size bs hT hi hiz his hib hz hK v L.length (L.flatMap K.enc) h ⟨b, q, none⟩ M.length c (M.flatMap K.enc) hlM hnews (one_flat K M) (by simp only [maxLen]; omega) hbytes hB
    refine ⟨v', w', hrun, ?_, Fr.of_grownBy hg, fun g hg' ho => ?_⟩
    · unfold Own
      rw [List.length_append, List.flatMap_append]
      exact hown
    · have hnew : v'.ownBlock = v.ownBlock ∨ v'.ownBlock = some w.heap.size := by
        rcases h.2 with ⟨rfl, hn0⟩ | ⟨g0, cap, cur, rfl, hbg, hgg, hnc, hcm, hcs, htake⟩
        · have := run_append_nil (P := P) w T ty E i zv hT hi hiz ⟨b, q, none⟩ M.length c (M.flatMap K.enc) (by rw [hlM, his]) hnews hp (by omega) (by rw [hib]; calc M.length * bs ≤ M.length * 32768 := Nat.mul_le_mul_left _ hbs'
              _ ≤ 281474976710656 := by omega)
          rw [hrun] at this
          obtain ⟨rfl, _⟩ := Result.ok.inj this
          exact .inr rfl
        · by_cases hroom : L.length + M.length ≤ cap
          · have hfit : L.length * i.size + (M.flatMap K.enc).length ≤ cur.size := by rw [hlM, hcs, his, ← Nat.add_mul]; exact Nat.mul_le_mul_right _ hroom
            have := run_append_room (P := P) w T ty E i hT hi g0 L.length cap cur hgg ⟨b, q, none⟩ M.length c (M.flatMap K.enc) (by rw [hlM, his]) hnews (one_flat K M) hroom hfit
            rw [hrun] at this
            obtain ⟨rfl, _⟩ := Result.ok.inj this
            exact .inl rfl
          · have holds : ∀ j u, (L.flatMap K.enc)[j]? = some u → w.cell? ((⟨g0, 0, none⟩ : Addr).add j) = some u := World.ownsRow.cells (g := g0) h rfl
            have := run_append_grow (P := P) w T ty E i zv hT hi hiz ⟨g0, 0, none⟩ L.length cap (L.flatMap K.enc) (by rw [len_flat, his]) holds ⟨b, q, none⟩ M.length c (M.flatMap K.enc) (by rw [hlM, his]) hnews (by omega) (by omega) (growslice_fits (by omega) (by rw [hib]; exact hbytes))
            rw [hrun] at this
            obtain ⟨rfl, _⟩ := Result.ok.inj this
            exact .inr rfl
      rcases hnew with e | e
      · unfold Off
        rw [e]
        exact ho
      · unfold Off
        rw [e]
        intro e2
        have := Option.some.inj e2
        omega
theorem opv_append {α : Type} {K : Kd α} {B bs : Nat} {v u zv : Value} {L M : List α} (ho : o.op = .call ⟨.builtin .append, #[x, y], #[T, T]⟩) (hT : P.underlying T = some (.slice E)) (hE : elB P E = some (some zv, K.size, bs)) (hz : zv.cells.size = K.size) (hK : Nat.blt 0 K.size = true)
    (hbs : Nat.ble bs 32768 = true) (hx : evO ρ x = v) (hy : evO ρ y = u) (h : Own K E w B v L) (hr : Rd K w u M) (hlim : L.length + M.length ≤ LIM) (hB : B ≤ w.heap.size) : OpV P o ρ w (AppR K E B w v (L ++ M)) := by
  obtain ⟨v', w', hrun, hR⟩ := h.append (P := P) (T := T) hr o.type hT hE hz (by simpa [Nat.blt_eq] using hK) hbs hlim hB
  exact opv_val (w' := w') (v := v') (by simp [execOp, ho, resolve, invoke, builtin, hx, hy, hrun]) hR
theorem fill_one (vals : List Value) (h1 : ∀ v ∈ vals, v.oneCell' = true) : ∀ (k : Nat) (cells : List Value), k + vals.length ≤ cells.length →
    Instr.fill (fun i => some (i * 1, 1)) cells.toArray ((vals.zipIdx k).map fun p => (p.2, p.1)) = some (cells.take k ++ vals ++ cells.drop (k + vals.length)).toArray := by
  induction vals with
  | nil => intro k cells h; simp [Instr.fill]
  | cons v vals ih =>
    intro k cells h
    have hv := oneCell_cells (h1 v (by simp))
    simp only [List.zipIdx_cons, List.map_cons, Instr.fill, hv]
    have hk : k < cells.length := by simp at h; omega
    rw [if_neg (by simp; omega)]
    have e : (Array.foldl (fun (cs : Array Value) (p : Value × Nat) => cs.setIfInBounds (k * 1 + p.2) p.1) cells.toArray (#[v].zipIdx)) = (cells.set k v).toArray := by
      simp [Array.zipIdx]
    have ih' := ih (fun u hu => h1 u (by simp [hu])) (k + 1) (cells.set k v) (by simp at h ⊢; omega)
    simp only [Nat.mul_one, Nat.add_zero] at *
    have e3 : (cells.set k v).take (k + 1) ++ vals ++ (cells.set k v).drop (k + 1 + vals.length) = cells.take k ++ v :: vals ++ cells.drop (k + (v :: vals).length) := by
      have e4 : (cells.take k ++ [v]).length = k + 1 := by simp; omega
      have e5 : cells.set k v = (cells.take k ++ [v]) ++ cells.drop (k + 1) := by rw [List.set_eq_take_append_cons_drop, if_pos hk]; simp
      have e6 : (cells.set k v).take (k + 1) = cells.take k ++ [v] := by rw [e5, ← e4, List.take_left]
      have e7 : (cells.set k v).drop (k + 1) = cells.drop (k + 1) := by rw [e5, ← e4, List.drop_left, e4]
      rw [← List.drop_drop, e6, e7, List.drop_drop, show k + (v :: vals).length = k + 1 + vals.length from by simp; omega]
      simp
    rw [← e3, ← ih']
    congr 1
def PL (ρ : Env) : Nat → List (Nat × Operand) → List Value → Prop
  | _, [], [] => True
  | k, p :: ps, v :: vs => p.1 = k ∧ evO ρ p.2 = v ∧ PL ρ (k + 1) ps vs
  | _, _, _ => False
theorem PL.eq {ρ : Env} : ∀ {k : Nat} {ps : List (Nat × Operand)} {vs : List Value} (_ : PL ρ k ps vs), (ps.map fun p => (p.1, evO ρ p.2)) = (vs.zipIdx k).map fun p => (p.2, p.1)
  | _, [], [], _ => rfl
  | k, p :: ps, v :: vs, h => by
    obtain ⟨h1, h2, h3⟩ := h
    simp only [List.map_cons, List.zipIdx_cons, h1, h2, PL.eq h3]
theorem opv_buildSlice {α : Type} {K : Kd α} {B m bs : Nat} {zv : Value} {xs : List α} {pl : List (Nat × Operand)} {vals : List Value} (ho : o.op = .buildSlice T m pl.toArray) (hT : P.underlying T = some (.slice E)) (hE : elB P E = some (some zv, 1, bs)) (hK : K.size = 1) (hz : zv.cells.size = 1)
    (hPL : PL ρ 0 pl vals) (hm : xs.length = m) (hv : vals = xs.flatMap K.enc) (hmm : Nat.ble m 4096 = true) (hB : B ≤ w.heap.size) : OpV P o ρ w (NewR K E B w xs) := by
  obtain ⟨i, hi, hiz, his, hib⟩ := elB_parts hE
  obtain ⟨parts, hparts⟩ : ∃ parts, parts = pl.toArray := ⟨_, rfl⟩
  rw [← hparts] at ho
  have hp : (parts.map fun p => (p.1, evO ρ p.2)).toList = (vals.zipIdx 0).map fun p => (p.2, p.1) := by rw [hparts, ← hPL.eq]; simp
  have hmm' : m ≤ 4096 := Nat.le_of_ble_eq_true hmm
  have hlen : vals.length = m := by rw [hv, len_flat, hK, hm, Nat.mul_one]
  have hone : ∀ u ∈ vals, u.oneCell' = true := by rw [hv]; exact one_flat K xs
  have hfill : ∀ c : Array Value, c.size = m → Instr.fill (fun i => some (i * 1, 1)) c (parts.map fun p => (p.1, evO ρ p.2)).toList = some vals.toArray := by
    intro c hc
    have := fill_one vals hone 0 c.toList (by simp [hlen, hc])
    rw [hp]
    simp only [Array.toArray_toList, List.take_zero, List.nil_append, Nat.zero_add] at this
    rw [this, hlen, List.drop_of_length_le (by simp [hc]), List.append_nil]
  refine opv_val (w' := w.alloc (.cells vals.toArray E)) (v := .slice (some ⟨w.heap.size, 0, none⟩) m m) ?_ ⟨⟨by rw [len_flat], .inr ⟨w.heap.size, m, vals.toArray, by rw [hm], hB, heap_alloc_new w _, by omega, by simp only [maxLen]; omega, by simp [hlen, hK], ?_⟩⟩, Fr.alloc w _, fun k hk => by simp [Value.ownBlock] at hk; omega⟩
  · have hfill' : ∀ c : Array Value, c.size = m → Instr.fill (fun i => some (i, 1)) c (List.map (fun p => (p.1, evO ρ p.2)) parts.toList) = some vals.toArray := fun c hc => by simpa using hfill c hc
    have hle : ¬ 16777216 < m := by omega
    simp only [execOp, ho]
    by_cases h0 : m = 0
    · subst h0
      simp [Instr.buildSlice, run_underlying hT, sizeOf, typeInfo, hi, his, newRow, hfill']
    · simp [Instr.buildSlice, run_underlying hT, sizeOf, typeInfo, hi, his, newRow, zeroValue, hiz, h0, hle, hfill']
  · show List.take (xs.length * K.size) vals = xs.flatMap K.enc
    rw [hv]
    exact List.take_of_length_le (Nat.le_of_eq (len_flat K xs))
end
def lp {σ ε : Type} (e : ε) (I : σ → Env → World → Prop) (Q : Exit → Env → World → Prop) (x : Sum ε σ) : Exit → Env → World → Prop := fun ex ρ w => match x with
  | .inr s' => ex = .normal ∧ I s' ρ w
  | .inl e' => ex ≠ .normal ∧ (e' = e → Q ex ρ w)
theorem cw_round {P : Program} {n : Nat} {c : Code} {Q : Exit → Env → World → Prop} {σ ε : Type} {step : σ → Option (Sum ε σ)} (I : σ → Env → World → Prop)
    {e : ε} {k : Nat} {s : σ} {ρ : Env} {w : World} (h : loopM step k s = some e) (hI : I s ρ w)
    (hs : ∀ s x ρ w, I s ρ w → step s = some x → CW P n c (lp e I Q x) ρ w) : CW P n (.loop c) Q ρ w :=
  cw_loop I h hI (fun s s' ρ w hi hst => hs s _ ρ w hi hst) (fun s ρ w hi hst => cw_mono (hs s _ ρ w hi hst) fun ex ρ w q => ⟨q.1, q.2 rfl⟩)
theorem bs {α β : Type} {x : Option α} {f : α → Option β} {r : β} (h : x.bind f = some r) : ∃ a, x = some a ∧ f a = some r := by
  cases x with
  | none => simp at h
  | some a => exact ⟨a, rfl, h⟩
theorem gs {β : Type} {c : Prop} [Decidable c] {x : Option β} {r : β} (h : (if c then x else none) = some r) : c ∧ x = some r := by
  by_cases hc : c
  · rw [if_pos hc] at h; exact ⟨hc, h⟩
  · rw [if_neg hc] at h; simp at h
theorem is {β : Type} {b : Bool} {x y : Option β} {r : β} (h : (if b = true then x else y) = some r) : b = true ∧ x = some r ∨ b = false ∧ y = some r := by
  cases b
  · exact .inr ⟨rfl, by simpa using h⟩
  · exact .inl ⟨rfl, by simpa using h⟩
def lt {α β : Type} (e : α) (f : α → Option β) : Option β := f e
def dstAt (l : List Oper) (k : Nat) : Option Tmp := (l[k]?).bind (·.dst)
def aftB (l : List Oper) (i j : Nat) : Bool := match l[i]? with
  | some o => o.after.toList.any fun e => Region.binds .any e && Nat.beq e.on j
  | none => false
theorem blt_iff {a b : Nat} : Nat.blt a b = true ↔ a < b := by rw [Nat.blt_eq]
theorem countP_lt {l : List Nat} {p q : Nat → Bool} (h : ∀ x ∈ l, p x = true → q x = true) {a : Nat} (ha : a ∈ l) (hp : p a = false) (hq : q a = true) : l.countP p < l.countP q := by
  induction l with
  | nil => simp at ha
  | cons x l ih =>
    simp only [List.countP_cons]
    rcases List.mem_cons.1 ha with rfl | ha'
    · have := List.countP_mono_left (p := p) (q := q) (l := l) fun x hx => h x (by simp [hx])
      simp [hp, hq]
      omega
    · have := ih (fun x hx => h x (by simp [hx])) ha'
      have hx := h x (by simp)
      cases hpx : p x
      · cases q x <;> simp <;> omega
      · simp [hx hpx]
        omega
def StepOk (P : Program) (ops : Array Oper) (o : Oper) (R : Value → World → Prop) (ρ : Env) (w : World) : Prop :=
  ((o.guard = none ∨ ∃ j want t, o.guard = some (j, want) ∧ (ops[j]?).bind (·.dst) = some t ∧ ρ t = .bool want) ∧ OpV P o ρ w R) ∨
  ((∃ j want t, o.guard = some (j, want) ∧ (ops[j]?).bind (·.dst) = some t ∧ (ρ t = .bool (!want) ∨ ρ t = undef)) ∧ R undef w)
theorem StepOk.wpOp {P : Program} {n i : Nat} {ops : Array Oper} {o : Oper} {R : Value → World → Prop} {ρ : Env} {w : World} (h : StepOk P ops o R ρ w) (ho : ops[i]? = some o) {a : Act} (ha : Fits n a ρ) {K : Act → World → Prop} {Q : Exit → Act → World → Prop}
    (hk : ∀ v w', R v w' → K (a.put o.dst v) w') : wpOp P ops Q i K a w := by
  unfold Go.wpOp
  rw [ho]
  rcases h with ⟨hg, hv⟩ | ⟨⟨j, want, t, hg, hj, ht⟩, hr⟩
  · have hw : Region.wanted o (yielded ops a.tmps) = true := by
      rcases hg with hg | ⟨j, want, t, hg, hj, ht⟩
      · simp [Region.wanted, hg]
      · simp [Region.wanted, hg, yielded_of ha hj ht]
    simp only [hw, if_true]
    exact .inl (hv.wp ha.eval hk)
  · have hw : Region.wanted o (yielded ops a.tmps) = false := by
      rcases ht with ht | ht
      · simp [Region.wanted, hg, yielded_of ha hj ht]
      · have hy : yielded ops a.tmps j = none := by
          have h1 : a.tmps.getD t undef = undef := by rw [ha.e, ht]
          cases h3 : a.tmps[t]? with
          | none => simp [yielded, hj, h3]
          | some x =>
            rw [Array.getD_eq_getD_getElem?, h3] at h1
            obtain rfl : x = undef := h1
            simp [yielded, hj, h3, undef]
        simp [Region.wanted, hg, hy]
    simp only [hw]
    exact hk _ _ hr
section
variable {P : Program} {N n : Nat} {l : List Oper} {Q : Exit → Env → World → Prop}
theorem ready_iff {listed : Array Bool} (hs : listed.size = l.length) {i : Nat} (h : i ∈ Region.ready .any l.toArray listed) : i < l.length ∧ listed.getD i true = false ∧ ∀ j, aftB l i j = true → listed.getD j false = true := by
  simp only [Region.ready, List.mem_filter, List.mem_range, List.size_toArray, Bool.and_eq_true, Bool.not_eq_true'] at h
  obtain ⟨h1, h2, h3⟩ := h
  refine ⟨h1, h2, fun j hj => ?_⟩
  simp only [List.getElem?_toArray, List.getElem?_eq_getElem h1, Option.map_some, Option.getD_some, Array.all_eq_true] at h3
  simp only [aftB, List.getElem?_eq_getElem h1, Array.any_toList, Array.any_eq_true] at hj
  obtain ⟨k, hk, hb⟩ := hj
  simp only [Bool.and_eq_true] at hb
  have := h3 k hk
  rw [hb.1] at this
  have e := Nat.eq_of_beq_eq_true hb.2
  rw [e] at this
  simpa using this
theorem ready_of {listed : Array Bool} {i : Nat} (hi : i < l.length) (hl : listed.getD i true = false) (ha : ∀ o, l[i]? = some o → ∀ e ∈ o.after.toList, Region.binds .any e = true → listed.getD e.on false = true) : i ∈ Region.ready .any l.toArray listed := by
  simp only [Region.ready, List.mem_filter, List.mem_range, List.size_toArray, Bool.and_eq_true, Bool.not_eq_true']
  refine ⟨hi, hl, ?_⟩
  simp only [List.getElem?_toArray, List.getElem?_eq_getElem hi, Option.map_some, Option.getD_some, Array.all_eq_true]
  intro k hk
  cases hbd : Region.binds .any (l[i]).after[k]
  · rfl
  · rw [ha _ (List.getElem?_eq_getElem hi) _ (Array.getElem_mem_toList hk) hbd]
    simp
theorem getD_set {listed : Array Bool} {i j : Nat} (hi : i < listed.size) : (listed.setIfInBounds i true).getD j false = (Nat.beq j i || listed.getD j false) := by
  by_cases e : j = i
  · subst e
    simp [Array.getD_eq_getD_getElem?, hi]
  · have : Nat.beq j i = false := by
      cases hb : Nat.beq j i
      · rfl
      · exact absurd (Nat.eq_of_beq_eq_true hb) e
    simp [Array.getD_eq_getD_getElem?, Array.getElem?_setIfInBounds, Ne.symm e, this]
theorem getD_tf {listed : Array Bool} {i : Nat} (hi : i < listed.size) : listed.getD i true = listed.getD i false := by
  simp [Array.getD, hi]
end
section
variable {P : Program} {ρ : Env} {w : World} {o : Oper} {x y : Operand} {T E : TypeId}
def CpyR {α : Type} (K : Kd α) (E : TypeId) (B : Nat) (v : Value) (w : World) (l : List α) (n : Nat) (u : Value) (w' : World) : Prop := u = .int .i64 (n : Int) ∧ Own K E w' B v l ∧ Fr (fun j => some j = v.ownBlock) w w'
theorem Spl.rows {α : Type} (K : Kd α) (L : List α) (q : Nat) (m : List α) (h : q + m.length ≤ L.length) : Spl (L.flatMap K.enc) (q * K.size) (m.flatMap K.enc) ((splL L q m).flatMap K.enc) := by
  have e : L = L.take q ++ ((L.drop q).take m.length ++ L.drop (q + m.length)) := by
    rw [← List.drop_drop, List.take_append_drop, List.take_append_drop]
  have e1 : L.flatMap K.enc = (L.take q).flatMap K.enc ++ (((L.drop q).take m.length).flatMap K.enc ++ (L.drop (q + m.length)).flatMap K.enc) := by
    conv => lhs; rw [e]
    rw [List.flatMap_append, List.flatMap_append]
  have e2 : (splL L q m).flatMap K.enc = (L.take q).flatMap K.enc ++ (m.flatMap K.enc ++ (L.drop (q + m.length)).flatMap K.enc) := by
    rw [splL, List.flatMap_append, List.flatMap_append, List.append_assoc]
  rw [e1, e2]
  exact Spl.mid (by rw [len_flat, List.length_take, Nat.min_eq_left (by omega)]) (by rw [len_flat, len_flat, List.length_take, List.length_drop, Nat.min_eq_left (by omega)])
theorem Own.spl {α : Type} {K : Kd α} {B g cap : Nat} {L L' : List α} {o : Nat} {xs : List Value} (h : Own K E w B (.slice (some ⟨g, 0, none⟩) L.length cap) L) (hl : L'.length = L.length) (hs : Spl (L.flatMap K.enc) o xs (L'.flatMap K.enc)) :
    ∃ cur, w.heap[g]? = some (.cells cur E (0, 0)) ∧ o + xs.length ≤ cur.size ∧ Own K E (w.setRow g (cur.toList.take o ++ xs ++ cur.toList.drop (o + xs.length)).toArray) B (.slice (some ⟨g, 0, none⟩) L.length cap) L' := by
  rcases h.2 with ⟨hx, _⟩ | ⟨g', cap', cur, hv, hb, hg, hn, hm, hcs, ht⟩
  · simp at hx
  · obtain ⟨rfl, rfl⟩ : g = g' ∧ cap = cap' := by simpa using hv
    refine ⟨cur, hg, ?_, ?_⟩
    · have h1 := hs.fit
      rw [len_flat] at h1
      have : L.length * K.size ≤ cur.size := by rw [hcs]; exact Nat.mul_le_mul_right _ hn
      omega
    · have hcur : cur.toList = L.flatMap K.enc ++ cur.toList.drop (L.length * K.size) := by
        rw [← ht, List.take_append_drop]
      have hsp2 : Spl (L.flatMap K.enc ++ cur.toList.drop (L.length * K.size)) o xs (L'.flatMap K.enc ++ cur.toList.drop (L.length * K.size)) := by
        have := Spl.comp (q := []) (r := cur.toList.drop (L.length * K.size)) (p := 0) rfl hs
        simpa using this
      rw [← hcur] at hsp2
      refine ⟨len_flat K _, .inr ⟨g, cap, _, by rw [hl], hb, setRow_heap w g _ _ E _ hg, by rw [hl]; exact hn, hm, ?_, ?_⟩⟩
      · rw [← hsp2.e, List.size_toArray, hsp2.len, Array.length_toList, hcs]
      · rw [← hsp2.e]
        have e : L'.length * K.size = (L'.flatMap K.enc).length := (len_flat K _).symm
        rw [e]
        simp
theorem Own.copy {α : Type} {K : Kd α} {B : Nat} {v u : Value} {L M : List α} (h : Own K E w B v L) (hr : Rd K w u M) (dT sT ty E' : TypeId) (hT : P.underlying dT = some (.slice E')) (hs : szB P E' = some 1) (hK : K.size = 1) {A : Option Addr} {dn dc q : Nat}
    (hq : q + dn ≤ L.length) (hA : 0 < dn → A = some ⟨sb v, q, none⟩) : ∃ w', (Builtin.copy_ #[dT, sT] ty #[.slice A dn dc, u]).run P w = .ok (.int .i64 ((Nat.min M.length dn : Nat) : Int)) w' ∧ Own K E w' B v (splL L q (M.take dn)) ∧ Fr (fun j => some j = v.ownBlock) w w' := by
  obtain ⟨Au, cu, rfl, hcu, hru⟩ := hr
  have hmin1 : Nat.min M.length dn ≤ M.length := Nat.min_le_left _ _
  have hmin2 : Nat.min M.length dn ≤ dn := Nat.min_le_right _ _
  have hmd : (M.take dn).length = Nat.min M.length dn := by rw [List.length_take, Nat.min_comm]
  rcases Nat.eq_zero_or_pos (Nat.min M.length dn) with h0 | hp
  · have hrun := run_copy_none (P := P) w dT sT ty E' A Au dn dc M.length cu hT hs h0
    refine ⟨w, by rw [h0]; exact hrun, ?_, Fr.refl _ _⟩
    have : M.take dn = [] := List.eq_nil_of_length_eq_zero (by rw [hmd]; exact h0)
    rw [this]
    simpa [splL] using h
  · obtain ⟨b, p, rfl, ha⟩ := hru (by omega)
    obtain rfl := hA (by omega)
    rcases h.2 with ⟨rfl, hn⟩ | ⟨g, cap, cur0, rfl, hb, hg0, _⟩
    · omega
    · have hlen : ((M.take dn).flatMap K.enc).length = Nat.min M.length dn := by rw [len_flat, hK, Nat.mul_one, hmd]
      have hsrc : ∀ j z, ((M.take dn).flatMap K.enc)[j]? = some z → w.cell? ((⟨b, p, none⟩ : Addr).add j) = some z := by
        intro j z hz
        rw [Addr.add_lit]
        refine ha j z ?_
        have e : M.flatMap K.enc = (M.take dn).flatMap K.enc ++ (M.drop dn).flatMap K.enc := by rw [← List.flatMap_append, List.take_append_drop]
        rw [e, List.getElem?_append_left (List.getElem?_eq_some_iff.1 hz).1]
        exact hz
      have hsp := Spl.rows K L q (M.take dn) (by omega)
      rw [hK, Nat.mul_one] at hsp
      obtain ⟨cur, hg, hfit, hown⟩ := h.spl (splL_length L q _ (by omega)) hsp
      have hrun := run_copy_row (P := P) w dT sT ty E' g q dn dc ⟨b, p, none⟩ M.length cu cur E ((M.take dn).flatMap K.enc) hT hs hg hlen hsrc hfit (one_flat K _)
      refine ⟨_, ?_, hown, (Fr.setRow g _).mono fun j hj => by subst hj; simp [Value.ownBlock]⟩
      rw [← hlen]
      exact hrun
theorem sb_of {α : Type} {K : Kd α} {B : Nat} {v : Value} {L : List α} (h : Own K E w B v L) : ∃ c, (v = .slice none 0 0 ∧ L = []) ∨ v = .slice (some ⟨sb v, 0, none⟩) L.length c := by
  rcases h.2 with ⟨rfl, hn⟩ | ⟨g, cap, cur, rfl, _⟩
  · exact ⟨0, .inl ⟨rfl, List.eq_nil_of_length_eq_zero hn⟩⟩
  · exact ⟨cap, .inr rfl⟩
theorem opv_copyRow {α : Type} {K : Kd α} {B : Nat} {v u : Value} {L M : List α} {dT sT : TypeId} {E' : TypeId} (ho : o.op = .call ⟨.builtin .copy, #[x, y], #[dT, sT]⟩) (hT : P.underlying dT = some (.slice E')) (hs : szB P E' = some 1) (hK : K.size = 1) (hx : evO ρ x = v) (hy : evO ρ y = u)
    (h : Own K E w B v L) (hr : Rd K w u M) : OpV P o ρ w (CpyR K E B v w (splL L 0 (M.take L.length)) (Nat.min M.length L.length)) := by
  obtain ⟨c, ⟨rfl, rfl⟩ | hv⟩ := sb_of h
  · obtain ⟨w', hrun, h2, h3⟩ := h.copy (P := P) hr dT sT o.type E' hT hs hK (A := none) (dn := 0) (dc := 0) (q := 0) (by simp) (by simp)
    exact opv_val (w' := w') (by simp [execOp, ho, resolve, invoke, builtin, hx, hy, hrun]) ⟨rfl, h2, h3⟩
  · obtain ⟨w', hrun, h2, h3⟩ := h.copy (P := P) hr dT sT o.type E' hT hs hK (A := some ⟨sb v, 0, none⟩) (dn := L.length) (dc := c) (q := 0) (by simp) (by simp)
    rw [← hv] at hrun
    exact opv_val (w' := w') (by simp [execOp, ho, resolve, invoke, builtin, hx, hy, hrun]) ⟨rfl, h2, h3⟩
theorem opv_copyCut {α : Type} {K : Kd α} {B : Nat} {v u : Value} {L M : List α} {lo hi s : Nat} {dT sT : TypeId} {E' : TypeId} (ho : o.op = .call ⟨.builtin .copy, #[x, y], #[dT, sT]⟩) (hT : P.underlying dT = some (.slice E')) (hs : szB P E' = some 1) (hK : K.size = 1) (hx : evO ρ x = subv s v lo hi) (hs1 : s = 1) (hy : evO ρ y = u)
    (h : Own K E w B v L) (hlo : lo ≤ hi) (hhi : hi ≤ L.length) (hr : Rd K w u M) : OpV P o ρ w (CpyR K E B v w (splL L lo (M.take (hi - lo))) (Nat.min M.length (hi - lo))) := by
  subst hs1
  obtain ⟨c, ⟨rfl, rfl⟩ | hv⟩ := sb_of h
  · have hh : hi = 0 := by simpa using hhi
    subst hh
    have hl : lo = 0 := by omega
    subst hl
    obtain ⟨w', hrun, h2, h3⟩ := h.copy (P := P) hr dT sT o.type E' hT hs hK (A := none) (dn := 0) (dc := 0) (q := 0) (by simp) (by simp)
    exact opv_val (w' := w') (by simp [execOp, ho, resolve, invoke, builtin, hx, hy, subv, hrun]) ⟨rfl, h2, h3⟩
  · have hsub : subv 1 v lo hi = .slice (if c = lo then some ⟨sb v, 0, none⟩ else some ⟨sb v, lo, none⟩) (hi - lo) (c - lo) := by
      rw [hv]
      simp only [subv, sb]
      congr 1
      split
      · rfl
      · simp [Addr.add_lit]
    have hLc : L.length ≤ c := by
      obtain ⟨A, c', e, hle, _⟩ := h.rd
      rw [hv] at e
      have : c = c' := (by simpa using e : some (⟨sb v, 0, none⟩ : Addr) = A ∧ c = c').2
      omega
    obtain ⟨w', hrun, h2, h3⟩ := h.copy (P := P) hr dT sT o.type E' hT hs hK (A := if c = lo then some ⟨sb v, 0, none⟩ else some ⟨sb v, lo, none⟩) (dn := hi - lo) (dc := c - lo) (q := lo) (by omega) (fun hp => by rw [if_neg (by omega)])
    rw [← hsub] at hrun
    exact opv_val (w' := w') (by simp [execOp, ho, resolve, invoke, builtin, hx, hy, hrun]) ⟨rfl, h2, h3⟩
def Arr.copy {n : Nat} {α : Type} (a : Arr n α) (m : List α) : Arr n α := ⟨splL a.l 0 (m.take n), by rw [splL_length _ _ _ (by rw [a.h]; simp; omega), a.h]⟩
theorem opv_copyArr {α : Type} {K : Kd α} {n g p : Nat} {a : Arr n α} {u : Value} {M : List α} {ss ss' : List Seg} {dT sT : TypeId} {E' : TypeId} {T : TypeId} (ho : o.op = .call ⟨.builtin .copy, #[x, y], #[dT, sT]⟩) (hT : P.underlying dT = some (.slice E')) (hs : szB P E' = some 1) (hK : K.size = 1)
    (hx : evO ρ x = .slice (some ⟨g, p, none⟩) n n) (hy : evO ρ y = u) (hb : Blk w g T ss) (i : Nat) (hi : ss[i]? = some (Kd.seg (kA n K) a)) (hp : sumN (ss.take i) = p) (hss : ss.take i ++ (Kd.seg (kA n K) (a.copy M) :: ss.drop (i + 1)) = ss') (hr : Rd K w u M) :
    OpV P o ρ w (fun z w' => z = .int .i64 ((Nat.min M.length n : Nat) : Int) ∧ Blk w' g T ss' ∧ Fr (fun j => j = g) w w') := by
  obtain ⟨Au, cu, rfl, hcu, hru⟩ := hr
  have hmd : (M.take n).length = Nat.min M.length n := by rw [List.length_take, Nat.min_comm]
  have hmin2 : Nat.min M.length n ≤ n := Nat.min_le_right _ _
  have hmin1 : Nat.min M.length n ≤ M.length := Nat.min_le_left _ _
  have hsp0 : Spl ((kA n K).enc a) 0 ((M.take n).flatMap K.enc) ((kA n K).enc (a.copy M)) := by
    have := Spl.rows K a.l 0 (M.take n) (by rw [a.h]; omega)
    rw [Nat.zero_mul] at this
    exact this
  have hsp := Spl.seg_in ss i (Kd.seg (kA n K) (a.copy M)) hi hp hsp0
  rw [hss, Nat.add_zero] at hsp
  have hlen : ((M.take n).flatMap K.enc).length = Nat.min M.length n := by rw [len_flat, hK, Nat.mul_one, hmd]
  rcases Nat.eq_zero_or_pos (Nat.min M.length n) with h0 | hpos
  · have hrun := run_copy_none (P := P) w dT sT o.type E' (some ⟨g, p, none⟩) Au n n M.length cu hT hs h0
    have hnil : (M.take n).flatMap K.enc = [] := List.eq_nil_of_length_eq_zero (by rw [hlen, h0])
    rw [hnil] at hsp
    have he : cellsOf ss' = cellsOf ss := by rw [hsp.e]; simp
    refine opv_val (w' := w) (v := .int .i64 ((Nat.min M.length n : Nat) : Int)) (by rw [h0]; simp [execOp, ho, resolve, invoke, builtin, hx, hy, hrun, goInt]) ⟨rfl, ?_, Fr.refl _ _⟩
    unfold Blk
    rw [he]
    exact hb
  · obtain ⟨b, q, rfl, ha⟩ := hru (by omega)
    have hsrc : ∀ j z, ((M.take n).flatMap K.enc)[j]? = some z → w.cell? ((⟨b, q, none⟩ : Addr).add j) = some z := by
      intro j z hz
      rw [Addr.add_lit]
      refine ha j z ?_
      have e : M.flatMap K.enc = (M.take n).flatMap K.enc ++ (M.drop n).flatMap K.enc := by rw [← List.flatMap_append, List.take_append_drop]
      rw [e, List.getElem?_append_left (List.getElem?_eq_some_iff.1 hz).1]
      exact hz
    have hrun := run_copy_row (P := P) w dT sT o.type E' g p n n ⟨b, q, none⟩ M.length cu (cellsOf ss).toArray T ((M.take n).flatMap K.enc) hT hs hb hlen hsrc (by simpa using hsp.fit) (one_flat K _)
    have e := hsp.e
    have hw := setRow_heap w g _ ((cellsOf ss).toArray.toList.take p ++ (M.take n).flatMap K.enc ++ (cellsOf ss).toArray.toList.drop (p + ((M.take n).flatMap K.enc).length)).toArray T _ hb
    have e2 : (cellsOf ss).toArray.toList.take p ++ (M.take n).flatMap K.enc ++ (cellsOf ss).toArray.toList.drop (p + ((M.take n).flatMap K.enc).length) = cellsOf ss' := e.symm
    rw [e2] at hrun hw
    rw [hlen] at hrun
    exact opv_val (w' := w.setRow g (cellsOf ss').toArray) (v := .int .i64 ((Nat.min M.length n : Nat) : Int)) (by simp [execOp, ho, resolve, invoke, builtin, hx, hy, hrun, goInt]) ⟨rfl, hw, Fr.setRow g _⟩
end
section
variable {P : Program} {ρ : Env} {w : World} {o : Oper} {x y : Operand} {T T' E : TypeId}
theorem run_eqB (d : Nat) (a b : Bool) (hT : P.underlying T = some .bool) : (Op.equalIn (d + 1) T (.bool a) (.bool b)).run P w = .ok (a == b) w := by
  simp [Op.equalIn, run_underlying hT]
theorem run_equalB (a b : Bool) (hT : P.underlying T = some .bool) : (Op.equal T (.bool a) (.bool b)).run P w = .ok (decide (a = b)) w := by
  have := run_eqB (P := P) (w := w) 9999 a b hT
  rw [show (decide (a = b)) = (a == b) from by cases a <;> cases b <;> rfl]
  exact this
theorem xr_eqB {a b : Bool} (ho : o.op = .binOp .eql T x y T') (hT : P.underlying T = some .bool) (hx : evO ρ x = .bool a) (hy : evO ρ y = .bool b) : (execOp (evO ρ) o).run P w = .ok (.value (.bool (decide (a = b)))) w := by
  simp only [execOp, ho, hx, hy, binOp]
  simp [eqGuard, run_equalB a b hT]
theorem xr_neB {a b : Bool} (ho : o.op = .binOp .neq T x y T') (hT : P.underlying T = some .bool) (hx : evO ρ x = .bool a) (hy : evO ρ y = .bool b) : (execOp (evO ρ) o).run P w = .ok (.value (.bool (!decide (a = b)))) w := by
  simp only [execOp, ho, hx, hy, binOp]
  simp [eqGuard, run_equalB a b hT]
theorem xr_max2 {k : IntKind} {a b : Int} {ts : Array TypeId} (ho : o.op = .call ⟨.builtin .max, #[x, y], ts⟩) (hx : evO ρ x = .int k a) (hy : evO ρ y = .int k b) : (execOp (evO ρ) o).run P w = .ok (.value (.int k (mxI a b))) w := by
  simp [execOp, ho, resolve, invoke, builtin, hx, hy, Builtin.max_, Builtin.max2, mxI]
def BL (ρ : Env) : List (Nat × Operand) → List (Nat × Value) → Prop
  | [], [] => True
  | p :: ps, v :: vs => p.1 = v.1 ∧ evO ρ p.2 = v.2 ∧ BL ρ ps vs
  | _, _ => False
theorem BL.eq {ρ : Env} : ∀ {ps : List (Nat × Operand)} {vs : List (Nat × Value)} (_ : BL ρ ps vs), (ps.map fun p => (p.1, evO ρ p.2)) = vs
  | [], [], _ => rfl
  | p :: ps, (i, v) :: vs, h => by
    obtain ⟨h1, h2, h3⟩ := h
    simp only at h1 h2
    simp only [List.map_cons, h1, h2, BL.eq h3]
theorem xr_build {t : TypeId} {pl : List (Nat × Operand)} {vals : List (Nat × Value)} {v : Value} (ho : o.op = .build t pl.toArray) (hp : BL ρ pl vals) (h : (Instr.build t vals.toArray).run P w = .ok v w) : (execOp (evO ρ) o).run P w = .ok (.value v) w := by
  have e : (pl.toArray.map fun p => (p.1, evO ρ p.2)) = vals.toArray := by rw [List.map_toArray, hp.eq]
  simp only [execOp, ho]
  simp [e, h]
theorem xr_indexArr1 {α : Type} [Inhabited α] {n s : Nat} {K : Kd α} {a : Arr n α} {v : Value} {k : IntKind} {i : Int} (ho : o.op = .index T x y) (hT : P.underlying T = some (.array n E)) (hg : aggB P E = some false) (hs : szB P E = some s)
    (hx : evO ρ x = aggV [Kd.seg (kA n K) a]) (hy : evO ρ y = .int k i) (hv : K.enc (a.get i) = [v]) (h0 : 0 ≤ i) (h1 : i < (n : Int)) (hK : K.size = s) : (execOp (evO ρ) o).run P w = .ok (.value v) w := by
  subst hK
  unfold aggB at hg
  unfold szB at hs
  obtain ⟨inf, hinf, he⟩ := Option.map_eq_some_iff.1 hs
  obtain ⟨d, hu, hd⟩ := Option.map_eq_some_iff.1 hg
  have hagg : (isAgg E).run P w = .ok false w := by
    unfold isAgg
    rw [Sem.run_bind, run_underlying hu w]
    cases d <;> simp_all
  have hi : i.toNat < a.l.length := by rw [a.h]; omega
  have hK : K.size = 1 := by have := K.len (a.get i); rw [hv] at this; simpa using this.symm
  have hcell : (cellsOf [Kd.seg (kA n K) a]).toArray[i.toNat * inf.size]? = some v := by
    have e : cellsOf [Kd.seg (kA n K) a] = a.l.flatMap K.enc := by simp [cellsOf, Kd.seg, kA]
    rw [e, flat_split K a.l i.toNat hi, he, hK]
    have hl : ((a.l.take i.toNat).flatMap K.enc).length = i.toNat := by rw [len_flat, hK, List.length_take, Nat.min_eq_left (by omega), Nat.mul_one]
    have hv' : K.enc (a.l.getD i.toNat default) = [v] := hv
    rw [hv']
    simp only [List.getElem?_toArray, Nat.mul_one]
    rw [List.getElem?_append_right (by omega), hl, Nat.sub_self]
    rfl
  unfold aggV at hx
  generalize (cellsOf [Kd.seg (kA n K) a]).toArray = cs at hx hcell
  simp [execOp, ho, hx, hy, Instr.index, asIntOf, run_underlying hT, h0, h1, sizeOf, typeInfo, hinf, part, hagg, hcell, aggV]
theorem xr_indexArrS {α : Type} [Inhabited α] {n s : Nat} {K : Kd α} {a : Arr n α} {ss : List Seg} {k : IntKind} {i : Int} (ho : o.op = .index T x y) (hT : P.underlying T = some (.array n E)) (hg : aggB P E = some true) (hs : szB P E = some s)
    (hx : evO ρ x = aggV [Kd.seg (kA n K) a]) (hy : evO ρ y = .int k i) (hv : K.enc (a.get i) = cellsOf ss) (h0 : 0 ≤ i) (h1 : i < (n : Int)) (hK : K.size = s) : (execOp (evO ρ) o).run P w = .ok (.value (aggV ss)) w := by
  subst hK
  unfold aggB at hg
  unfold szB at hs
  obtain ⟨inf, hinf, he⟩ := Option.map_eq_some_iff.1 hs
  obtain ⟨d, hu, hd⟩ := Option.map_eq_some_iff.1 hg
  have hagg : (isAgg E).run P w = .ok true w := by
    unfold isAgg
    rw [Sem.run_bind, run_underlying hu w]
    cases d <;> simp_all
  have hi : i.toNat < a.l.length := by rw [a.h]; omega
  have hlen : (cellsOf ss).length = K.size := by rw [← hv]; exact K.len _
  have hcell : (cellsOf [Kd.seg (kA n K) a]).toArray.extract (i.toNat * inf.size) (i.toNat * inf.size + inf.size) = (cellsOf ss).toArray := by
    have e : cellsOf [Kd.seg (kA n K) a] = a.l.flatMap K.enc := by simp [cellsOf, Kd.seg, kA]
    rw [e, flat_split K a.l i.toNat hi, he]
    have hl : ((a.l.take i.toNat).flatMap K.enc).length = i.toNat * K.size := by rw [len_flat, List.length_take, Nat.min_eq_left (by omega)]
    have hv' : K.enc (a.l.getD i.toNat default) = cellsOf ss := hv
    rw [hv']
    apply Array.toList_inj.1
    simp only [Array.toList_extract, List.toList_toArray, List.extract_eq_take_drop]
    rw [← hl, List.drop_left, Nat.add_sub_cancel_left, ← hlen, List.take_left]
  unfold aggV at hx
  generalize (cellsOf [Kd.seg (kA n K) a]).toArray = cs at hx hcell
  simp [execOp, ho, hx, hy, Instr.index, asIntOf, run_underlying hT, h0, h1, sizeOf, typeInfo, hinf, part, hagg, hcell, aggV]
abbrev V1 := { v : Value // v.oneCell' = true }
instance : Inhabited V1 := ⟨⟨.bool false, rfl⟩⟩
end
theorem ol_uskip {P : Program} {n : Nat} {ρ : Env} {w : World} {Q : Exit → Env → World → Prop} {ops : Array Oper} {l : List Oper} {o : Oper} {d j t : Nat} {want : Bool} (hd : o.dst = some d) (hn : Nat.blt d n = true) (hg : o.guard = some (j, want))
    (hj : (ops[j]?).bind (·.dst) = some t) (ht : ρ t = undef)
    (hk : OL P n ops Q l (upd ρ d undef) w) : OL P n ops Q (o :: l) ρ w :=
  fun a ha => wpList_step fun K hK => by
    have hy : yielded ops a.tmps j = none := by
      have h1 : a.tmps.getD t undef = undef := by rw [ha.e, ht]
      cases h3 : a.tmps[t]? with
      | none => simp [yielded, hj, h3]
      | some x =>
        rw [Array.getD_eq_getD_getElem?, h3] at h1
        obtain rfl : x = undef := h1
        simp [yielded, hj, h3, undef]
    rw [if_neg (by simp [Region.wanted, hg, hy])]
    exact hK _ _ (by rw [hd]; exact hk _ (ha.put hn undef))
section
variable {P : Program} {ρ : Env} {w : World} {o : Oper} {x y : Operand} {T T' E : TypeId}
def isNilV : Value → Bool
  | .slice none _ _ => true
  | _ => false
theorem run_eqNilD (d : Nat) {A : Option Addr} {n c : Nat} (hT : P.underlying T = some (.slice E)) : (Op.equalIn (d + 1) T (.slice A n c) (.slice none 0 0)).run P w = .ok (isNilV (.slice A n c)) w := by
  cases A <;> simp [Op.equalIn, run_underlying hT, isNilV]
theorem run_eqNil {A : Option Addr} {n c : Nat} (hT : P.underlying T = some (.slice E)) : (Op.equal T (.slice A n c) (.slice none 0 0)).run P w = .ok (isNilV (.slice A n c)) w := run_eqNilD 9999 hT
theorem xr_eqNil {α : Type} {K : Kd α} {l : List α} {v : Value} {w' : World} (ho : o.op = .binOp .eql T x y T') (hT : P.underlying T = some (.slice E)) (hx : evO ρ x = v) (hy : evO ρ y = .slice none 0 0) (hr : Rd K w' v l) : (execOp (evO ρ) o).run P w = .ok (.value (.bool (isNilV v))) w := by
  obtain ⟨A, c, rfl⟩ := hr.val
  simp only [execOp, ho, hx, hy, binOp]
  simp [eqGuard, run_eqNil hT]
theorem Rd.isNil {α : Type} {K : Kd α} {l : List α} {v : Value} (hr : Rd K w v l) (h : isNilV v = true) : l = [] := by
  obtain ⟨A, c, rfl, hc, hp⟩ := hr
  rcases Nat.eq_zero_or_pos l.length with h0 | h0
  · exact List.eq_nil_of_length_eq_zero h0
  · obtain ⟨b, q, rfl, _⟩ := hp h0
    simp [isNilV] at h
end
def OwnC (E : TypeId) (w : World) (B : Nat) (v : Value) (L : List Int) : Prop :=
  ∃ g cap cur fz, v = .slice (some ⟨g, 0, none⟩) L.length cap ∧ B ≤ g ∧ w.heap[g]? = some (.cells cur E fz) ∧ L.length ≤ cap ∧ L.length ≤ cur.size ∧ cur.size ≤ fz.1 ∧ cur.toList.take L.length = L.map (fun n => Value.int .u8 n)
section
variable {P : Program} {ρ : Env} {w : World} {o : Oper} {x y : Operand} {T T' E : TypeId} {B : Nat} {v : Value} {L : List Int}
theorem OwnC.fr {S : Nat → Prop} {w' : World} (h : OwnC E w B v L) (hf : Fr S w w') (hs : ∀ k, v.ownBlock = some k → ¬ S k) : OwnC E w' B v L := by
  obtain ⟨g, cap, cur, fz, rfl, hb, hg, r⟩ := h
  have hlt : g < w.heap.size := (Array.getElem?_eq_some_iff.1 hg).1
  exact ⟨g, cap, cur, fz, rfl, hb, by rw [hf.blk g hlt (hs g rfl)]; exact hg, r⟩
theorem OwnC.rd (h : OwnC E w B v L) : Rd (kI .u8) w v L := by
  obtain ⟨g, cap, cur, fz, rfl, hb, hg, hc, hs, hz, ht⟩ := h
  refine ⟨_, cap, rfl, hc, fun _ => ⟨g, 0, rfl, fun j u hu => ?_⟩⟩
  rw [flat_kI] at hu
  have hj : j < L.length := by
    have := (List.getElem?_eq_some_iff.1 hu).1
    simpa using this
  rw [Nat.zero_add, cell_of_row w g j cur E _ hg]
  have : (cur.toList.take L.length)[j]? = some u := by
    rw [ht]
    exact hu
  rw [List.getElem?_take, if_pos hj] at this
  simpa using this
theorem OwnC.lt (h : OwnC E w B v L) : ∀ k, v.ownBlock = some k → k < w.heap.size := by
  obtain ⟨g, cap, cur, fz, rfl, hb, hg, r⟩ := h
  intro k hk
  obtain rfl : g = k := by simpa [Value.ownBlock] using hk
  exact (Array.getElem?_eq_some_iff.1 hg).1
theorem opv_toBytesO {s : List UInt8} {B : Nat} (ho : o.op = .convert T T' x) (hs : P.underlying T = some .string) (hd : P.underlying T' = some (.slice E)) (he : P.underlying E = some (.int .u8)) (hx : evO ρ x = sv s) (hB : B ≤ w.heap.size) :
    OpV P o ρ w (fun v w' => OwnC E w' B v (s.map ofB) ∧ Gr w w' ∧ ∀ k, v.ownBlock = some k → w.heap.size ≤ k) := by
  have hrun := run_bytes_of_string (P := P) w T T' E ⟨s.toArray⟩ hs hd he
  rw [size_mk] at hrun
  refine opv_val (w' := _) (by simp only [execOp, ho, hx, sv]; rw [Sem.run_bind, hrun]; rfl) ⟨⟨w.heap.size, grownCap w s.length 0 E, _, _, by rw [List.length_map], hB, heap_alloc_new w.drew _, ?_, ?_, Nat.le_refl _, ?_⟩, ?_, ?_⟩
  · rw [List.length_map]
    exact grownCap_ge w s.length 0 E
  · simp only [bytesRow]
    simp
  · simp only [bytesRow]
    simp only [Array.toList_append, List.length_map]
    rw [List.take_left' (by simp)]
    simp [ofB, List.map_map, Function.comp_def]
  · exact ⟨rfl, rfl, rfl, by simp, fun k hk _ => heap_alloc_old w.drew _ hk⟩
  · intro k hk
    have : w.heap.size = k := by simpa [Value.ownBlock] using hk
    omega
theorem opv_storeC {q : Nat} {z i : Int} (ho : o.op = .store T' x y) (hsz : szB P T' = some 1) (hx : evO ρ x = .pointer (some ⟨sb v, q, none⟩)) (hy : evO ρ y = .int .u8 z)
    (h : OwnC E w B v L) (h0 : 0 ≤ i) (h1 : i < (L.length : Int)) (hq : q = so v + (i.toNat * 1 + 0)) :
    OpV P o ρ w (fun _ w' => OwnC E w' B v (L.set i.toNat z) ∧ Fr (fun j => some j = v.ownBlock) w w') := by
  unfold szB at hsz
  obtain ⟨inf, hinf, he⟩ := Option.map_eq_some_iff.1 hsz
  obtain ⟨g, cap, cur, fz, rfl, hb, hg, hc, hs, hz, ht⟩ := h
  have hi : i.toNat < cur.size := by omega
  have hq' : q = i.toNat := by
    rw [hq]
    show 0 + (i.toNat * 1 + 0) = i.toNat
    omega
  subst hq'
  have hcell : w.cell? ⟨g, i.toNat, none⟩ = some cur[i.toNat] := by simp [World.cell?, hg, hi]
  have hfro : w.frozen? ⟨g, i.toNat, none⟩ = false := by
    obtain ⟨lo, hi'⟩ := fz
    simp only [World.frozen?, hg, Bool.and_eq_false_iff, decide_eq_false_iff_not]
    left
    simp only at hz
    omega
  have hst : (store (⟨g, i.toNat, none⟩ : Addr) (.int .u8 z)).run P w = .ok () (w.setRow g (cur.setIfInBounds i.toNat (.int .u8 z))) := by
    rw [run_store P w _ _ _ rfl, hcell]
    simp [hfro, setCell_eq_setRow w g i.toNat cur E fz _ hg]
  have hadd : ((⟨g, i.toNat, none⟩ : Addr).add 0) = ⟨g, i.toNat, none⟩ := by unfold Addr.add; simp
  refine opv_skip (w' := w.setRow g (cur.setIfInBounds i.toNat (.int .u8 z))) ?_ ⟨⟨g, cap, cur.setIfInBounds i.toNat (.int .u8 z), fz, by rw [List.length_set], hb, setRow_heap w g cur _ E _ hg, by simpa using hc, by simpa using hs, by simpa using hz, ?_⟩, (Fr.setRow g _).mono fun j hj => by rw [hj]; rfl⟩
  · have hx' : evO ρ x = .pointer (some ⟨g, i.toNat, none⟩) := hx
    simp [execOp, ho, hx', hy, Instr.storeAt, Instr.sureAddr, storeVar, sizeOf, typeInfo, hinf, he, Value.cells, storeCells, hadd, hst]
  · rw [Array.toList_setIfInBounds, List.length_set, List.take_set, ht, List.map_set]
end
variable {P : Program}
def EqK {α : Type} [DecidableEq α] (P : Program) (T : TypeId) (K : Kd α) (m : Nat) : Prop :=
  ∀ (d : Nat) (w : World) (xs ys : Array Value) (o : Nat) (a b : α), (xs.toList.drop o).take K.size = K.enc a → (ys.toList.drop o).take K.size = K.enc b →
    ∃ u v, (part T xs o).run P w = .ok u w ∧ (part T ys o).run P w = .ok v w ∧ (Op.equalIn (d + m) T u v).run P w = .ok (decide (a = b)) w
def EqA {α : Type} [DecidableEq α] (P : Program) (T : TypeId) (K : Kd α) (m : Nat) : Prop :=
  ∀ (d : Nat) (w : World) (a b : α), (Op.equalIn (d + m) T (.agg (K.enc a).toArray) (.agg (K.enc b).toArray)).run P w = .ok (decide (a = b)) w
theorem run_isAggB {T : TypeId} {b : Bool} (h : aggB P T = some b) (w : World) : (isAgg T).run P w = .ok b w := by
  unfold aggB at h
  obtain ⟨d, hu, hd⟩ := Option.map_eq_some_iff.1 h
  unfold isAgg
  rw [Sem.run_bind, run_underlying hu w]
  cases d <;> simp_all
theorem run_part1 {T : TypeId} (h : aggB P T = some false) {xs : Array Value} {o c : Nat} {v : Value} (hc : (xs.toList.drop o).take c = [v]) (w : World) : (part T xs o).run P w = .ok v w := by
  have := getElem?_of_chunk hc
  unfold part
  rw [Sem.run_bind, run_isAggB h w]
  simp [this]
theorem eqk_int {T : TypeId} {k : IntKind} (ht : P.underlying T = some (.int k)) : EqK P T (kI k) 1 := by
  intro d w xs ys o a b ha hb
  have hg : aggB P T = some false := by unfold aggB; rw [ht]; rfl
  refine ⟨_, _, run_part1 hg ha w, run_part1 hg hb w, ?_⟩
  rw [run_equalIn_int w d T k k a b ht]
  congr 1
theorem eqk_str {T : TypeId} (ht : P.underlying T = some .string) : EqK P T kS 1 := by
  intro d w xs ys o a b ha hb
  have hg : aggB P T = some false := by unfold aggB; rw [ht]; rfl
  refine ⟨_, _, run_part1 hg ha w, run_part1 hg hb w, ?_⟩
  show (Op.equalIn (d + 1) T (.string ⟨a.toArray⟩) (.string ⟨b.toArray⟩)).run P w = _
  rw [run_equalIn_string w d T _ _ ht, ByteArray.toList_eq, ByteArray.toList_eq]
  congr 1
  show (a == b) = decide (a = b)
  rw [Bool.eq_iff_iff]
  simp
theorem eqk_of {α : Type} [DecidableEq α] {T : TypeId} {K : Kd α} {m s : Nat} (hg : aggB P T = some true) (hs : szB P T = some s) (hK : s = K.size) (h : EqA P T K m) : EqK P T K m := by
  intro d w xs ys o a b ha hb
  subst hK
  unfold szB at hs
  obtain ⟨inf, hinf, he⟩ := Option.map_eq_some_iff.1 hs
  have hp : ∀ (zs : Array Value) (c : α), (zs.toList.drop o).take K.size = K.enc c → (part T zs o).run P w = .ok (.agg (K.enc c).toArray) w := by
    intro zs c hc
    unfold part
    rw [Sem.run_bind, run_isAggB hg w]
    have hx : zs.extract o (o + inf.size) = (K.enc c).toArray := by
      apply Array.ext'
      rw [Array.toList_extract, ← hc, he]
      simp [List.extract]
    simp [sizeOf, typeInfo, hinf, hx]
  exact ⟨_, _, hp xs a ha, hp ys b hb, h d w a b⟩
theorem eqi {α : Type} [DecidableEq α] {e : TypeId} {K : Kd α} {m : Nat} (h : EqK P e K m) (hc : P.cellsOf e = K.size) (d : Nat) (w : World) (xs ys : Array Value) : ∀ (la lb : List α) (s : Nat), la.length = lb.length → xs.toList.drop (s * K.size) = la.flatMap K.enc → ys.toList.drop (s * K.size) = lb.flatMap K.enc →
    (Op.eqItems (d + m) e (P.cellsOf e) xs ys (List.range' s la.length)).run P w = .ok (decide (la = lb)) w
  | [], [], s, _, _, _ => by simp [Op.eqItems]
  | [], _ :: _, s, h, _, _ => by simp at h
  | _ :: _, [], s, h, _, _ => by simp at h
  | a :: la, b :: lb, s, hl, ha, hb => by
    have hn : ∀ (zs : Array Value) (c : α) (l : List α), zs.toList.drop (s * K.size) = (c :: l).flatMap K.enc → (zs.toList.drop (s * K.size)).take K.size = K.enc c ∧ zs.toList.drop ((s + 1) * K.size) = l.flatMap K.enc := by
      intro zs c l hz
      have hk : (K.enc c).length = K.size := K.len c
      rw [List.flatMap_cons] at hz
      refine ⟨by rw [hz, List.take_left' hk], ?_⟩
      rw [Nat.succ_mul, ← List.drop_drop, hz, List.drop_left' hk]
    obtain ⟨a1, a2⟩ := hn xs a la ha
    obtain ⟨b1, b2⟩ := hn ys b lb hb
    obtain ⟨u, v, p1, p2, p3⟩ := h d w xs ys (s * K.size) a b a1 b1
    have ih := eqi h hc d w xs ys la lb (s + 1) (by simpa using hl) a2 b2
    rw [List.length_cons, List.range'_succ]
    simp only [Op.eqItems, Sem.run_bind, hc, p1, p2, p3, Result.andThen_ok]
    rw [hc] at ih
    by_cases hab : a = b
    · simp [hab, ih]
    · simp [hab]
instance {n : Nat} {α : Type} [DecidableEq α] (a b : Arr n α) : Decidable (a.l = b.l) := inferInstance
theorem eqa_arr {α : Type} [DecidableEq α] {T e : TypeId} {n m : Nat} {K : Kd α} {i : TypeInfo} (ht : P.underlying T = some (.array n e)) (hi : P.info? e = some i) (hc : P.cellsOf e = K.size) (h : EqK P e K m) : EqA P T (kA n K) (m + 1) := by
  intro d w a b
  have e1 := run_equalIn_array (P := P) w (d + m) ((kA n K).enc a).toArray ((kA n K).enc b).toArray ht hi
  rw [show d + (m + 1) = d + m + 1 from rfl, e1, List.range_eq_range']
  have := eqi h hc d w ((kA n K).enc a).toArray ((kA n K).enc b).toArray a.l b.l 0 (by rw [a.h, b.h]) (by simp [kA]) (by simp [kA])
  rw [a.h] at this
  rw [this]
  congr 1
  apply decide_eq_decide.2
  exact ⟨Arr.ext, fun h => by rw [h]⟩
theorem info_of {T : TypeId} {s : Nat} (h : szB P T = some s) : ∃ i, P.info? T = some i := by
  unfold szB at h
  obtain ⟨i, hi, _⟩ := Option.map_eq_some_iff.1 h
  exact ⟨i, hi⟩
theorem cells_of {T : TypeId} {s : Nat} (h : szB P T = some s) : P.cellsOf T = s := by
  unfold szB at h
  unfold Program.cellsOf
  rw [h]
  rfl
theorem eqa_arr' {α : Type} [DecidableEq α] {T e : TypeId} {n m s : Nat} {K : Kd α} (ht : P.underlying T = some (.array n e)) (hs : szB P e = some s) (hK : s = K.size) (h : EqK P e K m) : EqA P T (kA n K) (m + 1) := by
  obtain ⟨i, hi⟩ := info_of hs
  exact eqa_arr ht hi ((cells_of hs).trans hK) h
def EqF (P : Program) (d : Nat) (w : World) (xs ys : Array Value) (fs : List Field) (r : Bool) : Prop := (Op.eqFields d xs ys fs).run P w = .ok r w
theorem eqf_nil {d : Nat} {w : World} {xs ys : Array Value} : EqF P d w xs ys [] true := by simp [EqF, Op.eqFields]
theorem eqf_cons {d : Nat} {w : World} {xs ys : Array Value} {f : Field} {fs : List Field} {b r : Bool} (hn : (f.name == "_") = false) (hk : ∃ u v, (part f.type xs f.offset).run P w = .ok u w ∧ (part f.type ys f.offset).run P w = .ok v w ∧ (Op.equalIn d f.type u v).run P w = .ok b w) (hr : EqF P d w xs ys fs r) : EqF P d w xs ys (f :: fs) (b && r) := by
  obtain ⟨u, v, p1, p2, p3⟩ := hk
  unfold EqF at hr ⊢
  have hn' : f.name ≠ "_" := by
    intro e
    rw [e] at hn
    simp at hn
  simp only [Op.eqFields, hn', ne_eq, not_false_eq_true, if_true, Sem.run_bind, p1, p2, p3, Result.andThen_ok]
  cases b
  · simp
  · simpa using hr
theorem chunk_segs (ss : List Seg) (i m : Nat) {o n : Nat} (ho : sumN (ss.take i) = o) (hn : sumN ((ss.drop i).take m) = n) : ((cellsOf ss).drop o).take n = cellsOf ((ss.drop i).take m) := by
  have e : cellsOf ss = cellsOf (ss.take i) ++ (cellsOf ((ss.drop i).take m) ++ cellsOf ((ss.drop i).drop m)) := by
    rw [← cellsOf_append, List.take_append_drop, ← cellsOf_append, List.take_append_drop]
  rw [e, List.drop_left' (by rw [len_cellsOf, ho]), List.take_left' (by rw [len_cellsOf, hn])]
theorem eqa_struct {α : Type} [DecidableEq α] {T : TypeId} {fs : Array Field} {K : Kd α} {m : Nat} (ht : P.underlying T = some (.struct fs)) (hp : P.stoodInHeld T = false) (h : ∀ (d : Nat) (w : World) (a b : α), EqF P (d + m) w (K.enc a).toArray (K.enc b).toArray fs.toList (decide (a = b))) : EqA P T K (m + 1) := by
  intro d w a b
  have hf : P.fieldsOf T = fs := by unfold Program.fieldsOf; rw [ht]
  rw [show d + (m + 1) = d + m + 1 from rfl, run_equalIn_struct w (d + m) T _ _ (by rw [hf]; exact ht) hp, hf]
  exact h d w a b
theorem xr_eqA {α : Type} [DecidableEq α] {T T' : TypeId} {K : Kd α} {m : Nat} {ρ : Env} {w : World} {o : Oper} {x y : Operand} {a b : α} {va vb : Value} (ho : o.op = .binOp .eql T x y T') (h : EqA P T K m) (hm : Nat.ble m 10000 = true) (hq : P.eqGuardType P.depth T = false) (hx : evO ρ x = va) (hy : evO ρ y = vb) (ha : va = .agg (K.enc a).toArray) (hb : vb = .agg (K.enc b).toArray) : (execOp (evO ρ) o).run P w = .ok (.value (.bool (decide (a = b)))) w := by
  subst ha hb
  have h1 := h (10000 - m) w a b
  rw [show 10000 - m + m = 10000 from by have := Nat.le_of_ble_eq_true hm; omega] at h1
  simp only [execOp, ho, hx, hy]
  simp [run_eqGuard_agg w .eql T x y _ _ hq, run_eql_struct, h1]
theorem xr_neA {α : Type} [DecidableEq α] {T T' : TypeId} {K : Kd α} {m : Nat} {ρ : Env} {w : World} {o : Oper} {x y : Operand} {a b : α} {va vb : Value} (ho : o.op = .binOp .neq T x y T') (h : EqA P T K m) (hm : Nat.ble m 10000 = true) (hq : P.eqGuardType P.depth T = false) (hx : evO ρ x = va) (hy : evO ρ y = vb) (ha : va = .agg (K.enc a).toArray) (hb : vb = .agg (K.enc b).toArray) : (execOp (evO ρ) o).run P w = .ok (.value (.bool (!decide (a = b)))) w := by
  subst ha hb
  have h1 := h (10000 - m) w a b
  rw [show 10000 - m + m = 10000 from by have := Nat.le_of_ble_eq_true hm; omega] at h1
  simp only [execOp, ho, hx, hy]
  simp [run_eqGuard_agg w .neq T x y _ _ hq, run_neq_struct, h1]
theorem foldl_zip (o : Nat) : ∀ (xs : List Value) (k : Nat) (cs : List Value), o + k + xs.length ≤ cs.length →
    (xs.zipIdx k).foldl (fun (cs : Array Value) (p : Value × Nat) => cs.setIfInBounds (o + p.2) p.1) cs.toArray = (cs.take (o + k) ++ xs ++ cs.drop (o + k + xs.length)).toArray
  | [], k, cs, h => by simp
  | x :: xs, k, cs, h => by
    have hk : o + k < cs.length := by simp at h; omega
    have e : cs.toArray.setIfInBounds (o + k) x = (cs.set (o + k) x).toArray := by simp
    rw [List.zipIdx_cons, List.foldl_cons]
    show (xs.zipIdx (k + 1)).foldl _ (cs.toArray.setIfInBounds (o + k) x) = _
    rw [e, foldl_zip o xs (k + 1) (cs.set (o + k) x) (by simp at h ⊢; omega)]
    have e1 : (cs.set (o + k) x).take (o + (k + 1)) = cs.take (o + k) ++ [x] := by
      rw [← Nat.add_assoc, List.take_add_one, List.take_set_of_le (Nat.le_refl _)]
      simp [hk]
    have e2 : (cs.set (o + k) x).drop (o + (k + 1) + xs.length) = cs.drop (o + k + (x :: xs).length) := by
      rw [List.drop_set_of_lt (by omega)]
      congr 1
      simp only [List.length_cons]
      omega
    rw [e1, e2]
    simp
def placesB (P : Program) (t : TypeId) : Option (List (Nat × Nat)) :=
  match P.underlying t with
  | some (.struct fs) => fs.toList.mapM (fun f => (P.info? f.type).map fun i => (f.offset, i.size))
  | _ => none
def Fl (place : Nat → Option (Nat × Nat)) (cs : List Value) (parts : List (Nat × Value)) (res : List Value) : Prop := Instr.fill place cs.toArray parts = some res.toArray
theorem fl_nil {place : Nat → Option (Nat × Nat)} {cs : List Value} : Fl place cs [] cs := rfl
theorem fl_cons {place : Nat → Option (Nat × Nat)} {cs cs' xs res : List Value} {j off n : Nat} {v : Value} {parts : List (Nat × Value)} (hp : place j = some (off, n)) (hv : v.cells = xs.toArray) (hn : xs.length = n) (hs : Spl cs off xs cs') (h : Fl place cs' parts res) : Fl place cs ((j, v) :: parts) res := by
  have hf := hs.fit
  unfold Fl at h ⊢
  have e := foldl_zip off xs 0 cs (by omega)
  have e3 : Array.foldl (fun (cs : Array Value) (p : Value × Nat) => cs.setIfInBounds (off + p.2) p.1) cs.toArray (xs.toArray.zipIdx) = cs'.toArray := by
    rw [hs.e]
    simpa using e
  rw [← h, ← e3]
  have h2 : ¬ cs.length < off + xs.length := by omega
  conv => lhs; unfold Instr.fill
  simp [hp, hv, hn, h2]
  omega
theorem run_build_st {P : Program} {w : World} {t : TypeId} {fs : Array Field} {zs : List Seg} {places : List (Nat × Nat)} {parts : List (Nat × Value)} {res : List Value} (hu : P.underlying t = some (.struct fs)) (hz : (P.info? t).map (·.zero) = some (some (aggV zs))) (hp : placesB P t = some places) (h : Fl (fun i => places[i]?) (cellsOf zs) parts res) :
    (Instr.build t parts.toArray).run P w = .ok (.agg res.toArray) w := by
  refine run_build w t parts.toArray res.toArray ?_
  obtain ⟨it, hit, hie⟩ := Option.map_eq_some_iff.1 hz
  unfold placesB at hp
  simp only [hu] at hp
  unfold Program.built
  simp only [hit, hu, hie, hp]
  have : (fun i : Nat => places.toArray[i]?) = (fun i : Nat => places[i]?) := by funext i; simp
  simp only [this]
  exact h
theorem run_build_arr {P : Program} {w : World} {t e : TypeId} {n s : Nat} {zs : List Seg} {parts : List (Nat × Value)} {res : List Value} (hu : P.underlying t = some (.array n e)) (hz : (P.info? t).map (·.zero) = some (some (aggV zs))) (hs : szB P e = some s) (h : Fl (fun i => some (i * s, s)) (cellsOf zs) parts res) :
    (Instr.build t parts.toArray).run P w = .ok (.agg res.toArray) w := by
  refine run_build w t parts.toArray res.toArray ?_
  obtain ⟨it, hit, hie⟩ := Option.map_eq_some_iff.1 hz
  obtain ⟨ie, hi2, he2⟩ := Option.map_eq_some_iff.1 hs
  subst he2
  unfold Program.built
  simp only [hit, hu, hie, hi2]
  exact h
section
variable {P : Program} {ρ : Env} {w : World} {o : Oper}
end
section
variable {P : Program} {ρ : Env} {w : World} {o : Oper}
theorem xr_makeFunc {f : FuncId} {cs : List Operand} {L : List Value} (ho : o.op = .makeFunc (.func f) #[] cs.toArray) (hc : cs.map (evO ρ) = L) : (execOp (evO ρ) o).run P w = .ok (.value (.func (.func f) #[] L.toArray)) w := by
  have h : cs.toArray.map (evO ρ) = L.toArray := by rw [List.map_toArray, hc]
  simp only [execOp, ho]
  simp [Instr.makeFunc, h]
end
def Itr (w : World) (g : Nat) (s : List UInt8) (i : Int) : Prop := ∃ p : Nat, (p : Int) = i ∧ w.heap[g]? = some (.stringIter ⟨s.toArray⟩ p)
theorem Itr.lt {w : World} {g : Nat} {s : List UInt8} {i : Int} (h : Itr w g s i) : g < w.heap.size := by
  obtain ⟨p, _, hp⟩ := h
  exact (Array.getElem?_eq_some_iff.1 hp).1
theorem Itr.fr {S : Nat → Prop} {w w' : World} {g : Nat} {s : List UInt8} {i : Int} (h : Itr w g s i) (hf : Fr S w w') (hs : ¬ S g) : Itr w' g s i := by
  have hl := h.lt
  obtain ⟨p, hi, hp⟩ := h
  exact ⟨p, hi, (hf.blk g hl hs).trans hp⟩
def runeAt (s : List UInt8) (i : Int) : Int := ((Utf8.decode ⟨s.toArray⟩ i.toNat).1 : Nat)
def wideAt (s : List UInt8) (i : Int) : Int := ((Utf8.decode ⟨s.toArray⟩ i.toNat).2 : Nat)
section
variable {P : Program} {ρ : Env} {w : World} {o : Oper} {x : Operand} {T : TypeId} {s : List UInt8}
theorem opv_range (ho : o.op = .range T x) (hT : P.underlying T = some .string) (hx : evO ρ x = sv s) : OpV P o ρ w (fun v w' => ∃ g : Nat, v = .pointer (some ⟨g, 0, none⟩) ∧ Itr w' g s 0 ∧ Gr w w' ∧ w.heap.size ≤ g) := by
  have h := run_range_string (P := P) w T ⟨s.toArray⟩ hT
  refine opv_val (w' := w.iter ⟨s.toArray⟩ 0) (v := .pointer (some ⟨w.heap.size, 0, none⟩)) ?_ ⟨w.heap.size, rfl, ⟨0, rfl, World.iter_heap w _ 0⟩, Fr.alloc w _, Nat.le_refl _⟩
  simp only [execOp, ho, hx, sv]
  simp [h]
theorem opv_nextT {g : Nat} {i : Int} (ho : o.op = .next x true) (hx : evO ρ x = .pointer (some ⟨g, 0, none⟩)) (h : Itr w g s i) (c : decide (i < (s.length : Int)) = true) :
    OpV P o ρ w (fun v w' => v = .tuple #[.bool true, .int .i64 i, .int .i32 (runeAt s i)] ∧ Itr w' g s (i + wideAt s i) ∧ Fr (fun j => j = g) w w') := by
  have hl := h.lt
  obtain ⟨p, rfl, hp⟩ := h
  have hsz : p < (⟨s.toArray⟩ : ByteArray).size := by
    have := of_decide_eq_true c
    simp [ByteArray.size]
    omega
  refine opv_val (w' := { w with heap := w.heap.setIfInBounds g (.stringIter ⟨s.toArray⟩ (p + (Utf8.decode ⟨s.toArray⟩ p).2)) }) (v := .tuple #[.bool true, .int .i64 (p : Int), .int .i32 (runeAt s (p : Int))]) ?_ ⟨rfl, ⟨p + (Utf8.decode ⟨s.toArray⟩ p).2, ?_, ?_⟩, ⟨rfl, rfl, rfl, by simp, ?_⟩⟩
  · simp only [execOp, ho, hx]
    simp [Instr.next, getObj, setObj, Sem.run, hp, hsz, goInt, runeAt, Result.andThen]
  · simp [wideAt]
  · simp [hl]
  · intro k hk hn
    show (w.heap.setIfInBounds g _)[k]? = _
    rw [Array.getElem?_setIfInBounds]
    have : ¬ g = k := fun e => hn e.symm
    simp [this]
theorem xr_nextF {g : Nat} {i : Int} (ho : o.op = .next x true) (hx : evO ρ x = .pointer (some ⟨g, 0, none⟩)) (h : Itr w g s i) (c : decide (i < (s.length : Int)) = false) :
    (execOp (evO ρ) o).run P w = .ok (.value (.tuple #[.bool false])) w := by
  obtain ⟨p, rfl, hp⟩ := h
  have hsz : ¬ p < (⟨s.toArray⟩ : ByteArray).size := by
    have := of_decide_eq_false c
    simp [ByteArray.size]
    omega
  simp only [execOp, ho, hx]
  simp [Instr.next, getObj, Sem.run, hp, hsz]
end
section
variable {P : Program} {N : Nat} {l : List Oper} {Q : Exit → Env → World → Prop}
def LP (P : Program) (n : Nat) (c : Code) (Q : Exit → Env → World → Prop) (ρ : Env) (w : World) : Prop :=
  ∀ a, Fits n a ρ → ∀ b kk cs, ∃ e a' w', lift n Q e a' w' ∧ Arrives P (lone (b.at a (.code c :: .inLoop c :: kk)) cs w) b kk cs e a' w'
theorem cw_rounds {n : Nat} {c : Code} {ρ : Env} {w : World} (h : LP P n c Q ρ w) : CW P n (.loop c) Q ρ w := by
  intro a ha b kk cs
  obtain ⟨e, a', w', hq, harr⟩ := h a ha b kk cs
  exact ⟨e, a', w', hq, .of_steps (.one step_loop) harr⟩
theorem lp_round {n : Nat} {c : Code} {ρ : Env} {w : World} (h : CW P n c (thn (LP P n c Q) Q) ρ w) : LP P n c Q ρ w := by
  intro a ha b kk cs
  obtain ⟨ex, a₁, w₁, ⟨ρ₁, hf, hq⟩, harr⟩ := h a ha b (.inLoop c :: kk) cs
  cases ex with
  | normal =>
    obtain ⟨e₂, a₂, w₂, hq₂, harr₂⟩ := hq a₁ hf b kk cs
    exact ⟨e₂, a₂, w₂, hq₂, .of_steps (Steps.trans harr (.one step_inLoop)) harr₂⟩
  | exit id => exact ⟨_, a₁, w₁, ⟨ρ₁, hf, hq⟩, .pass (x := .inLoop c) rfl (fun _ _ => .inl (by simp)) harr⟩
  | goto l => exact ⟨_, a₁, w₁, ⟨ρ₁, hf, hq⟩, .pass (x := .inLoop c) rfl (fun _ _ => .inl (by simp)) harr⟩
  | ret => exact ⟨_, a₁, w₁, ⟨ρ₁, hf, hq⟩, .pass (x := .inLoop c) rfl (fun _ _ => .inl (by simp)) harr⟩
  | panic ch => exact ⟨_, a₁, w₁, ⟨ρ₁, hf, hq⟩, .pass (x := .inLoop c) rfl (fun _ _ => .inl (by simp)) harr⟩
  | outgrown => exact ⟨_, a₁, w₁, ⟨ρ₁, hf, hq⟩, .pass (x := .inLoop c) rfl (fun _ _ => .inl (by simp)) harr⟩
end
theorem cut_pos {α : Type} {l : List α} {i j : Int} (h : 0 < (cut l i j).length) : 0 < l.length := by
  unfold cut at h
  rw [List.length_drop, List.length_take] at h
  omega
theorem sb_subv (k : Nat) (v : Value) (i j : Nat) : sb (subv k v i j) = sb v := by
  cases v with
  | slice A n c =>
    by_cases h : c = i
    · cases A <;> simp [subv, h, sb]
    · cases A
      · simp [subv, h, sb]
      · simp [subv, h, sb, Addr.add]
        split <;> rfl
  | _ => rfl
section
variable {P : Program} {ρ : Env} {w : World} {o : Oper} {x y : Operand} {T E T' : TypeId}
end
variable {P : Program} {w : World}
def octV (l : List UInt8) : List Value := l.map fun b => Value.int .u8 (b.toNat : Int)
theorem octV_enc (l : List UInt8) : (l.map ofB).flatMap (kI .u8).enc = octV l := by
  induction l with
  | nil => rfl
  | cons b l ih =>
    rw [List.map_cons, List.flatMap_cons, ih]
    rfl
theorem octV_len (l : List UInt8) : (octV l).length = l.length := List.length_map ..
theorem octV_one (l : List UInt8) : ∀ u ∈ octV l, u.oneCell' = true := by
  intro u hu
  obtain ⟨b, _, rfl⟩ := List.mem_map.1 hu
  rfl
theorem str_first (l : List UInt8) : (((⟨l.toArray⟩ : ByteArray).extract 0 l.length).data.map fun b => Value.int .u8 (b.toNat : Int)) = (octV l).toArray := by
  have e : (⟨l.toArray⟩ : ByteArray).extract 0 l.length = ⟨l.toArray⟩ := by
    apply ByteArray.ext
    simp
  rw [e]
  simp [octV]
theorem run_app_room_str (t u ty e : TypeId) (i : TypeInfo) (ht : P.underlying t = some (.slice e)) (hu : P.underlying u = some .string) (hi : P.info? e = some i) (his : i.size = 1)
    (g sLen sCap : Nat) (cur : Array Value) (hg : w.heap[g]? = some (.cells cur e (0, 0))) (l : List UInt8) (hroom : sLen + l.length ≤ sCap) (hfit : sLen + l.length ≤ cur.size) :
    (Builtin.append_ #[t, u] ty #[.slice (some ⟨g, 0, none⟩) sLen sCap, .string ⟨l.toArray⟩]).run P w =
      .ok (.slice (some ⟨g, 0, none⟩) (sLen + l.length) sCap) (w.setRow g (cur.toList.take sLen ++ octV l ++ cur.toList.drop (sLen + l.length)).toArray) := by
  have hst := run_storeCells_at P g sLen e (octV l) 0 cur w hg (by simpa [octV_len] using hfit) (octV_one l)
  simp only [Nat.add_zero, octV_len] at hst
  have hsz : (⟨l.toArray⟩ : ByteArray).size = l.length := by simp [ByteArray.size]
  have hf := str_first l
  have htk : List.take l.length (List.map (fun b : UInt8 => Value.int IntKind.u8 (b.toNat : Int)) l) = octV l := List.take_of_length_le (by rw [List.length_map]; exact Nat.le_refl _)
  simp [Builtin.append_, run_underlying ht, run_underlying hu, sizeOf, typeInfo, hi, his, Builtin.lenOf, Builtin.firstCells, hsz, hroom, hf, htk, Addr.add_lit, hst]
theorem run_app_grow_str (t u ty e : TypeId) (i : TypeInfo) (z : Value) (ht : P.underlying t = some (.slice e)) (hu : P.underlying u = some .string) (hi : P.info? e = some i) (hz : i.zero = some z) (his : i.size = 1)
    (b : Addr) (sLen sCap : Nat) (olds : List Value) (hlo : olds.length = sLen) (holds : ∀ j v, olds[j]? = some v → w.cell? (b.add j) = some v) (l : List UInt8)
    (hg : sCap < sLen + l.length) (h63 : ((sLen + l.length : Nat) : Int) ≤ 9223372036854775807) (hfit : Builtin.nextslicecap (sLen + l.length) sCap * i.bytes ≤ 281474976710656) :
    (Builtin.append_ #[t, u] ty #[.slice (some b) sLen sCap, .string ⟨l.toArray⟩]).run P w =
      .ok (.slice (some ⟨w.heap.size, 0, none⟩) (sLen + l.length) (grownCap w (sLen + l.length) sCap e))
        (w.drew.alloc (.cells (olds.toArray ++ (octV l).toArray ++ Builtin.zeroCells z.cells (grownCap w (sLen + l.length) sCap e - (sLen + l.length))) e)) := by
  have hn : ¬ (sLen + l.length ≤ sCap) := by omega
  have h63' : ¬ (9223372036854775807 < ((sLen : Int) + (l.length : Int))) := by omega
  have h48' : ¬ (281474976710656 < Builtin.nextslicecap (sLen + l.length) sCap * i.bytes) := by omega
  have hsz : (⟨l.toArray⟩ : ByteArray).size = l.length := by simp [ByteArray.size]
  have hf := str_first l
  have hfo := run_firstCells_some (P := P) w.drew i.size sLen b sLen sCap olds (by rw [his]; omega) (by simpa using holds)
  rw [his] at hfo
  simp [Builtin.append_, run_underlying ht, run_underlying hu, sizeOf, typeInfo, zeroValue, hi, hz, his, Builtin.lenOf, hn, h63', h48', Question.forced, hfo, newRow, grownCap, hsz]
  simp [Builtin.firstCells, hf]
  congr 2
  apply Array.ext'
  simp [List.append_assoc]
  try rfl
theorem Own.appendStr {E T U : TypeId} {B bs : Nat} {v zv : Value} {L : List Int} {l : List UInt8} (h : Own (kI .u8) E w B v L) (ty : TypeId) (hT : P.underlying T = some (.slice E)) (hU : P.underlying U = some .string) (hE : elB P E = some (some zv, 1, bs)) (hz : zv.cells.size = 1)
    (hbs : Nat.ble bs 32768 = true) (hlim : L.length + l.length ≤ LIM) (hB : B ≤ w.heap.size) : ∃ v' w', (Builtin.append_ #[T, U] ty #[v, sv l]).run P w = .ok v' w' ∧ AppR (kI .u8) E B w v (L ++ l.map ofB) v' w' := by
  obtain ⟨i, hi, hiz, his, hib⟩ := elB_parts hE
  unfold LIM at hlim
  have hbs' : bs ≤ 32768 := Nat.le_of_ble_eq_true hbs
  have hbytes : (L.length + l.length) * bs ≤ 140737488355328 := by
    calc (L.length + l.length) * bs ≤ (L.length + l.length) * 32768 := Nat.mul_le_mul_left _ hbs'
      _ ≤ 140737488355328 := by omega
  have hLe : (L.flatMap (kI .u8).enc).length = L.length := by rw [len_flat]; exact Nat.mul_one _
  have hcat : (L ++ l.map ofB).flatMap (kI .u8).enc = L.flatMap (kI .u8).enc ++ octV l := by rw [List.flatMap_append, octV_enc]
  have hlen : ((L ++ l.map ofB).flatMap (kI .u8).enc).length = (L.length + l.length) * 1 := by rw [hcat, List.length_append, hLe, octV_len, Nat.mul_one]
  have hll : (L ++ l.map ofB).length = L.length + l.length := by simp
  have h63 : L.length + l.length ≤ maxLen := by simp only [maxLen]; omega
  have grown : ∀ (old : Nat), old < L.length + l.length →
      Own (kI .u8) E (w.drew.alloc (.cells ((L.flatMap (kI .u8).enc).toArray ++ (octV l).toArray ++ Builtin.zeroCells zv.cells (grownCap w (L.length + l.length) old E - (L.length + l.length))) E)) B (.slice (some ⟨w.heap.size, 0, none⟩) (L.length + l.length) (grownCap w (L.length + l.length) old E)) (L ++ l.map ofB) ∧
      ∀ row : Option Nat, w.grownBy (w.drew.alloc (.cells ((L.flatMap (kI .u8).enc).toArray ++ (octV l).toArray ++ Builtin.zeroCells zv.cells (grownCap w (L.length + l.length) old E - (L.length + l.length))) E)) row := by
    intro old ho
    have hge := grownCap_ge w (L.length + l.length) old E
    have hcm : grownCap w (L.length + l.length) old E ≤ maxLen := grownCap_le_maxLen w (L.length + l.length) old E h63
    refine ⟨?_, fun row => ⟨rfl, rfl, rfl, by simp, fun k hk _ => heap_alloc_old w.drew _ hk⟩⟩
    unfold Own
    rw [hll]
    refine ⟨hlen, .inr ⟨w.heap.size, _, _, rfl, hB, heap_alloc_new w.drew _, hge, hcm, ?_, ?_⟩⟩
    · show _ = grownCap w (L.length + l.length) old E * 1
      simp only [Array.size_append, List.size_toArray, size_zeroCells, hz, hLe, octV_len, Nat.mul_one]
      omega
    · show List.take ((L.length + l.length) * 1) _ = _
      rw [hcat, Nat.mul_one]
      simp only [Array.toList_append]
      exact List.take_left' (by rw [List.length_append, hLe, octV_len])
  have fresh : ∀ g : Nat, g < w.heap.size → Off v g → ∀ n c : Nat, Off (.slice (some ⟨w.heap.size, 0, none⟩) n c) g := by
    intro g hg _ n c e
    have := Option.some.inj (show some w.heap.size = some g from e)
    omega
  have he : l.length = 0 → (L ++ l.map ofB) = L := fun h0 => by
    obtain rfl := List.eq_nil_of_length_eq_zero h0
    simp
  rcases h.2 with ⟨rfl, hn0⟩ | ⟨g, cap, cur, rfl, hbg, hgg, hnc, hcm, hcs, htake⟩
  · obtain rfl : L = [] := List.eq_nil_of_length_eq_zero hn0
    by_cases h0 : l.length = 0
    · obtain rfl := List.eq_nil_of_length_eq_zero h0
      refine ⟨.slice none 0 0, w, ?_, Own.nil _ _ _ _, Fr.refl _ _, fun _ _ x => x⟩
      simp [sv, Builtin.append_, run_underlying hT, run_underlying hU, sizeOf, typeInfo, hi, Builtin.lenOf, Builtin.firstCells, ByteArray.size]
    · have hsz : (⟨l.toArray⟩ : ByteArray).size = l.length := by simp [ByteArray.size]
      have hr := run_append_nil_string (P := P) w T U ty E i zv hT hU hi hiz ⟨l.toArray⟩ (by omega) (by omega) (by rw [hsz, hib]; simp only [List.length_nil, Nat.zero_add] at hbytes; omega)
      have hgr := grown 0 (by simp only [List.length_nil, Nat.zero_add]; omega)
      simp only [List.length_nil, Nat.zero_add, List.flatMap_nil, List.nil_append] at hgr
      rw [hsz] at hr
      have hoct : (⟨l.toArray⟩ : ByteArray).data.map (fun b => Value.int .u8 (b.toNat : Int)) = (([] : List Value).toArray ++ (octV l).toArray) := by simp [octV]
      rw [hoct] at hr
      exact ⟨_, _, hr, hgr.1, Fr.of_grownBy (hgr.2 _), fun g hg ho => fresh g hg ho _ _⟩
  · have hL : L.length * 1 ≤ cur.size := by show L.length * (kI .u8).size ≤ _; rw [hcs]; exact Nat.mul_le_mul_right _ hnc
    by_cases hroom : L.length + l.length ≤ cap
    · have hfit : L.length + l.length ≤ cur.size := by rw [hcs]; show _ ≤ cap * 1; omega
      have hr := run_app_room_str (P := P) T U ty E i hT hU hi his g L.length cap cur hgg l hroom hfit
      refine ⟨_, _, hr, ?_, Fr.of_grownBy (r := some g) ⟨rfl, rfl, rfl, by simp, fun k _ hk => setRow_other w g k _ (fun e => hk (by rw [e]))⟩, fun g' _ ho => ho⟩
      unfold Own
      rw [hll]
      refine ⟨hlen, .inr ⟨g, cap, _, rfl, hbg, setRow_heap w g cur _ E _ hgg, hroom, hcm, ?_, ?_⟩⟩
      · rw [← hcs]
        simp only [List.size_toArray, List.length_append, List.length_take, List.length_drop, Array.length_toList, octV_len]
        omega
      · show List.take ((L.length + l.length) * 1) _ = _
        have htake' : cur.toList.take L.length = L.flatMap (kI .u8).enc := by
          have : cur.toList.take (L.length * 1) = _ := htake
          rwa [Nat.mul_one] at this
        rw [hcat, Nat.mul_one, htake']
        exact List.take_left' (by rw [List.length_append, hLe, octV_len])
    · have holds : ∀ j u, (L.flatMap (kI .u8).enc)[j]? = some u → w.cell? ((⟨g, 0, none⟩ : Addr).add j) = some u := World.ownsRow.cells (g := g) h rfl
      have hr := run_app_grow_str (P := P) T U ty E i zv hT hU hi hiz his ⟨g, 0, none⟩ L.length cap (L.flatMap (kI .u8).enc) hLe holds l (by omega) (by omega) (growslice_fits (by omega) (by rw [hib]; exact hbytes))
      have hgr := grown cap (by omega)
      exact ⟨_, _, hr, hgr.1, Fr.of_grownBy (hgr.2 _), fun g' hg ho => fresh g' hg ho _ _⟩
theorem opv_appendStr {ρ : Env} {o : Oper} {x y : Operand} {E T U : TypeId} {B bs : Nat} {v zv : Value} {L : List Int} {l : List UInt8} (ho : o.op = .call ⟨.builtin .append, #[x, y], #[T, U]⟩) (hT : P.underlying T = some (.slice E)) (hU : P.underlying U = some .string) (hE : elB P E = some (some zv, 1, bs)) (hz : zv.cells.size = 1)
    (hbs : Nat.ble bs 32768 = true) (hx : evO ρ x = v) (hy : evO ρ y = sv l) (h : Own (kI .u8) E w B v L) (hlim : L.length + l.length ≤ LIM) (hB : B ≤ w.heap.size) : OpV P o ρ w (AppR (kI .u8) E B w v (L ++ l.map ofB)) := by
  obtain ⟨v', w', hrun, hR⟩ := h.appendStr (P := P) (T := T) (U := U) (l := l) o.type hT hU hE hz hbs hlim hB
  exact opv_val (w' := w') (v := v') (by simp [execOp, ho, resolve, invoke, builtin, hx, hy, hrun]) hR
theorem zeroCells_one (u : Value) (m : Nat) : Builtin.zeroCells #[u] m = (List.replicate m u).toArray := by
  apply Array.ext'
  unfold Builtin.zeroCells
  apply List.ext_getElem
  · simp
  · intro i h1 h2
    simp [Nat.mod_one]
section
variable {P : Program} {w w' : World} {g g' : Nat} {T : TypeId} {X Y : List Value} {ss : List Seg}
variable {ρ : Env} {o : Oper} {x y : Operand} {T' : TypeId}
end
section
variable {w w' : World}
end
section
variable {P : Program} {ρ : Env} {w : World} {o : Oper} {x y : Operand} {T T' E : TypeId}
theorem run_eqPD (d : Nat) {A B : Option Addr} (hT : P.underlying T = some (.pointer E)) (h : A = none ∨ B = none) : (Op.equalIn (d + 1) T (.pointer A) (.pointer B)).run P w = .ok (A.isNone && B.isNone) w := by
  rcases h with rfl | rfl
  · cases B <;> simp [Op.equalIn, run_underlying hT]
  · cases A <;> simp [Op.equalIn, run_underlying hT]
theorem xr_eqP {A B : Option Addr} {b : Bool} (ho : o.op = .binOp .eql T x y T') (hT : P.underlying T = some (.pointer E)) (hx : evO ρ x = .pointer A) (hy : evO ρ y = .pointer B) (hn : A = none ∨ B = none) (hb : (A.isNone && B.isNone) = b) : (execOp (evO ρ) o).run P w = .ok (.value (.bool b)) w := by
  have h : (Op.equal T (.pointer A) (.pointer B)).run P w = .ok (A.isNone && B.isNone) w := run_eqPD 9999 hT hn
  simp only [execOp, ho, hx, hy, binOp]
  simp [eqGuard, h, hb]
theorem xr_neP {A B : Option Addr} {b : Bool} (ho : o.op = .binOp .neq T x y T') (hT : P.underlying T = some (.pointer E)) (hx : evO ρ x = .pointer A) (hy : evO ρ y = .pointer B) (hn : A = none ∨ B = none) (hb : (!(A.isNone && B.isNone)) = b) : (execOp (evO ρ) o).run P w = .ok (.value (.bool b)) w := by
  have h : (Op.equal T (.pointer A) (.pointer B)).run P w = .ok (A.isNone && B.isNone) w := run_eqPD 9999 hT hn
  simp only [execOp, ho, hx, hy, binOp]
  simp [eqGuard, h, hb]
theorem en {α β : Type} {o : Option α} {A : Option β} {B : α → Option β} {r : β} (h : Option.elim o A B = some r) : (o = none ∧ A = some r) ∨ ∃ m, o = some m ∧ B m = some r := by
  cases o with
  | none => exact .inl ⟨rfl, h⟩
  | some m => exact .inr ⟨m, rfl, h⟩
end
def kC (n : Nat) : Kd { l : List Value // l.length = n ∧ ∀ v ∈ l, v.oneCell' = true } := ⟨fun x => x.1, n, fun x => x.2.1, fun x => x.2.2⟩
section
variable {P : Program} {w w' : World} {α : Type} {n : Nat} {D : World → List Value → α → Prop} {v : Value} {l : List α}
instance : Inhabited { l : List Value // l.length = n ∧ ∀ v ∈ l, v.oneCell' = true } := ⟨⟨List.replicate n (.bool false), by simp, fun v hv => by rw [List.eq_of_mem_replicate hv]; rfl⟩⟩
variable {ρ : Env} {o : Oper} {x y : Operand} {T T' E : TypeId}
end
theorem opv_buildRec {P : Program} {ρ : Env} {w : World} {o : Oper} {x : Operand} {T E : TypeId} {α : Type} {K : Kd α} {B bs : Nat} {zv v : Value} {z : α} (ho : o.op = .buildSlice T 1 #[(0, x)]) (hT : P.underlying T = some (.slice E)) (hE : elB P E = some (some zv, K.size, bs)) (hm : Nat.ble K.size 4096 = true) (hk : Nat.blt 0 K.size = true)
    (hx : evO ρ x = v) (hv : v.cells = (K.enc z).toArray) (hB : B ≤ w.heap.size) : OpV P o ρ w (NewR K E B w [z]) := by
  obtain ⟨i, hi, hiz, his, hib⟩ := elB_parts hE
  have hlen := K.len z
  refine opv_val (w' := w.alloc (.cells (K.enc z).toArray E)) (v := .slice (some ⟨w.heap.size, 0, none⟩) 1 1) ?_ ⟨⟨by rw [len_flat], .inr ⟨w.heap.size, 1, (K.enc z).toArray, rfl, hB, heap_alloc_new w _, Nat.le_refl _, by simp only [maxLen]; omega, by simp [hlen], ?_⟩⟩, Fr.alloc w _, fun k hk => by simp [Value.ownBlock] at hk; omega⟩
  · have hfl : ∀ c : Array Value, c.size = K.size → Instr.fill (fun i => some (i * K.size, K.size)) c [(0, v)] = some (K.enc z).toArray := by
      intro c hc
      have := fl_cons (place := fun i => some (i * K.size, K.size)) (cs := c.toList) (cs' := K.enc z) (xs := K.enc z) (res := K.enc z) (j := 0) (off := 0) (n := K.size) (v := v) (parts := []) (by simp) hv hlen (Spl.whole (by rw [hlen, Array.length_toList, hc])) fl_nil
      unfold Fl at this
      rwa [Array.toArray_toList] at this
    have hle : ¬ 16777216 < K.size := by
      have := Nat.le_of_ble_eq_true hm
      omega
    have h0 : ¬ K.size = 0 := by
      have : 0 < K.size := by simpa [Nat.blt_eq] using hk
      omega
    simp only [execOp, ho]
    simp [Instr.buildSlice, run_underlying hT, sizeOf, typeInfo, hi, his, newRow, zeroValue, hiz, hx, hle, h0, hfl]
  · show List.take (1 * K.size) (K.enc z) = [z].flatMap K.enc
    rw [List.take_of_length_le (by omega)]
    simp
theorem w64 {n : Int} (h1 : -9223372036854775808 ≤ n) (h2 : n ≤ 9223372036854775807) : IntKind.i64.wrap n = n := by
  unfold IntKind.wrap
  simp only [IntKind.signed, IntKind.bits]
  simp
  split <;> omega
theorem wu8 {n : Int} (h1 : 0 ≤ n) (h2 : n ≤ 255) : IntKind.u8.wrap n = n := by
  unfold IntKind.wrap
  simp only [IntKind.signed, IntKind.bits]
  simp
  omega
theorem wu64 {n : Int} (h1 : 0 ≤ n) (h2 : n ≤ 18446744073709551615) : IntKind.u64.wrap n = n := by
  unfold IntKind.wrap
  simp only [IntKind.signed, IntKind.bits]
  simp
  omega
theorem wu32 {n : Int} (h1 : 0 ≤ n) (h2 : n ≤ 4294967295) : IntKind.u32.wrap n = n := by
  unfold IntKind.wrap
  simp only [IntKind.signed, IntKind.bits]
  simp
  omega
theorem wf64 {n : Int} : (Lit.int .i64 n).wf = true ↔ -9223372036854775808 ≤ n ∧ n ≤ 9223372036854775807 := by
  simp only [Lit.wf, IntKind.min, IntKind.max, IntKind.signed, IntKind.bits, Bool.and_eq_true, decide_eq_true_eq]
  simp
theorem wf8 {n : Int} : (Lit.int .u8 n).wf = true ↔ 0 ≤ n ∧ n ≤ 255 := by
  simp only [Lit.wf, IntKind.min, IntKind.max, IntKind.signed, IntKind.bits, Bool.and_eq_true, decide_eq_true_eq]
  simp
theorem loopM_from {σ ε : Type} {step : σ → Option (Sum ε σ)} (S : Nat → σ) (n : Nat) (e : ε) (h : ∀ j, j < n → step (S j) = some (.inr (S (j + 1)))) (he : step (S n) = some (.inl e)) : ∀ k m, m ≤ n → n - m < k → loopM step k (S m) = some e
  | 0, m, _, hk => by omega
  | k + 1, m, hm, hk => by
    unfold loopM
    by_cases e1 : m = n
    · subst e1
      rw [he]
    · rw [h m (by omega)]
      exact loopM_from S n e h he k (m + 1) (by omega) (by omega)
theorem loopM_run {σ ε : Type} {step : σ → Option (Sum ε σ)} (S : Nat → σ) (n : Nat) {e : ε} {k : Nat} {s : σ} (hs : S 0 = s) (h : ∀ j, j < n → step (S j) = some (.inr (S (j + 1)))) (he : step (S n) = some (.inl e)) (hk : n < k) : loopM step k s = some e := by
  subst hs
  exact loopM_from S n e h he k 0 (by omega) (by omega)
theorem loopM_bad {σ ε : Type} {step : σ → Option (Sum ε σ)} (S : Nat → σ) (N : Nat) (good : Nat → Prop) {e : ε} {k : Nat} {s : σ} (hs : S 0 = s) (hex : ∃ j, j < N ∧ ¬ good j)
    (h : ∀ j, j < N → (∀ i, i < j → good i) → good j → step (S j) = some (.inr (S (j + 1)))) (hb : ∀ j, j < N → (∀ i, i < j → good i) → ¬ good j → step (S j) = some (.inl e)) (hk : N < k) : loopM step k s = some e := by
  have hmin : ∀ m j, j ≤ m → (j < N ∧ ¬ good j) → ∃ n, (n < N ∧ ¬ good n) ∧ ∀ i, i < n → good i := by
    intro m
    induction m with
    | zero =>
      intro j hj hjj
      exact ⟨j, hjj, fun i hi => by omega⟩
    | succ m ih =>
      intro j hj hjj
      by_cases hx : ∃ i, i < j ∧ ¬ good i
      · obtain ⟨i, hi, hgi⟩ := hx
        exact ih i (by omega) ⟨by omega, hgi⟩
      · exact ⟨j, hjj, fun i hi => Classical.byContradiction fun hg => hx ⟨i, hi, hg⟩⟩
  obtain ⟨j, hj⟩ := hex
  obtain ⟨n, ⟨hn, hg⟩, hall⟩ := hmin j j (Nat.le_refl _) hj
  exact loopM_run S n hs (fun i hi => h i (by omega) (fun q hq => hall q (by omega)) (hall i hi)) (hb n hn hall hg) (by omega)
section
variable {P : Program} {w : World}
def noughtV (n : Nat) : List Value := List.replicate n (Value.int .u8 0)
theorem noughtV_enc (n : Nat) : ((List.replicate n (0 : Int)).flatMap (kI .u8).enc) = noughtV n := by
  induction n with
  | zero => rfl
  | succ n ih =>
    rw [List.replicate_succ, List.flatMap_cons, ih]
    rfl
theorem noughtV_len (n : Nat) : (noughtV n).length = n := List.length_replicate
theorem noughtV_one (n : Nat) : ∀ u ∈ noughtV n, u.oneCell' = true := by
  intro u hu
  rw [List.eq_of_mem_replicate hu]
  rfl
theorem noughtV_cells (n : Nat) : Builtin.zeroCells #[Value.int .u8 0] n = (noughtV n).toArray := zeroCells_one _ n
theorem run_app_room_z (t u ty e : TypeId) (i : TypeInfo) (ht : P.underlying t = some (.slice e)) (hu : P.underlying u = some (.int .i64)) (hi : P.info? e = some i) (hz : i.zero = some (.int .u8 0)) (his : i.size = 1) (hib : i.bytes = 1)
    (g sLen sCap n : Nat) (cur : Array Value) (hg : w.heap[g]? = some (.cells cur e (0, 0))) (hn0 : 0 < n) (hnl : n ≤ 4294967296) (hroom : sLen + n ≤ sCap) (hfit : sLen + n ≤ cur.size) :
    (Builtin.append_ #[t, u] ty #[.slice (some ⟨g, 0, none⟩) sLen sCap, .int .i64 (n : Int)]).run P w =
      .ok (.slice (some ⟨g, 0, none⟩) (sLen + n) sCap) (w.setRow g (cur.toList.take sLen ++ noughtV n ++ cur.toList.drop (sLen + n)).toArray) := by
  have hst := run_storeCells_at P g sLen e (noughtV n) 0 cur w hg (by simpa [noughtV_len] using hfit) (noughtV_one n)
  simp only [Nat.add_zero, noughtV_len] at hst
  have hw : IntKind.i64.wrap (n : Int) = (n : Int) := w64 (by omega) (by omega)
  have h0 : ¬ ((n : Int) < 0) := by omega
  have h48 : ¬ (281474976710656 < (n : Int)) := by omega
  have hne : ¬ n = 0 := by omega
  simp [Builtin.append_, run_underlying ht, run_underlying hu, sizeOf, typeInfo, zeroValue, hi, hz, his, hib, asInt, asIntOf, hw, h0, h48, hne, hroom, Value.cells, noughtV_cells, Addr.add_lit, hst]
theorem run_app_grow_z (t u ty e : TypeId) (i : TypeInfo) (ht : P.underlying t = some (.slice e)) (hu : P.underlying u = some (.int .i64)) (hi : P.info? e = some i) (hz : i.zero = some (.int .u8 0)) (his : i.size = 1) (hib : i.bytes = 1)
    (v : Value) (A : Option Addr) (sLen sCap n : Nat) (hv : v = .slice A sLen sCap) (olds : List Value) (hfo : (Builtin.firstCells 1 sLen v).run P w.drew = .ok olds.toArray w.drew) (hn0 : 0 < n)
    (hg : sCap < sLen + n) (h63 : sLen + n ≤ 4294967296) (hfit : Builtin.nextslicecap (sLen + n) sCap * i.bytes ≤ 281474976710656) :
    (Builtin.append_ #[t, u] ty #[v, .int .i64 (n : Int)]).run P w =
      .ok (.slice (some ⟨w.heap.size, 0, none⟩) (sLen + n) (grownCap w (sLen + n) sCap e))
        (w.drew.alloc (.cells (olds.toArray ++ (noughtV n).toArray ++ Builtin.zeroCells #[Value.int .u8 0] (grownCap w (sLen + n) sCap e - (sLen + n))) e)) := by
  have hn : ¬ (sLen + n ≤ sCap) := by omega
  have h63' : ¬ (9223372036854775807 < ((sLen : Int) + (n : Int))) := by omega
  have h48' : ¬ (281474976710656 < Builtin.nextslicecap (sLen + n) sCap * i.bytes) := by omega
  rw [hib, Nat.mul_one] at h48'
  have hw : IntKind.i64.wrap (n : Int) = (n : Int) := w64 (by omega) (by omega)
  have h0 : ¬ ((n : Int) < 0) := by omega
  have h48 : ¬ (281474976710656 < (n : Int)) := by omega
  have hne : ¬ n = 0 := by omega
  subst hv
  simp [Builtin.append_, run_underlying ht, run_underlying hu, sizeOf, typeInfo, zeroValue, hi, hz, his, hib, asInt, asIntOf, hw, h0, h48, hne, hn, h63', h48', Question.forced, hfo, newRow, grownCap, Value.cells, noughtV_cells]
  try rfl
theorem Own.appendZ {E T U : TypeId} {B bs n : Nat} {v : Value} {L : List Int} (h : Own (kI .u8) E w B v L) (ty : TypeId) (hT : P.underlying T = some (.slice E)) (hU : P.underlying U = some (.int .i64)) (hE : elB P E = some (some (.int .u8 0), 1, bs))
    (hbs : bs = 1) (hn0 : 0 < n) (hlim : L.length + n ≤ LIM) (hB : B ≤ w.heap.size) : ∃ v' w', (Builtin.append_ #[T, U] ty #[v, .int .i64 (n : Int)]).run P w = .ok v' w' ∧ AppR (kI .u8) E B w v (L ++ List.replicate n 0) v' w' := by
  obtain ⟨i, hi, hiz, his, hib⟩ := elB_parts hE
  subst hbs
  unfold LIM at hlim
  have hLe : (L.flatMap (kI .u8).enc).length = L.length := by rw [len_flat]; exact Nat.mul_one _
  have hcat : (L ++ List.replicate n 0).flatMap (kI .u8).enc = L.flatMap (kI .u8).enc ++ noughtV n := by rw [List.flatMap_append, noughtV_enc]
  have hlen : ((L ++ List.replicate n 0).flatMap (kI .u8).enc).length = (L.length + n) * 1 := by rw [hcat, List.length_append, hLe, noughtV_len, Nat.mul_one]
  have hll : (L ++ List.replicate n 0).length = L.length + n := by simp
  have h63 : L.length + n ≤ maxLen := by simp only [maxLen]; omega
  have grown : ∀ (old : Nat), old < L.length + n →
      Own (kI .u8) E (w.drew.alloc (.cells ((L.flatMap (kI .u8).enc).toArray ++ (noughtV n).toArray ++ Builtin.zeroCells #[Value.int .u8 0] (grownCap w (L.length + n) old E - (L.length + n))) E)) B (.slice (some ⟨w.heap.size, 0, none⟩) (L.length + n) (grownCap w (L.length + n) old E)) (L ++ List.replicate n 0) ∧
      ∀ row : Option Nat, w.grownBy (w.drew.alloc (.cells ((L.flatMap (kI .u8).enc).toArray ++ (noughtV n).toArray ++ Builtin.zeroCells #[Value.int .u8 0] (grownCap w (L.length + n) old E - (L.length + n))) E)) row := by
    intro old ho
    have hge := grownCap_ge w (L.length + n) old E
    have hcm : grownCap w (L.length + n) old E ≤ maxLen := grownCap_le_maxLen w (L.length + n) old E h63
    refine ⟨?_, fun row => ⟨rfl, rfl, rfl, by simp, fun k hk _ => heap_alloc_old w.drew _ hk⟩⟩
    unfold Own
    rw [hll]
    refine ⟨hlen, .inr ⟨w.heap.size, _, _, rfl, hB, heap_alloc_new w.drew _, hge, hcm, ?_, ?_⟩⟩
    · show _ = grownCap w (L.length + n) old E * 1
      simp only [Array.size_append, List.size_toArray, size_zeroCells, hLe, noughtV_len, Nat.mul_one]
      simp
      omega
    · show List.take ((L.length + n) * 1) _ = _
      rw [hcat, Nat.mul_one]
      simp only [Array.toList_append]
      exact List.take_left' (by rw [List.length_append, hLe, noughtV_len])
  have fresh : ∀ g : Nat, g < w.heap.size → Off v g → ∀ n c : Nat, Off (.slice (some ⟨w.heap.size, 0, none⟩) n c) g := by
    intro g hg _ n c e
    have := Option.some.inj (show some w.heap.size = some g from e)
    omega
  rcases h.2 with ⟨rfl, hn0'⟩ | ⟨g, cap, cur, rfl, hbg, hgg, hnc, hcm, hcs, htake⟩
  · obtain rfl : L = [] := List.eq_nil_of_length_eq_zero hn0'
    have hr := run_app_grow_z (P := P) (w := w) T U ty E i hT hU hi hiz his hib (.slice none 0 0) none 0 0 n rfl [] (by simp [Builtin.firstCells]) hn0 (by omega) (by simpa using hlim) (growslice_fits (by simp only [List.length_nil] at hlim; omega) (by rw [hib]; simp only [List.length_nil] at hlim; omega))
    have hgr := grown 0 (by simp only [List.length_nil, Nat.zero_add]; omega)
    simp only [List.length_nil, Nat.zero_add, List.flatMap_nil, List.nil_append] at hgr hr
    exact ⟨_, _, hr, hgr.1, Fr.of_grownBy (hgr.2 _), fun g hg ho => fresh g hg ho _ _⟩
  · have hL : L.length * 1 ≤ cur.size := by show L.length * (kI .u8).size ≤ _; rw [hcs]; exact Nat.mul_le_mul_right _ hnc
    by_cases hroom : L.length + n ≤ cap
    · have hfit : L.length + n ≤ cur.size := by rw [hcs]; show _ ≤ cap * 1; omega
      have hr := run_app_room_z (P := P) T U ty E i hT hU hi hiz his hib g L.length cap n cur hgg hn0 (by omega) hroom hfit
      refine ⟨_, _, hr, ?_, Fr.of_grownBy (r := some g) ⟨rfl, rfl, rfl, by simp, fun k _ hk => setRow_other w g k _ (fun e => hk (by rw [e]))⟩, fun g' _ ho => ho⟩
      unfold Own
      rw [hll]
      refine ⟨hlen, .inr ⟨g, cap, _, rfl, hbg, setRow_heap w g cur _ E _ hgg, hroom, hcm, ?_, ?_⟩⟩
      · rw [← hcs]
        simp only [List.size_toArray, List.length_append, List.length_take, List.length_drop, Array.length_toList, noughtV_len]
        omega
      · show List.take ((L.length + n) * 1) _ = _
        have htake' : cur.toList.take L.length = L.flatMap (kI .u8).enc := by
          have : cur.toList.take (L.length * 1) = _ := htake
          rwa [Nat.mul_one] at this
        rw [hcat, Nat.mul_one, htake']
        exact List.take_left' (by rw [List.length_append, hLe, noughtV_len])
    · have holds : ∀ j u, (L.flatMap (kI .u8).enc)[j]? = some u → w.cell? ((⟨g, 0, none⟩ : Addr).add j) = some u := World.ownsRow.cells (g := g) h rfl
      have hfo := run_firstCells_some (P := P) w.drew 1 L.length ⟨g, 0, none⟩ L.length cap (L.flatMap (kI .u8).enc) (by rw [hLe, Nat.mul_one]) (by simpa using holds)
      have hr := run_app_grow_z (P := P) T U ty E i hT hU hi hiz his hib (.slice (some ⟨g, 0, none⟩) L.length cap) _ L.length cap n rfl (L.flatMap (kI .u8).enc) hfo hn0 (by omega) (by omega) (growslice_fits (by omega) (by rw [hib]; omega))
      have hgr := grown cap (by omega)
      exact ⟨_, _, hr, hgr.1, Fr.of_grownBy (hgr.2 _), fun g' hg ho => fresh g' hg ho _ _⟩
theorem opv_appendZ {ρ : Env} {o : Oper} {x y : Operand} {E T U : TypeId} {B bs n : Nat} {v : Value} {L : List Int} (ho : o.op = .call ⟨.builtin .append, #[x, y], #[T, U]⟩) (hT : P.underlying T = some (.slice E)) (hU : P.underlying U = some (.int .i64)) (hE : elB P E = some (some (.int .u8 0), 1, bs))
    (hbs : bs = 1) (hx : evO ρ x = v) (hy : evO ρ y = .int .i64 (n : Int)) (h : Own (kI .u8) E w B v L) (hn0 : Nat.blt 0 n = true) (hlim : L.length + n ≤ LIM) (hB : B ≤ w.heap.size) : OpV P o ρ w (AppR (kI .u8) E B w v (L ++ List.replicate n 0)) := by
  obtain ⟨v', w', hrun, hR⟩ := h.appendZ (P := P) (T := T) (U := U) (n := n) o.type hT hU hE hbs (by simpa [Nat.blt_eq] using hn0) hlim hB
  exact opv_val (w' := w') (v := v') (by simp [execOp, ho, resolve, invoke, builtin, hx, hy, hrun]) hR
end
section
variable {P : Program} {N : Nat} {l : List Oper} {Q : Exit → Env → World → Prop}
end
theorem xr_sliceArr_lh {P : Program} {ρ : Env} {w : World} {o : Oper} {x a b : Operand} {T E : TypeId} {g p len : Nat} {s : Nat} {k k' : IntKind} {lo hi : Int} (ho : o.op = .slice T x (some a) (some b) none) (hT : P.underlying T = some (.array len E)) (hs : szB P E = some s) (hx : evO ρ x = .pointer (some ⟨g, p, none⟩))
    (ha : evO ρ a = .int k lo) (hb : evO ρ b = .int k' hi) (h0 : 0 ≤ lo) (h1 : lo ≤ hi) (h2 : hi ≤ (len : Int)) : (execOp (evO ρ) o).run P w = .ok (.value (subv s (.slice (some ⟨g, p, none⟩) len len) lo.toNat hi.toNat)) w := by
  unfold szB at hs
  obtain ⟨inf, hinf, he⟩ := Option.map_eq_some_iff.1 hs
  have h0' : 0 ≤ hi := by omega
  have hlo : lo ≤ ((hi.toNat : Nat) : Int) := by omega
  have e : ∀ (c : Prop) [Decidable c] (y z : Addr), (if c then some y else some z) = some (if c then y else z) := by
    intro c _ y z
    split <;> rfl
  simp [execOp, ho, hx, ha, hb, Instr.sliceAt, Instr.sureAddr, run_underlying hT, Instr.sliceBounds, sizeOf, typeInfo, hinf, he, subv, sliceBound_ok h0' h2, sliceBound_ok h0 hlo, e]
section
variable {P : Program} {N : Nat} {l : List Oper} {Q : Exit → Env → World → Prop}
theorem beq_f {a b : Nat} (h : ¬ a = b) : Nat.beq a b = false := by
  cases hb : Nat.beq a b
  · rfl
  · exact absurd (Nat.eq_of_beq_eq_true hb) h
end
end Go.Xw
namespace Go.Yw
open Go Go.Xw
inductive Ty (S : Type) where
  | int (k : IntKind) | bool | str
  | arr (n : Nat) (t : Ty S)
  | st (s : S)
  | sl (t : Ty S)
structure Sg where
  S : Type
  beq : S → S → Bool
  beq_eq : ∀ a b, beq a b = true → a = b
  A : S → Type
  inh : (s : S) → Inhabited (A s)
@[reducible] def el (Γ : Sg) : Ty Γ.S → Type
  | .int _ => Int | .bool => Bool | .str => List UInt8
  | .arr n t => Arr n (el Γ t)
  | .st s => Γ.A s
  | .sl t => List (el Γ t)
@[reducible] def inhEl (Γ : Sg) : (t : Ty Γ.S) → Inhabited (el Γ t)
  | .int _ => inferInstanceAs (Inhabited Int) | .bool => inferInstanceAs (Inhabited Bool) | .str => inferInstanceAs (Inhabited (List UInt8))
  | .arr n t => have := inhEl Γ t; inferInstanceAs (Inhabited (Arr n (el Γ t)))
  | .st s => Γ.inh s
  | .sl t => inferInstanceAs (Inhabited (List (el Γ t)))
instance {Γ : Sg} {t : Ty Γ.S} : Inhabited (el Γ t) := inhEl Γ t
def ikBeq : IntKind → IntKind → Bool
  | .i8, .i8 | .i16, .i16 | .i32, .i32 | .i64, .i64 | .u8, .u8 | .u16, .u16 | .u32, .u32 | .u64, .u64 => true
  | _, _ => false
def Ty.beq (Γ : Sg) : Ty Γ.S → Ty Γ.S → Bool
  | .int a, .int b => ikBeq a b
  | .bool, .bool => true
  | .str, .str => true
  | .arr n t, .arr m u => Nat.beq n m && Ty.beq Γ t u
  | .st a, .st b => Γ.beq a b
  | .sl t, .sl u => Ty.beq Γ t u
  | _, _ => false
theorem ik_eq {a b : IntKind} (h : ikBeq a b = true) : a = b := by cases a <;> cases b <;> first | rfl | simp [ikBeq] at h
theorem Ty.eq_of_beq {Γ : Sg} : ∀ {t u : Ty Γ.S}, Ty.beq Γ t u = true → t = u
  | .int a, u, h => by cases u <;> simp [Ty.beq] at h; exact congrArg _ (ik_eq h)
  | .bool, u, h => by cases u <;> simp [Ty.beq] at h; rfl
  | .str, u, h => by cases u <;> simp [Ty.beq] at h; rfl
  | .arr n t, u, h => by
    cases u <;> simp [Ty.beq] at h
    obtain ⟨rfl, h⟩ := h; rw [Ty.eq_of_beq h]
  | .st a, u, h => by cases u <;> simp [Ty.beq] at h; exact congrArg _ (Γ.beq_eq _ _ h)
  | .sl t, u, h => by cases u <;> simp [Ty.beq] at h; exact congrArg _ (Ty.eq_of_beq h)
structure PV (Γ : Sg) where
  t : Ty Γ.S
  x : el Γ t
def PV.cst {Γ : Sg} (t : Ty Γ.S) (p : PV Γ) : Option (el Γ t) := if h : Ty.beq Γ p.t t = true then some (Ty.eq_of_beq h ▸ p.x) else none
theorem PV.cst_eq {Γ : Sg} {t : Ty Γ.S} {p : PV Γ} {x : el Γ t} (h : PV.cst t p = some x) : p = ⟨t, x⟩ := by
  unfold PV.cst at h
  split at h
  · rename_i hb
    obtain ⟨u, y⟩ := p
    have e := Ty.eq_of_beq hb
    subst e
    simp at h
    rw [h]
  · simp at h
structure Gm extends Sg where
  toH : (s : S) → A s → List (PV toSg)
  ofH : (s : S) → List (PV toSg) → Option (A s)
  szS : S → Nat
  flS : S → Bool
section
variable (Γ : Gm)
def fltT : Ty Γ.S → Bool
  | .arr _ t => fltT t
  | .st s => Γ.flS s
  | .sl _ => false
  | _ => true
def sz : Ty Γ.S → Nat
  | .arr n t => n * sz t
  | .st s => Γ.szS s
  | _ => 1
def isAgg {Γ : Gm} : Ty Γ.S → Bool
  | .arr _ _ | .st _ => true
  | _ => false
structure GmOk : Prop where
  of_to : ∀ s l x, Γ.ofH s l = some x → Γ.toH s x = l
  sz_eq : ∀ s x, ((Γ.toH s x).map fun p => sz Γ p.t).sum = Γ.szS s
  fl_eq : ∀ s x, Γ.flS s = true → ∀ p ∈ Γ.toH s x, fltT Γ p.t = true
inductive SV where
  | v (t : Ty Γ.S) (x : el Γ.toSg t)
  | ptr (b o : Nat)
  | pel (b n : Nat) (c : List (Int × Int)) (i : Int) (q : Nat)
  | pea (b o N n : Nat) (i : Int) (q : Nat)
  | pfz (t : Ty Γ.S) (x : List (el Γ.toSg t)) (i : Int) (q : Nat)
  | nilp
  | sl (b n : Nat) (c : List (Int × Int)) | nils
  | asl (b o N n : Nat) (c : List (Int × Int)) | asp (b o m : Nat)
  | agg (l : List SV) | tup (l : List SV)
  | fn (f : FuncId) (c : List SV) | nilf
  | ifc (T : TypeId) (x : SV) | nili
  | glb (g o : Nat) | pgl (g n : Nat) (i : Int)
  | undef
inductive Res where
  | box (T : TypeId) (c : SV Γ)
  | row (t : Ty Γ.S) (E : TypeId) (l : List (el Γ.toSg t))
  | rowc (E : TypeId) (l : List Int)
  | fz (t : Ty Γ.S) (l : List (el Γ.toSg t))
  | itr (s : List UInt8) (i : Int)
  | gone
structure St where
  ρ : Nat → SV Γ
  L : Nat → Option (Res Γ)
  nx : Nat
inductive TU where
  | int (k : IntKind) | bool | str | sl (E : TypeId) | arr (n : Nat) (E : TypeId) | st (f : List (Nat × TypeId)) | ptr (E : TypeId) | ifc | fn | oth
structure TI where
  u : TU
  agg : Bool
  size : Nat
  code : Option (Ty Γ.S)
  zero : SV Γ
structure Ct where
  tb : Nat → Option (TI Γ)
  gl : Nat → Option (PV Γ.toSg)
  eq : Nat → (s : Γ.S) → Option ((a b : Γ.A s) → Decidable (a = b))
variable {Γ}
def upd {α : Type} (f : Nat → α) (d : Nat) (v : α) : Nat → α := fun t => bif Nat.beq t d then v else f t
def St.put (s : St Γ) : Option Nat → SV Γ → St Γ
  | some d, v => ⟨upd s.ρ d v, s.L, s.nx⟩
  | none, _ => s
def St.res (s : St Γ) (b : Nat) (r : Res Γ) : St Γ := ⟨s.ρ, upd s.L b (some r), s.nx⟩
def St.new (s : St Γ) (r : Res Γ) : St Γ := ⟨s.ρ, upd s.L s.nx (some r), Nat.succ s.nx⟩
def cst : Value → SV Γ
  | .int k n => .v (.int k) n
  | .bool b => .v .bool b
  | .string s => .v .str s.data.toList
  | .slice none 0 0 => .nils
  | .pointer none => .nilp
  | .nilFunc => .nilf
  | .nilIface => .nili
  | _ => .undef
def eo (s : St Γ) : Operand → SV Γ
  | .tmp t => s.ρ t
  | .const v => cst v
  | .global g => .glb g 0
  | .func f => .fn f []
structure Gd where
  p : Prop
  d : Decidable p
@[reducible] def gd (p : Prop) [d : Decidable p] : Gd := ⟨p, d⟩
inductive Eff (Γ : Gm) where
  | ret (v : SV Γ)
  | need (g : Gd) (v : SV Γ)
  | eff (s : St Γ) (v : SV Γ)
  | neff (g : Gd) (s : St Γ) (v : SV Γ)
  | br (b : Bool) (s1 : St Γ) (v1 : SV Γ) (s2 : St Γ) (v2 : SV Γ)
  | call (f : FuncId) (l : List (SV Γ))
  | inv (T : TypeId) (x : SV Γ) (m : String) (l : List (SV Γ))
  | stuck
def frc {α : Type} (v : SV Γ) (k : SV Γ → α) (e : α) : α := match v with
  | .v t x => k (.v t x) | .ptr b o => k (.ptr b o) | .pel b n c i q => k (.pel b n c i q) | .pea b o N n i q => k (.pea b o N n i q) | .pfz t x i q => k (.pfz t x i q) | .nilp => k .nilp
  | .sl b n c => k (.sl b n c) | .nils => k .nils | .asl b o N n c => k (.asl b o N n c) | .asp b o m => k (.asp b o m) | .agg l => k (.agg l) | .tup l => k (.tup l) | .fn f c => k (.fn f c) | .nilf => k .nilf
  | .ifc T x => k (.ifc T x) | .nili => k .nili | .glb g o => k (.glb g o) | .pgl g n i => k (.pgl g n i) | .undef => e
theorem frc_eq {α : Type} {v : SV Γ} {k : SV Γ → α} {e : α} : frc v k e = k v ∨ frc v k e = e := by cases v <;> simp [frc]
def sum (f : SV Γ → Nat) : List (SV Γ) → Nat
  | [] => 0
  | a :: l => f a + sum f l
def szv : Nat → SV Γ → Nat
  | _, .v t _ => sz Γ t
  | n + 1, .agg l => sum (szv n) l
  | _, _ => 1
def aggv : SV Γ → Bool
  | .v t _ => isAgg t
  | .agg _ => true
  | _ => false
def inL {α β : Type} (w : α → Nat) (f : α → Nat → Option β) : List α → Nat → Option β
  | [], _ => none
  | p :: l, o => match Nat.blt o (w p) with
    | true => f p o
    | false => inL w f l (o - w p)
def setL {α : Type} (w : α → Nat) (f : α → Nat → Option α) : List α → Nat → Option (List α)
  | [], _ => none
  | p :: l, o => match Nat.blt o (w p) with
    | true => match f p o with
      | some q => some (q :: l)
      | none => none
    | false => match setL w f l (o - w p) with
      | some m => some (p :: m)
      | none => none
def szp (p : PV Γ.toSg) : Nat := sz Γ p.t
def sub : Nat → PV Γ.toSg → Nat → (u : Ty Γ.S) → Option (el Γ.toSg u)
  | 0, _, _, _ => none
  | n + 1, p, o, u => match Nat.beq o 0 && Ty.beq Γ.toSg p.t u with
    | true => PV.cst u p
    | false => match p with
      | ⟨.st s, x⟩ => inL szp (fun p o => sub n p o u) (Γ.toH s x) o
      | _ => none
def putc : Nat → PV Γ.toSg → Nat → PV Γ.toSg → Option (PV Γ.toSg)
  | 0, _, _, _ => none
  | n + 1, q, o, p => match Nat.beq o 0 && Ty.beq Γ.toSg p.t q.t with
    | true => some p
    | false => match q with
      | ⟨.st s, x⟩ => match setL szp (fun q o => putc n q o p) (Γ.toH s x) o with
        | some l => match Γ.ofH s l with
          | some y => some ⟨.st s, y⟩
          | none => none
        | none => none
      | _ => none
def rdc (ti : TI Γ) : Nat → SV Γ → Nat → Option (SV Γ)
  | 0, _, _ => none
  | n + 1, c, o => match c with
    | .v t x => match ti.code with
      | some u => match sub 9 ⟨t, x⟩ o u with
        | some y => some (.v u y)
        | none => none
      | none => none
    | .agg l => match Nat.beq o 0 && (ti.agg && Nat.beq (sum (szv 9) l) ti.size) with
      | true => some (.agg l)
      | false => inL (szv 9) (fun a o => rdc ti n a o) l o
    | c => match ti.agg || !(Nat.beq o 0) with
      | true => none
      | false => some c
def gaP (N : Nat) : Nat → PV Γ.toSg → Nat → Option (PV Γ.toSg)
  | 0, _, _ => none
  | n + 1, p, o => match p with
    | ⟨.arr m u, x⟩ => match Nat.beq o 0 && Nat.beq m N with
      | true => some ⟨.arr m u, x⟩
      | false => match isAgg u && Nat.blt (o / sz Γ u) m with
        | true => gaP N n ⟨u, Arr.get x ((o / sz Γ u : Nat) : Int)⟩ (o % sz Γ u)
        | false => none
    | ⟨.st s, x⟩ => inL szp (fun p o => gaP N n p o) (Γ.toH s x) o
    | _ => none
def arrAt (N : Nat) : Nat → SV Γ → Nat → Option (PV Γ.toSg)
  | 0, _, _ => none
  | n + 1, c, o => match c with
    | .v t x => gaP N 9 ⟨t, x⟩ o
    | .agg l => inL (szv 9) (fun a o => arrAt N n a o) l o
    | _ => none
def ofPV (p : PV Γ.toSg) : SV Γ := .v p.t p.x
def wrv (f : SV Γ → Nat → SV Γ → Option (SV Γ)) (c : SV Γ) (o : Nat) (y : SV Γ) : Option (SV Γ) := match c with
  | .v t x => match y with
    | .v u z => match putc 9 ⟨t, x⟩ o ⟨u, z⟩ with
      | some p => some (ofPV p)
      | none => none
    | y => match t, x with
      | .st s, x => match setL (szv 9) (fun a o => f a o y) ((Γ.toH s x).map ofPV) o with
        | some l => some (.agg l)
        | none => none
      | _, _ => none
  | .agg l => match setL (szv 9) (fun a o => f a o y) l o with
    | some l => some (.agg l)
    | none => none
  | _ => none
def wrc : Nat → SV Γ → Nat → SV Γ → Option (SV Γ)
  | 0, _, _, _ => none
  | n + 1, c, o, y => match Nat.beq o 0 && (Nat.beq (szv 9 c) (szv 9 y) && (cond (aggv c) (aggv y) (!(aggv y)))) with
    | true => match c, y with
      | .v (.st _) _, .v _ _ | .v (.arr _ _) _, .v _ _ => wrv (fun a o y => wrc n a o y) c o y
      | _, _ => some y
    | false => wrv (fun a o y => wrc n a o y) c o y
def vw {α : Type} (l : List α) : List (Int × Int) → List α
  | [] => l
  | c :: cs => vw (cut l c.1 c.2) cs
structure LV (Γ : Gm) where
  t : Ty Γ.S
  l : List (el Γ.toSg t)
def lvw (n : Nat) (t : Ty Γ.S) (l : List (el Γ.toSg t)) (cs : List (Int × Int)) : Option (LV Γ) := match Nat.beq n (sz Γ t) with
  | true => some ⟨t, vw l cs⟩
  | false => none
def slc (s : St Γ) : SV Γ → Option (LV Γ)
  | .v (.sl t) xs => some ⟨t, xs⟩
  | .sl b n cs => match s.L b with
    | some (.row t _ l) => lvw n t l cs
    | some (.fz t l) => lvw n t l cs
    | some (.rowc _ l) => lvw n (.int .u8) l cs
    | _ => none
  | .asl b o N n cs => match s.L b with
    | some (.box _ c) => match arrAt N 9 c o with
      | some ⟨.arr m t, a⟩ => match Nat.beq m N with
        | true => lvw n t a.l cs
        | false => none
      | _ => none
    | _ => none
  | _ => none
end
section
variable {Γ : Gm}
inductive CL (w : World) (F : Nat → Prop) : List (PV Γ.toSg) → List Value → Prop
  | nil : CL w F [] []
  | int {p k n l cs} (e : p = ⟨.int k, n⟩) : CL w F l cs → CL w F (p :: l) (.int k n :: cs)
  | bool {p b l cs} (e : p = ⟨.bool, b⟩) : CL w F l cs → CL w F (p :: l) (.bool b :: cs)
  | str {p s l cs} (e : p = ⟨.str, s⟩) : CL w F l cs → CL w F (p :: l) (sv s :: cs)
  | arr {p n t a m l cs} (e : p = ⟨.arr n t, a⟩) : CL w F (a.l.map (PV.mk t)) m → CL w F l cs → CL w F (p :: l) (m ++ cs)
  | st {p s x m l cs} (e : p = ⟨.st s, x⟩) : CL w F (Γ.toH s x) m → CL w F l cs → CL w F (p :: l) (m ++ cs)
  | sl {p t xs b o c m l cs} (e : p = ⟨.sl t, xs⟩) : xs.length ≤ c → F b → At w b o m → CL w F (xs.map (PV.mk t)) m → CL w F l cs → CL w F (p :: l) (.slice (some ⟨b, o, none⟩) xs.length c :: cs)
  | sln {p t A c l cs} (e : p = ⟨.sl t, []⟩) : CL w F l cs → CL w F (p :: l) (.slice A 0 c :: cs)
variable {w w' : World} {F F' : Nat → Prop} {l l' : List (PV Γ.toSg)} {cs : List Value}
theorem CL.one (h : CL w F l cs) : ∀ v ∈ cs, v.oneCell' = true := by
  induction h with
  | nil => intro v hv; cases hv
  | int e _ ih | bool e _ ih | str e _ ih | sln e _ ih => intro v hv; rcases List.mem_cons.1 hv with rfl | hv; rfl; exact ih v hv
  | arr e _ _ i1 i2 | st e _ _ i1 i2 => intro v hv; rcases List.mem_append.1 hv with hv | hv; exact i1 v hv; exact i2 v hv
  | sl e _ _ _ _ _ _ ih => intro v hv; rcases List.mem_cons.1 hv with rfl | hv; rfl; exact ih v hv
theorem sum_map_sz (t : Ty Γ.S) (xs : List (el Γ.toSg t)) : ((xs.map (PV.mk t)).map szp).sum = xs.length * sz Γ t := by
  induction xs with
  | nil => simp
  | cons x xs ih => simp only [List.map_cons, List.sum_cons, List.length_cons, ih]; show sz Γ t + _ = _; rw [Nat.succ_mul, Nat.add_comm]
theorem CL.len (hΓ : GmOk Γ) (h : CL w F l cs) : cs.length = (l.map szp).sum := by
  induction h with
  | nil => rfl
  | int e _ ih | bool e _ ih | str e _ ih | sln e _ ih => subst e; simp only [List.length_cons, List.map_cons, List.sum_cons, ih, szp, sz]; omega
  | arr e _ _ i1 i2 => subst e; rename_i n t a m l cs _ _; rw [List.length_append, i1, i2, sum_map_sz, a.h]; rfl
  | st e _ _ i1 i2 => subst e; rename_i s x m l cs _ _; rw [List.length_append, i1, i2, List.map_cons, List.sum_cons]; congr 1; exact hΓ.sz_eq s x
  | sl e _ _ _ _ _ _ ih => subst e; simp only [List.length_cons, List.map_cons, List.sum_cons, ih, szp, sz]; omega
theorem at_of_eq {b o : Nat} {cs : List Value} (h : At w b o cs) (e : w'.heap[b]? = w.heap[b]?) : At w' b o cs := by
  intro j v hj
  have := h j v hj
  unfold World.cell? at this ⊢
  simp only at this ⊢
  rw [e]; exact this
theorem CL.mono (h : CL w F l cs) (hF : ∀ k, F k → F' k) (hw : ∀ k, F k → w'.heap[k]? = w.heap[k]?) : CL w' F' l cs := by
  induction h with
  | nil => exact .nil
  | int e _ ih => exact .int e ih
  | bool e _ ih => exact .bool e ih
  | str e _ ih => exact .str e ih
  | sln e _ ih => exact .sln e ih
  | arr e _ _ i1 i2 => exact .arr e i1 i2
  | st e _ _ i1 i2 => exact .st e i1 i2
  | sl e h1 h2 h3 _ _ i1 i2 => exact .sl e h1 (hF _ h2) (at_of_eq h3 (hw _ h2)) i1 i2
theorem CL.append {a b : List (PV Γ.toSg)} {m r : List Value} (ha : CL w F a m) (hb : CL w F b r) : CL w F (a ++ b) (m ++ r) := by
  induction ha with
  | nil => exact hb
  | int e _ ih => exact .int e ih
  | bool e _ ih => exact .bool e ih
  | str e _ ih => exact .str e ih
  | sln e _ ih => exact .sln e ih
  | arr e h1 _ _ i2 => rw [List.append_assoc]; exact .arr e h1 i2
  | st e h1 _ _ i2 => rw [List.append_assoc]; exact .st e h1 i2
  | sl e h1 h2 h3 h4 _ _ i2 => exact .sl e h1 h2 h3 h4 i2
theorem CL.cons_inv {p : PV Γ.toSg} (h : CL w F (p :: l) cs) : ∃ m r, cs = m ++ r ∧ CL w F [p] m ∧ CL w F l r := by
  cases h with
  | int e h => exact ⟨[_], _, rfl, .int e .nil, h⟩
  | bool e h => exact ⟨[_], _, rfl, .bool e .nil, h⟩
  | str e h => exact ⟨[_], _, rfl, .str e .nil, h⟩
  | sln e h => exact ⟨[_], _, rfl, .sln e .nil, h⟩
  | @arr _ n t a m l cs e h1 h => exact ⟨m, _, rfl, by have := CL.arr e h1 .nil; rwa [List.append_nil] at this, h⟩
  | @st _ s x m l cs e h1 h => exact ⟨m, _, rfl, by have := CL.st e h1 .nil; rwa [List.append_nil] at this, h⟩
  | sl e h1 h2 h3 h4 h => exact ⟨[_], _, rfl, .sl e h1 h2 h3 h4 .nil, h⟩
theorem CL.split : ∀ {a b : List (PV Γ.toSg)} {cs : List Value}, CL w F (a ++ b) cs → ∃ m r, cs = m ++ r ∧ CL w F a m ∧ CL w F b r
  | [], b, cs, h => ⟨[], cs, rfl, .nil, h⟩
  | p :: a, b, cs, h => by
    obtain ⟨m, r, rfl, h1, h2⟩ := CL.cons_inv h
    obtain ⟨m', r', rfl, h3, h4⟩ := CL.split h2
    exact ⟨m ++ m', r', by rw [List.append_assoc], h1.append h3, h4⟩
theorem CL.int_inv {k : IntKind} {n : Int} (h : CL w F [(⟨.int k, n⟩ : PV Γ.toSg)] cs) : cs = [.int k n] := by
  cases h with
  | int e h => cases h; cases e; rfl
  | bool e h | str e h | sln e h => cases e
  | arr e h1 h => cases e
  | st e h1 h => cases e
  | sl e h1 h2 h3 h4 h => cases e
theorem CL.bool_inv {b : Bool} (h : CL w F [(⟨.bool, b⟩ : PV Γ.toSg)] cs) : cs = [.bool b] := by
  cases h with
  | bool e h => cases h; cases e; rfl
  | int e h | str e h | sln e h => cases e
  | arr e h1 h => cases e
  | st e h1 h => cases e
  | sl e h1 h2 h3 h4 h => cases e
theorem CL.str_inv {s : List UInt8} (h : CL w F [(⟨.str, s⟩ : PV Γ.toSg)] cs) : cs = [sv s] := by
  cases h with
  | str e h => cases h; cases e; rfl
  | int e h | bool e h | sln e h => cases e
  | arr e h1 h => cases e
  | st e h1 h => cases e
  | sl e h1 h2 h3 h4 h => cases e
theorem CL.arr_inv {n : Nat} {t : Ty Γ.S} {a : Arr n (el Γ.toSg t)} (h : CL w F [(⟨.arr n t, a⟩ : PV Γ.toSg)] cs) : CL w F (a.l.map (PV.mk t)) cs := by
  cases h with
  | arr e h1 h => cases e; cases h; rwa [List.append_nil]
  | int e h | bool e h | sln e h | str e h => cases e
  | st e h1 h => cases e
  | sl e h1 h2 h3 h4 h => cases e
theorem CL.st_inv {s : Γ.S} {x : Γ.A s} (h : CL w F [(⟨.st s, x⟩ : PV Γ.toSg)] cs) : CL w F (Γ.toH s x) cs := by
  cases h with
  | st e h1 h => cases e; cases h; rwa [List.append_nil]
  | int e h | bool e h | sln e h | str e h => cases e
  | arr e h1 h => cases e
  | sl e h1 h2 h3 h4 h => cases e
abbrev Ck (n : Nat) := { l : List Value // l.length = n ∧ ∀ v ∈ l, v.oneCell' = true }
inductive CK (w : World) (F : Nat → Prop) (t : Ty Γ.S) : List (el Γ.toSg t) → List (Ck (sz Γ t)) → Prop
  | nil : CK w F t [] []
  | cons {x c xs css} : CL w F [(⟨t, x⟩ : PV Γ.toSg)] c.1 → CK w F t xs css → CK w F t (x :: xs) (c :: css)
theorem CK.len {t : Ty Γ.S} {xs : List (el Γ.toSg t)} {css : List (Ck (sz Γ t))} (h : CK w F t xs css) : css.length = xs.length := by
  induction h with
  | nil => rfl
  | cons _ _ ih => simp [ih]
theorem CK.flat {t : Ty Γ.S} {xs : List (el Γ.toSg t)} {css : List (Ck (sz Γ t))} (h : CK w F t xs css) : CL w F (xs.map (PV.mk t)) (css.flatMap (kC (sz Γ t)).enc) := by
  induction h with
  | nil => exact .nil
  | cons h _ ih => rw [List.map_cons, List.flatMap_cons]; exact CL.append (a := [_]) h ih
theorem CK.of_flat (hΓ : GmOk Γ) {t : Ty Γ.S} : ∀ {xs : List (el Γ.toSg t)} {m : List Value}, CL w F (xs.map (PV.mk t)) m → ∃ css, CK w F t xs css ∧ m = css.flatMap (kC (sz Γ t)).enc
  | [], m, h => by cases h; exact ⟨[], .nil, rfl⟩
  | x :: xs, m, h => by
    obtain ⟨a, r, rfl, h1, h2⟩ := CL.cons_inv h
    obtain ⟨css, h3, rfl⟩ := CK.of_flat hΓ h2
    exact ⟨⟨a, by have := h1.len hΓ; simpa [szp] using this, h1.one⟩ :: css, .cons h1 h3, rfl⟩
theorem CK.mono {t : Ty Γ.S} {xs : List (el Γ.toSg t)} {css : List (Ck (sz Γ t))} (h : CK w F t xs css) (hF : ∀ k, F k → F' k) (hw : ∀ k, F k → w'.heap[k]? = w.heap[k]?) : CK w' F' t xs css := by
  induction h with
  | nil => exact .nil
  | cons h _ ih => exact .cons (h.mono hF hw) ih
theorem CK.append {t : Ty Γ.S} {xs ys : List (el Γ.toSg t)} {cs ds : List (Ck (sz Γ t))} (h : CK w F t xs cs) (k : CK w F t ys ds) : CK w F t (xs ++ ys) (cs ++ ds) := by
  induction h with
  | nil => exact k
  | cons h _ ih => exact .cons h ih
theorem CK.drop {t : Ty Γ.S} {xs : List (el Γ.toSg t)} {cs : List (Ck (sz Γ t))} (h : CK w F t xs cs) (n : Nat) : CK w F t (xs.drop n) (cs.drop n) := by
  induction h generalizing n with
  | nil => simp; exact .nil
  | cons h t ih => cases n with
    | zero => exact .cons h t
    | succ n => exact ih n
theorem CK.take {t : Ty Γ.S} {xs : List (el Γ.toSg t)} {cs : List (Ck (sz Γ t))} (h : CK w F t xs cs) (n : Nat) : CK w F t (xs.take n) (cs.take n) := by
  induction h generalizing n with
  | nil => simp; exact .nil
  | cons h t ih => cases n with
    | zero => exact .nil
    | succ n => exact .cons h (ih n)
theorem CK.cut {t : Ty Γ.S} {xs : List (el Γ.toSg t)} {cs : List (Ck (sz Γ t))} (h : CK w F t xs cs) (a b : Int) : CK w F t (cut xs a b) (cut cs a b) := (h.take _).drop _
theorem CK.get {t : Ty Γ.S} {xs : List (el Γ.toSg t)} {cs : List (Ck (sz Γ t))} (h : CK w F t xs cs) {i : Int} (h0 : 0 ≤ i) (h1 : i < (xs.length : Int)) : CL w F [(⟨t, ix xs i⟩ : PV Γ.toSg)] (ix cs i).1 := by
  obtain ⟨k, rfl⟩ := Int.eq_ofNat_of_zero_le h0
  unfold ix
  simp only [Int.toNat_natCast]
  have hk : k < xs.length := by omega
  clear h0 h1
  induction h generalizing k with
  | nil => simp at hk
  | cons h t ih => cases k with
    | zero => simpa using h
    | succ k => simpa using ih k (by simpa using hk)
theorem CK.set {t : Ty Γ.S} {xs : List (el Γ.toSg t)} {cs : List (Ck (sz Γ t))} (h : CK w F t xs cs) (i : Nat) {y : el Γ.toSg t} {d : Ck (sz Γ t)} (hy : CL w F [(⟨t, y⟩ : PV Γ.toSg)] d.1) : CK w F t (xs.set i y) (cs.set i d) := by
  induction h generalizing i with
  | nil => exact .nil
  | cons h t ih => cases i with
    | zero => exact .cons hy t
    | succ i => exact .cons h (ih i)
theorem CK.rep {t : Ty Γ.S} {y : el Γ.toSg t} {d : Ck (sz Γ t)} (hy : CL w F [(⟨t, y⟩ : PV Γ.toSg)] d.1) (n : Nat) : CK w F t (List.replicate n y) (List.replicate n d) := by
  induction n with
  | zero => exact .nil
  | succ n ih => rw [List.replicate_succ, List.replicate_succ]; exact .cons hy ih
end
section
variable {Γ : Gm}
def vlen : Value → Nat
  | .slice _ n _ => n
  | _ => 0
def pk (t : Ty Γ.S) (cs : List Value) (u : Value) : Prop := match isAgg t with
  | true => u = .agg cs.toArray
  | false => cs = [u]
def VwV (n : Nat) : List (Int × Int) → Value → Value → Prop
  | [], v, u => u = v
  | c :: cs, v, u => 0 ≤ c.1 ∧ c.1 ≤ c.2 ∧ c.2 ≤ (vlen v : Int) ∧ VwV n cs (subv n v c.1.toNat c.2.toNat) u
abbrev Bt := Nat → Option Value
def pt (g o : Nat) : Value := .pointer (some ⟨g, o, none⟩)
def VA (β : Bt) (w : World) (F : Nat → Prop) : SV Γ → Value → Prop
  | .v t x, u => ∃ cs, CL w F [(⟨t, x⟩ : PV Γ.toSg)] cs ∧ pk t cs u
  | .ptr b o, u => ∃ g, β b = some (pt g 0) ∧ u = pt g o
  | .pel b n c i q, u => ∃ v0 v, β b = some v0 ∧ (∃ A l k, v0 = .slice A l k) ∧ VwV n c v0 v ∧ 0 ≤ i ∧ i < (vlen v : Int) ∧ u = pt (sb v) (so v + i.toNat * n + q)
  | .pea b o N n i q, u => ∃ g, β b = some (pt g 0) ∧ 0 ≤ i ∧ i < (N : Int) ∧ u = pt g (o + i.toNat * n + q)
  | .pfz t x i q, u => ∃ v, CL w F [(⟨.sl t, x⟩ : PV Γ.toSg)] [v] ∧ 0 ≤ i ∧ i < (x.length : Int) ∧ u = pt (sb v) (so v + i.toNat * sz Γ t + q)
  | .nilp, u => u = .pointer none
  | .sl b n c, u => ∃ v0, β b = some v0 ∧ (∃ A l k, v0 = .slice A l k) ∧ VwV n c v0 u
  | .nils, u => u = .slice none 0 0
  | .asl b o N n c, u => ∃ g, β b = some (pt g 0) ∧ VwV n c (.slice (some ⟨g, o, none⟩) N N) u
  | .asp b o m, u => ∃ g c, β b = some (pt g 0) ∧ u = .slice (some ⟨g, o, none⟩) m c ∧ m ≤ c
  | .nilf, u => u = .nilFunc
  | .nili, u => u = .nilIface
  | .glb g o, u => u = pt g o
  | .pgl g n i, u => 0 ≤ i ∧ u = pt g (i.toNat * n)
  | .undef, _ => True
  | _, _ => False
def cellsV (us : List Value) : List Value := us.flatMap fun u => u.cells.toList
inductive VL (β : Bt) (w : World) (F : Nat → Prop) : List (SV Γ) → List Value → Prop
  | nil : VL β w F [] []
  | atm {x u l us} : VA β w F x u → VL β w F l us → VL β w F (x :: l) (u :: us)
  | agg {a az l us} : VL β w F a az → VL β w F l us → VL β w F (.agg a :: l) (.agg (cellsV az).toArray :: us)
  | tup {a az l us} : VL β w F a az → VL β w F l us → VL β w F (.tup a :: l) (.tuple az.toArray :: us)
  | fn {f a az l us} : VL β w F a az → VL β w F l us → VL β w F (.fn f a :: l) (.func (.func f) #[] az.toArray :: us)
  | ifc {T x u l us} : VL β w F [x] [u] → VL β w F l us → VL β w F (.ifc T x :: l) (.iface T u :: us)
def VR (β : Bt) (w : World) (F : Nat → Prop) (x : SV Γ) (u : Value) : Prop := VL β w F [x] [u]
variable {β β' : Bt} {w w' : World} {F F' : Nat → Prop}
theorem VA.mono {x : SV Γ} {u : Value} (h : VA β w F x u) (hβ : ∀ b v, β b = some v → β' b = some v) (hF : ∀ k, F k → F' k) (hw : ∀ k, F k → w'.heap[k]? = w.heap[k]?) : VA β' w' F' x u := by
  cases x <;> simp only [VA] at h ⊢
  case v => obtain ⟨cs, h1, h2⟩ := h; exact ⟨cs, h1.mono hF hw, h2⟩
  case ptr => obtain ⟨g, h1, h2⟩ := h; exact ⟨g, hβ _ _ h1, h2⟩
  case pel => obtain ⟨v0, v, h1, h2⟩ := h; exact ⟨v0, v, hβ _ _ h1, h2⟩
  case pea => obtain ⟨g, h1, h2⟩ := h; exact ⟨g, hβ _ _ h1, h2⟩
  case pfz => obtain ⟨v, h1, h2⟩ := h; exact ⟨v, h1.mono hF hw, h2⟩
  case sl => obtain ⟨g, h1, h2⟩ := h; exact ⟨g, hβ _ _ h1, h2⟩
  case asl => obtain ⟨g, h1, h2⟩ := h; exact ⟨g, hβ _ _ h1, h2⟩
  case asp => obtain ⟨g, c, h1, h2⟩ := h; exact ⟨g, c, hβ _ _ h1, h2⟩
  all_goals exact h
theorem VL.mono {l : List (SV Γ)} {us : List Value} (h : VL β w F l us) (hβ : ∀ b v, β b = some v → β' b = some v) (hF : ∀ k, F k → F' k) (hw : ∀ k, F k → w'.heap[k]? = w.heap[k]?) : VL β' w' F' l us := by
  induction h with
  | nil => exact .nil
  | atm h _ ih => exact .atm (h.mono hβ hF hw) ih
  | agg _ _ i1 i2 => exact .agg i1 i2
  | tup _ _ i1 i2 => exact .tup i1 i2
  | fn _ _ i1 i2 => exact .fn i1 i2
  | ifc _ _ i1 i2 => exact .ifc i1 i2
theorem VR.mono {x : SV Γ} {u : Value} (h : VR β w F x u) (hβ : ∀ b v, β b = some v → β' b = some v) (hF : ∀ k, F k → F' k) (hw : ∀ k, F k → w'.heap[k]? = w.heap[k]?) : VR β' w' F' x u := VL.mono h hβ hF hw
theorem VR.of {x : SV Γ} {u : Value} (h : VA β w F x u) : VR β w F x u := .atm h .nil
theorem VL.len {l : List (SV Γ)} {us : List Value} (h : VL β w F l us) : us.length = l.length := by
  induction h <;> simp_all
theorem VL.cons_inv {x : SV Γ} {l : List (SV Γ)} {us : List Value} (h : VL β w F (x :: l) us) : ∃ u r, us = u :: r ∧ VR β w F x u ∧ VL β w F l r := by
  cases h with
  | atm h t => exact ⟨_, _, rfl, .atm h .nil, t⟩
  | agg h t => exact ⟨_, _, rfl, .agg h .nil, t⟩
  | tup h t => exact ⟨_, _, rfl, .tup h .nil, t⟩
  | fn h t => exact ⟨_, _, rfl, .fn h .nil, t⟩
  | ifc h t => exact ⟨_, _, rfl, .ifc h .nil, t⟩
theorem VL.cons {x : SV Γ} {l : List (SV Γ)} {u : Value} {r : List Value} (h : VR β w F x u) (t : VL β w F l r) : VL β w F (x :: l) (u :: r) := by
  cases h with
  | atm h _ => exact .atm h t
  | agg h _ => exact .agg h t
  | tup h _ => exact .tup h t
  | fn h _ => exact .fn h t
  | ifc h _ => exact .ifc h t
theorem VL.nil_inv {us : List Value} (h : VL β w F ([] : List (SV Γ)) us) : us = [] := by cases h; rfl
theorem VL.append : ∀ {a b : List (SV Γ)} {us vs : List Value}, VL β w F a us → VL β w F b vs → VL β w F (a ++ b) (us ++ vs)
  | [], b, us, vs, h, k => by cases h; exact k
  | x :: a, b, us, vs, h, k => by
    obtain ⟨u, r, rfl, h1, h2⟩ := h.cons_inv
    exact .cons h1 (VL.append h2 k)
theorem VL.get : ∀ {l : List (SV Γ)} {us : List Value} (_ : VL β w F l us) (i : Nat) (x : SV Γ), l[i]? = some x → ∃ u, us[i]? = some u ∧ VR β w F x u
  | [], us, h, i, x, hx => by simp at hx
  | y :: l, us, h, i, x, hx => by
    obtain ⟨u, r, rfl, h1, h2⟩ := h.cons_inv
    cases i with
    | zero => simp at hx; subst hx; exact ⟨u, rfl, h1⟩
    | succ i => simpa using VL.get h2 i x (by simpa using hx)
theorem VR.va {x : SV Γ} {u : Value} (h : VR β w F x u) (hx : ∀ a, x ≠ .agg a) (hx2 : ∀ a, x ≠ .tup a) (hx3 : ∀ f a, x ≠ .fn f a) (hx4 : ∀ T a, x ≠ .ifc T a) : VA β w F x u := by
  cases h with
  | atm h _ => exact h
  | agg h _ => exact absurd rfl (hx _)
  | tup h _ => exact absurd rfl (hx2 _)
  | fn h _ => exact absurd rfl (hx3 _ _)
  | ifc h _ => exact absurd rfl (hx4 _ _)
section
variable {u : Value}
theorem VR.v {t : Ty Γ.S} {x : el Γ.toSg t} (h : VR β w F (.v t x) u) : ∃ cs, CL w F [(⟨t, x⟩ : PV Γ.toSg)] cs ∧ pk t cs u := by cases h with | atm h _ => exact h
theorem VR.int {k : IntKind} {n : Int} (h : VR β w F (SV.v (Γ := Γ) (.int k) n) u) : u = .int k n := by
  obtain ⟨cs, h1, h2⟩ := h.v
  rw [h1.int_inv] at h2
  simpa [pk, isAgg] using h2.symm
theorem VR.bool {b : Bool} (h : VR β w F (SV.v (Γ := Γ) .bool b) u) : u = .bool b := by
  obtain ⟨cs, h1, h2⟩ := h.v
  rw [h1.bool_inv] at h2
  simpa [pk, isAgg] using h2.symm
theorem VR.str {s : List UInt8} (h : VR β w F (SV.v (Γ := Γ) .str s) u) : u = sv s := by
  obtain ⟨cs, h1, h2⟩ := h.v
  rw [h1.str_inv] at h2
  simpa [pk, isAgg] using h2.symm
theorem VR.ptr {b o : Nat} (h : VR β w F (SV.ptr (Γ := Γ) b o) u) : ∃ g, β b = some (pt g 0) ∧ u = pt g o := by cases h with | atm h _ => exact h
theorem VR.pel {b n q : Nat} {c : List (Int × Int)} {i : Int} (h : VR β w F (SV.pel (Γ := Γ) b n c i q) u) : ∃ v0 v, β b = some v0 ∧ (∃ A l k, v0 = .slice A l k) ∧ VwV n c v0 v ∧ 0 ≤ i ∧ i < (vlen v : Int) ∧ u = pt (sb v) (so v + i.toNat * n + q) := by cases h with | atm h _ => exact h
theorem VR.pea {b o N n q : Nat} {i : Int} (h : VR β w F (SV.pea (Γ := Γ) b o N n i q) u) : ∃ g, β b = some (pt g 0) ∧ 0 ≤ i ∧ i < (N : Int) ∧ u = pt g (o + i.toNat * n + q) := by cases h with | atm h _ => exact h
theorem VR.pfz {t : Ty Γ.S} {x : List (el Γ.toSg t)} {i : Int} {q : Nat} (h : VR β w F (.pfz t x i q) u) : ∃ v, CL w F [(⟨.sl t, x⟩ : PV Γ.toSg)] [v] ∧ 0 ≤ i ∧ i < (x.length : Int) ∧ u = pt (sb v) (so v + i.toNat * sz Γ t + q) := by cases h with | atm h _ => exact h
theorem VR.nilp (h : VR β w F (SV.nilp (Γ := Γ)) u) : u = .pointer none := by cases h with | atm h _ => exact h
theorem VR.sl {b n : Nat} {c : List (Int × Int)} (h : VR β w F (SV.sl (Γ := Γ) b n c) u) : ∃ v0, β b = some v0 ∧ (∃ A l k, v0 = .slice A l k) ∧ VwV n c v0 u := by cases h with | atm h _ => exact h
theorem VR.nils (h : VR β w F (SV.nils (Γ := Γ)) u) : u = .slice none 0 0 := by cases h with | atm h _ => exact h
theorem VR.asl {b o N n : Nat} {c : List (Int × Int)} (h : VR β w F (SV.asl (Γ := Γ) b o N n c) u) : ∃ g, β b = some (pt g 0) ∧ VwV n c (.slice (some ⟨g, o, none⟩) N N) u := by cases h with | atm h _ => exact h
theorem VR.asp {b o m : Nat} (h : VR β w F (SV.asp (Γ := Γ) b o m) u) : ∃ g c, β b = some (pt g 0) ∧ u = .slice (some ⟨g, o, none⟩) m c ∧ m ≤ c := by cases h with | atm h _ => exact h
theorem VR.nili (h : VR β w F (SV.nili (Γ := Γ)) u) : u = .nilIface := by cases h with | atm h _ => exact h
theorem VR.nilf (h : VR β w F (SV.nilf (Γ := Γ)) u) : u = .nilFunc := by cases h with | atm h _ => exact h
theorem VR.glb {g o : Nat} (h : VR β w F (SV.glb (Γ := Γ) g o) u) : u = pt g o := by cases h with | atm h _ => exact h
theorem VR.pgl {g n : Nat} {i : Int} (h : VR β w F (SV.pgl (Γ := Γ) g n i) u) : 0 ≤ i ∧ u = pt g (i.toNat * n) := by cases h with | atm h _ => exact h
theorem VR.agg {l : List (SV Γ)} (h : VR β w F (.agg l) u) : ∃ us, VL β w F l us ∧ u = .agg (cellsV us).toArray := by
  cases h with
  | atm h _ => exact h.elim
  | agg h _ => exact ⟨_, h, rfl⟩
theorem VR.tup {l : List (SV Γ)} (h : VR β w F (.tup l) u) : ∃ us, VL β w F l us ∧ u = .tuple us.toArray := by
  cases h with
  | atm h _ => exact h.elim
  | tup h _ => exact ⟨_, h, rfl⟩
theorem VR.fn {f : FuncId} {l : List (SV Γ)} (h : VR β w F (.fn f l) u) : ∃ us, VL β w F l us ∧ u = .func (.func f) #[] us.toArray := by
  cases h with
  | atm h _ => exact h.elim
  | fn h _ => exact ⟨_, h, rfl⟩
theorem VR.ifc {T : TypeId} {x : SV Γ} (h : VR β w F (.ifc T x) u) : ∃ y, VR β w F x y ∧ u = .iface T y := by
  cases h with
  | atm h _ => exact h.elim
  | ifc h _ => exact ⟨_, h, rfl⟩
theorem vr_int (k : IntKind) (n : Int) : VR β w F (SV.v (Γ := Γ) (.int k) n) (.int k n) := .of (x := SV.v (.int k) n) ⟨_, .int rfl .nil, by simp [pk, isAgg]⟩
theorem vr_bool (b : Bool) : VR β w F (SV.v (Γ := Γ) .bool b) (.bool b) := .of (x := SV.v .bool b) ⟨_, .bool rfl .nil, by simp [pk, isAgg]⟩
theorem vr_str (s : List UInt8) : VR β w F (SV.v (Γ := Γ) .str s) (sv s) := .of (x := SV.v .str s) ⟨_, .str rfl .nil, by simp [pk, isAgg]⟩
end
def blk : Value → Option Nat
  | .pointer (some a) => some a.block
  | .slice (some a) _ _ => some a.block
  | _ => none
def mtb : Res Γ → Bool
  | .box _ _ | .row _ _ _ | .rowc _ _ | .itr _ _ => true
  | _ => false
def stv : Nat → SV Γ → Bool
  | 0, _ => false
  | n + 1, .agg l => all (stv n) l
  | _, .tup _ => false
  | _, .undef => false
  | _, _ => true
where all (f : SV Γ → Bool) : List (SV Γ) → Bool
  | [] => true
  | a :: l => f a && all f l
def RR (β : Bt) (w : World) (F : Nat → Prop) (b : Nat) : Res Γ → Prop
  | .box T c => ∃ g u, β b = some (pt g 0) ∧ VR β w F c u ∧ stv 9 c = true ∧ w.heap[g]? = some (.cells u.cells T (0, 0))
  | .row t E l => ∃ v css, β b = some v ∧ Own (kC (sz Γ t)) E w 0 v css ∧ CK w F t l css
  | .rowc E l => ∃ v, β b = some v ∧ OwnC E w 0 v l
  | .fz t l => ∃ v, β b = some v ∧ CL w F [(⟨.sl t, l⟩ : PV Γ.toSg)] [v]
  | .itr s i => ∃ g, β b = some (pt g 0) ∧ Itr w g s i
  | .gone => True
def own (β : Bt) (L : Nat → Option (Res Γ)) (b g : Nat) : Prop := ∃ r v, L b = some r ∧ mtb r = true ∧ β b = some v ∧ blk v = some g
structure HS (C : Ct Γ) (β : Bt) (F : Nat → Prop) (w : World) (L : Nat → Option (Res Γ)) : Prop where
  rr : ∀ b r, L b = some r → RR β w F b r
  sep : ∀ b b' g, own β L b g → own β L b' g → b = b'
  dis : ∀ b g, own β L b g → ¬ F g
  fsz : ∀ k, F k → k < w.heap.size
  gl : ∀ g p, C.gl g = some p → F g ∧ ∃ cs T fz, w.heap[g]? = some (.cells cs T fz) ∧ CL w F [p] cs.toList
structure Sd (C : Ct Γ) (s : St Γ) (ρ : Env) (β : Bt) (F : Nat → Prop) (w : World) : Prop where
  hs : HS C β F w s.L
  vr : ∀ t, VR β w F (s.ρ t) (ρ t)
  nx : ∀ b, s.nx ≤ b → β b = none
theorem own_lt {C : Ct Γ} {L : Nat → Option (Res Γ)} (h : HS C β F w L) {b g : Nat} (ho : own β L b g) : g < w.heap.size := by
  obtain ⟨r, v, h1, h2, h3, h4⟩ := ho
  have hr := h.rr b r h1
  cases r <;> simp [mtb] at h2 <;> simp only [RR] at hr
  case box => obtain ⟨g', u, e, _, _, hg⟩ := hr; rw [h3] at e; cases e; simp [blk, pt] at h4; subst h4; exact (Array.getElem?_eq_some_iff.1 hg).1
  case row =>
    obtain ⟨v', css, e, hO, _⟩ := hr; rw [h3] at e; cases e
    refine hO.lt ?_
    rcases hO.2 with ⟨rfl, _⟩ | ⟨g', cap, cur, rfl, _⟩ <;> simp [blk] at h4 ⊢
    simp [Value.ownBlock, h4]
  case rowc =>
    obtain ⟨v', e, hO⟩ := hr; rw [h3] at e; cases e
    refine hO.lt _ ?_
    obtain ⟨g', cap, cur, fz, rfl, _⟩ := hO
    simp [blk] at h4; simp [Value.ownBlock, h4]
  case itr => obtain ⟨g', e, hg⟩ := hr; rw [h3] at e; cases e; simp [blk, pt] at h4; subst h4; exact hg.lt
structure Evo (β : Bt) (F : Nat → Prop) (w : World) (W : Nat → Prop) (β' : Bt) (F' : Nat → Prop) (w' : World) : Prop where
  ext : ∀ b v, β b = some v → β' b = some v
  fm : ∀ k, F k → F' k
  fr : Fr W w w'
  fb : ∀ k, F' k → F k ∨ W k ∨ w.heap.size ≤ k
theorem RR.mono {b : Nat} {r : Res Γ} (h : RR β w F b r) (hβ : ∀ b v, β b = some v → β' b = some v) (hF : ∀ k, F k → F' k) (hw : ∀ k, F k → w'.heap[k]? = w.heap[k]?) {W : Nat → Prop} (fr : Fr W w w') (ho : ∀ v g, mtb r = true → β b = some v → blk v = some g → ¬ W g) : RR β' w' F' b r := by
  cases r <;> simp only [RR] at h ⊢
  case box T c =>
    obtain ⟨g, u, h1, h2, h3, h4⟩ := h
    exact ⟨g, u, hβ _ _ h1, h2.mono hβ hF hw, h3, by rw [fr.blk g (Array.getElem?_eq_some_iff.1 h4).1 (ho _ g rfl h1 rfl)]; exact h4⟩
  case row t E l =>
    obtain ⟨v, css, h1, h2, h3⟩ := h
    refine ⟨v, css, hβ _ _ h1, h2.fr fr (fun k hk => ho v k rfl h1 ?_), h3.mono hF hw⟩
    cases v <;> simp [Value.ownBlock] at hk
    rename_i a n c; cases a <;> simp [Value.ownBlock] at hk; simp [blk, hk]
  case rowc E l =>
    obtain ⟨v, h1, h2⟩ := h
    refine ⟨v, hβ _ _ h1, h2.fr fr (fun k hk => ho v k rfl h1 ?_)⟩
    cases v <;> simp [Value.ownBlock] at hk
    rename_i a n c; cases a <;> simp [Value.ownBlock] at hk; simp [blk, hk]
  case fz t l => obtain ⟨v, h1, h2⟩ := h; exact ⟨v, hβ _ _ h1, h2.mono hF hw⟩
  case itr s i => obtain ⟨g, h1, h2⟩ := h; exact ⟨g, hβ _ _ h1, h2.fr fr (ho _ g rfl h1 rfl)⟩
def OpOk (C : Ct Γ) (P : Program) (o : Oper) (s : St Γ) (v : SV Γ) (s' : St Γ) : Prop :=
  ∀ ρ β F w, Sd C s ρ β F w → OpV P o ρ w fun u w' => ∃ β' F', Evo β F w (fun g => ∃ b, own β s.L b g) β' F' w' ∧ HS C β' F' w' s'.L ∧ (∀ b, s'.nx ≤ b → β' b = none) ∧ VR β' w' F' v u ∧
    (∀ b g, own β' s'.L b g → (∃ b, own β s.L b g) ∨ w.heap.size ≤ g)
def OpPure (C : Ct Γ) (P : Program) (o : Oper) (s : St Γ) (v : SV Γ) : Prop :=
  ∀ ρ β F w, Sd C s ρ β F w → ∃ u, (execOp (evO ρ) o).run P w = .ok (.value u) w ∧ VR β w F v u
theorem OpPure.ok {C : Ct Γ} {P : Program} {o : Oper} {s : St Γ} {v : SV Γ} (h : OpPure C P o s v) : OpOk C P o s v s := by
  intro ρ β F w hs
  obtain ⟨u, h1, h2⟩ := h ρ β F w hs
  exact opv_val h1 ⟨β, F, ⟨fun _ _ h => h, fun _ h => h, Fr.refl _ _, fun _ h => .inl h⟩, hs.hs, hs.nx, h2, fun b g h => .inl ⟨b, h⟩⟩
end
end Go.Yw
