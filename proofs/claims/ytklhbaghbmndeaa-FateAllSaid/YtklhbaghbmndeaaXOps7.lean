/- The words of the walks: what lies apart; regions whose order is open, told operation by operation. -/
import Derived.Test.YtklhbaghbmndeaaXOps6
set_option linter.unusedVariables false
set_option linter.unusedSimpArgs false
namespace Go.Xw
open Go
theorem bt (b : Bool) : b = true ∨ b = false := by cases b <;> simp
theorem ite_t {α : Type} {b : Bool} {x y : α} (h : b = true) : (if b = true then x else y) = x := if_pos h
theorem ite_f {α : Type} {b : Bool} {x y : α} (h : b = false) : (if b = true then x else y) = y := if_neg (by rw [h]; simp)
theorem off_ty {w : World} {g : Nat} {T E : TypeId} {ss : List Seg} {α : Type} {K : Kd α} {B : Nat} {v : Value} {l : List α} (hb : Blk w g T ss) (h : Own K E w B v l) (hne : T ≠ E) : Off v g := by
  intro e
  rcases h.2 with ⟨rfl, _⟩ | ⟨g', cap, cur, rfl, _, hg, _⟩
  · simp [Value.ownBlock] at e
  · obtain rfl : g' = g := by simpa [Value.ownBlock] using e
    unfold Blk at hb
    rw [hb] at hg
    injection hg with hg
    injection hg with _ ht
    exact hne ht
def OffV (v v2 : Value) : Prop := ∀ k, v.ownBlock = some k → some k ≠ v2.ownBlock
theorem OffV.nil (v : Value) : OffV v (.slice none 0 0) := fun k _ => by simp [Value.ownBlock]
theorem OffV.ty {w : World} {E E2 : TypeId} {α β : Type} {K : Kd α} {K2 : Kd β} {B B2 : Nat} {v v2 : Value} {l : List α} {l2 : List β} (h : Own K E w B v l) (h2 : Own K2 E2 w B2 v2 l2) (hne : E ≠ E2) : OffV v v2 := by
  intro k hk e
  rcases h.2 with ⟨rfl, _⟩ | ⟨g, cap, cur, rfl, _, hg, _⟩
  · simp [Value.ownBlock] at hk
  · obtain rfl : g = k := by simpa [Value.ownBlock] using hk
    rcases h2.2 with ⟨rfl, _⟩ | ⟨g2, cap2, cur2, rfl, _, hg2, _⟩
    · simp [Value.ownBlock] at e
    · obtain rfl : g = g2 := by simpa [Value.ownBlock] using e
      rw [hg] at hg2
      injection hg2 with hg2
      injection hg2 with _ ht
      exact hne ht
theorem Own.wrV {α : Type} {K : Kd α} {E : TypeId} {w w' : World} {B : Nat} {v v2 : Value} {l : List α} (h : Own K E w B v l) (hf : Fr (fun j => some j = v2.ownBlock) w w') (ho : OffV v v2) : Own K E w' B v l := h.fr hf fun k hk e => ho k hk e
theorem Own.geN (n : Nat) : ∀ g, (Value.slice none 0 0).ownBlock = some g → n ≤ g := fun g hg => by simp [Value.ownBlock] at hg
theorem Own.geO {α : Type} {K : Kd α} {E : TypeId} {w : World} {B : Nat} {v : Value} {l : List α} (h : Own K E w B v l) : ∀ g, v.ownBlock = some g → B ≤ g := fun g hg => h.ge hg

/-! ### Regions whose order is open, operation by operation -/
def AllOps (F : Nat → Oper → Prop) : Nat → List Oper → Prop
  | _, [] => True
  | i, o :: l => F i o ∧ AllOps F (i + 1) l
theorem AllOps.get {F : Nat → Oper → Prop} : ∀ {l : List Oper} {s : Nat} (_ : AllOps F s l) (i : Nat) (o : Oper), l[i]? = some o → F (s + i) o
  | [], _, _, i, o, ho => by simp at ho
  | x :: l, s, h, 0, o, ho => by
    obtain rfl : x = o := by simpa using ho
    exact h.1
  | x :: l, s, h, i + 1, o, ho => by
    have := AllOps.get h.2 i o (by simpa using ho)
    rwa [show s + (i + 1) = s + 1 + i from by omega]
def gAt (Gl : List (Value → World → Prop)) (i : Nat) : Value → World → Prop := Gl.getD i fun _ _ => True
def StabL : List (Value → World → Prop) → Prop
  | [] => True
  | g :: l => (∀ v w w', g v w → Gr w w' → g v w') ∧ StabL l
theorem StabL.get : ∀ {Gl : List (Value → World → Prop)} (_ : StabL Gl) (i : Nat) (v : Value) (w w' : World), gAt Gl i v w → Gr w w' → gAt Gl i v w'
  | [], _, i, v, w, w', _, _ => trivial
  | g :: l, h, 0, v, w, w', hg, hw => h.1 v w w' hg hw
  | g :: l, h, i + 1, v, w, w', hg, hw => StabL.get h.2 i v w w' hg hw
def DStep (P : Program) (l : List Oper) (n : Nat) (Gl : List (Value → World → Prop)) (ρ0 : Env) (w0 : World) (i : Nat) (o : Oper) : Prop :=
  ∀ ρ w, Gr w0 w → (∀ t, keepB l n i t = true → ρ t = ρ0 t) → (∀ j, aftB l i j = true → ∀ d, dstAt l j = some d → gAt Gl j (ρ d) w) → StepOk P l.toArray o (fun v w' => gAt Gl i v w' ∧ Gr w w') ρ w
theorem cw_drawL {P : Program} {N : Nat} {l : List Oper} {Q : Exit → Env → World → Prop} {id : Nat} (n : Nat) (Gl : List (Value → World → Prop)) {ρ0 : Env} {w0 : World} (hm : P.follows .mixedOrders = true) (hB : drawB l n N = true) (stab : StabL Gl)
    (step : AllOps (DStep P l n Gl ρ0 w0) 0 (l.take n))
    (tail : ∀ ρ w, Gr w0 w → (∀ t, ((List.range n).all fun k => dstAt l k != some t) = true → ρ t = ρ0 t) → (∀ j, Nat.blt j n = true → ∀ d, dstAt l j = some d → gAt Gl j (ρ d) w) → OL P N l.toArray Q (l.drop n) ρ w) :
    CW P N (.region id l.toArray true) Q ρ0 w0 :=
  cw_draw n (gAt Gl) hm hB (fun i v w w' h hw => stab.get i v w w' h hw)
    (fun i hi o ho ρ w hg hk hd => by
      have := step.get i o (by rw [List.getElem?_take, if_pos hi]; exact ho)
      rw [Nat.zero_add] at this
      exact this ρ w hg hk hd)
    (fun ρ w hg hk hd => tail ρ w hg hk fun j hj d hdj => hd j (blt_iff.1 hj) d hdj)
theorem sk_val {P : Program} {ops : Array Oper} {o : Oper} {ρ : Env} {w : World} {v : Value} {G : Value → World → Prop} (h : (execOp (evO ρ) o).run P w = .ok (.value v) w) (hg : o.guard = none) (hG : G v w) : StepOk P ops o (fun v w' => G v w' ∧ Gr w w') ρ w :=
  .inl ⟨.inl hg, opv_val h ⟨hG, Fr.refl _ _⟩⟩
theorem sk_gval {P : Program} {ops : Array Oper} {o : Oper} {ρ : Env} {w : World} {v : Value} {G : Value → World → Prop} {j t : Nat} {want b : Bool} (h : (execOp (evO ρ) o).run P w = .ok (.value v) w) (hg : o.guard = some (j, want)) (hj : (ops[j]?).bind (·.dst) = some t) (ht : ρ t = .bool b) (hb : b = want) (hG : G v w) : StepOk P ops o (fun v w' => G v w' ∧ Gr w w') ρ w :=
  .inl ⟨.inr ⟨j, want, t, hg, hj, by rw [ht, hb]⟩, opv_val h ⟨hG, Fr.refl _ _⟩⟩
theorem sk_op {P : Program} {ops : Array Oper} {o : Oper} {ρ : Env} {w : World} {G R : Value → World → Prop} (h : OpV P o ρ w R) (hg : o.guard = none) (hR : ∀ v w', R v w' → G v w' ∧ Gr w w') : StepOk P ops o (fun v w' => G v w' ∧ Gr w w') ρ w :=
  .inl ⟨.inl hg, h.mono hR⟩
theorem sk_gop {P : Program} {ops : Array Oper} {o : Oper} {ρ : Env} {w : World} {G R : Value → World → Prop} {j t : Nat} {want b : Bool} (h : OpV P o ρ w R) (hg : o.guard = some (j, want)) (hj : (ops[j]?).bind (·.dst) = some t) (ht : ρ t = .bool b) (hb : b = want) (hR : ∀ v w', R v w' → G v w' ∧ Gr w w') : StepOk P ops o (fun v w' => G v w' ∧ Gr w w') ρ w :=
  .inl ⟨.inr ⟨j, want, t, hg, hj, by rw [ht, hb]⟩, h.mono hR⟩
theorem sk_skip {P : Program} {ops : Array Oper} {o : Oper} {ρ : Env} {w : World} {G : Value → World → Prop} {j t : Nat} {want b : Bool} (hg : o.guard = some (j, want)) (hj : (ops[j]?).bind (·.dst) = some t) (ht : ρ t = .bool b) (hb : b = !want) (hG : G undef w) : StepOk P ops o (fun v w' => G v w' ∧ Gr w w') ρ w :=
  .inr ⟨⟨j, want, t, hg, hj, .inl (by rw [ht, hb])⟩, hG, Fr.refl _ _⟩
theorem sk_uskip {P : Program} {ops : Array Oper} {o : Oper} {ρ : Env} {w : World} {G : Value → World → Prop} {j t : Nat} {want : Bool} (hg : o.guard = some (j, want)) (hj : (ops[j]?).bind (·.dst) = some t) (ht : ρ t = undef) (hG : G undef w) : StepOk P ops o (fun v w' => G v w' ∧ Gr w w') ρ w :=
  .inr ⟨⟨j, want, t, hg, hj, .inr ht⟩, hG, Fr.refl _ _⟩
end Go.Xw
namespace Go.Xw
theorem thn_x {M : Env → World → Prop} {Q : Exit → Env → World → Prop} {ρ : Env} {w : World} {id : Nat} (h : M ρ w) : blk id (thn M Q) (.exit id) ρ w := by
  show (bif Nat.beq id id then M ρ w else _)
  rw [Nat.beq_refl]
  exact h
theorem fin_ret0 {P : Program} {fn : Func} {R : Ending → World → Prop} {ρ : Env} {w : World} (hr : fn.results = #[]) (h : R (.returned (.tuple #[])) w) : fin P fn R .ret ρ w :=
  ⟨.inl rfl, fun tmps ht => ⟨.tuple #[], by simp [results, hr], h⟩⟩
end Go.Xw
namespace Go.Xw
theorem thn_r {K : Env → World → Prop} {Q : Exit → Env → World → Prop} {ρ : Env} {w : World} (h : Q .ret ρ w) : thn K Q .ret ρ w := h
theorem blk_r {id : Nat} {Q : Exit → Env → World → Prop} {ρ : Env} {w : World} (h : Q .ret ρ w) : blk id Q .ret ρ w := h
theorem thn_e {K : Env → World → Prop} {Q : Exit → Env → World → Prop} {ρ : Env} {w : World} {i : Nat} (h : Q (.exit i) ρ w) : thn K Q (.exit i) ρ w := h
theorem blk_e {id i : Nat} {Q : Exit → Env → World → Prop} {ρ : Env} {w : World} (hi : Nat.beq i id = false) (h : Q (.exit i) ρ w) : blk id Q (.exit i) ρ w := by
  show (bif Nat.beq i id then Q .normal ρ w else _)
  rw [hi]
  exact h
theorem blk_h {id : Nat} {Q : Exit → Env → World → Prop} {ρ : Env} {w : World} (h : Q .normal ρ w) : blk id Q (.exit id) ρ w := by
  show (bif Nat.beq id id then Q .normal ρ w else _)
  rw [Nat.beq_refl]
  exact h
theorem blk_i {id : Nat} {Q : Exit → Env → World → Prop} {ρ : Env} {w : World} (h : Q .normal ρ w) : blk id Q .normal ρ w := h
theorem ol_uskip {P : Program} {n : Nat} {ρ : Env} {w : World} {Q : Exit → Env → World → Prop} {ops : Array Oper} {l : List Oper} {o : Oper} {d j t : Nat} {want : Bool} (hd : o.dst = some d) (hn : Nat.blt d n = true) (hg : o.guard = some (j, want))
    (hj : (ops[j]?).bind (·.dst) = some t) (ht : ρ t = undef)
    (hk : OL P n ops Q l (upd ρ d undef) w) : OL P n ops Q (o :: l) ρ w :=
  fun a ha => wpList_step fun K hK => by
    have hy : yielded ops a.tmps j = none := by
      have h1 : a.tmps.getD t undef = undef := by rw [ha.e, ht]
      cases h3 : a.tmps[t]? with
      | none => simp [yielded, hj, h3]
      | some x =>
        rw [Array.getD_eq_getD_getElem?, h3] at h1
        obtain rfl : x = undef := h1
        simp [yielded, hj, h3, undef]
    rw [if_neg (by simp [Region.wanted, hg, hy])]
    exact hK _ _ (by rw [hd]; exact hk _ (ha.put hn undef))
theorem cells_one {v : Value} (h : v.oneCell' = true) : v.cells = (cellsOf [Seg.cell v h]).toArray := by
  cases v <;> first | rfl | simp [Value.oneCell'] at h
end Go.Xw
