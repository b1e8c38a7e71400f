/- The words of the walks: regions whose order is open, one operation of which writes. -/
import Derived.Test.YtklhbaghbmndeaaXIter
set_option linter.unusedVariables false
set_option linter.unusedSimpArgs false
namespace Go.Xw
open Go
/-- Frames that write S: from any point on. -/
theorem Fr.sub {S : Nat → Prop} {a b c : World} (h : Fr S a b) (k : Fr S b c) : Fr S a c := h.trans k fun _ _ x => x
theorem Fr.of {S : Nat → Prop} {a b : World} (h : Gr a b) : Fr S a b := h.mono fun _ x => x.elim
section
variable {P : Program} {N : Nat} {l : List Oper} {Q : Exit → Env → World → Prop}
def StabW (l : List Oper) (S : Nat → Prop) (m : Nat) : Nat → List (Value → World → Prop) → Prop
  | _, [] => True
  | i, g :: gs => ((Nat.beq i m || aftB l i m) = true ∨ ∀ v w w', g v w → Fr S w w' → g v w') ∧ StabW l S m (i + 1) gs
theorem StabW.get {l : List Oper} {S : Nat → Prop} {m : Nat} : ∀ {Gl : List (Value → World → Prop)} {s : Nat} (_ : StabW l S m s Gl) (i : Nat), (Nat.beq (s + i) m || aftB l (s + i) m) = false → ∀ (v : Value) (w w' : World), gAt Gl i v w → Fr S w w' → gAt Gl i v w'
  | [], _, _, i, _, v, w, w', _, _ => trivial
  | g :: gs, s, h, 0, hm, v, w, w', hg, hw => by
    rcases h.1 with h1 | h1
    · rw [Nat.add_zero, h1] at hm
      simp at hm
    · exact h1 v w w' hg hw
  | g :: gs, s, h, i + 1, hm, v, w, w', hg, hw => StabW.get h.2 i (by rw [show s + 1 + i = s + (i + 1) from by omega]; exact hm) v w w' hg hw
/-- An operation that does not write: it may come ahead of the one that does, or behind it. -/
def DStepW (P : Program) (l : List Oper) (n : Nat) (Gl : List (Value → World → Prop)) (S : Nat → Prop) (m : Nat) (ρ0 : Env) (w0 : World) (i : Nat) (o : Oper) : Prop :=
  ∀ ρ w, (Nat.beq i m = true → Gr w0 w) → (Nat.beq i m = false → Fr S w0 w) → (∀ t, keepB l n i t = true → ρ t = ρ0 t) → (∀ j, aftB l i j = true → ∀ d, dstAt l j = some d → gAt Gl j (ρ d) w) →
    StepOk P l.toArray o (fun v w' => gAt Gl i v w' ∧ (Nat.beq i m = true → Fr S w w') ∧ (Nat.beq i m = false → Gr w w')) ρ w
theorem cw_drawW {id : Nat} (n m : Nat) (S : Nat → Prop) (Gl : List (Value → World → Prop)) {ρ0 : Env} {w0 : World} (hm : P.follows .mixedOrders = true) (hB : drawB l n N = true) (stab : StabL Gl) (stabW : StabW l S m 0 Gl)
    (step : AllOps (DStepW P l n Gl S m ρ0 w0) 0 (l.take n))
    (tail : ∀ ρ w, Fr S w0 w → (∀ t, ((List.range n).all fun k => dstAt l k != some t) = true → ρ t = ρ0 t) → (∀ j, Nat.blt j n = true → ∀ d, dstAt l j = some d → gAt Gl j (ρ d) w) → OL P N l.toArray Q (l.drop n) ρ w) :
    CW P N (.region id l.toArray true) Q ρ0 w0 :=
  cw_drawG n (gAt Gl) (fun dn w => Fr S w0 w ∧ (dn m = false → Gr w0 w)) hm hB ⟨Fr.of (Fr.drew w0), fun _ => Fr.drew w0⟩
    (fun i hi o ho dn ρ w hdn hcl ⟨hg1, hg2⟩ hk hd => by
      have hs := step.get i o (by rw [List.getElem?_take, if_pos hi]; exact ho)
      rw [Nat.zero_add] at hs
      by_cases e : i = m
      · subst e
        have hb : Nat.beq i i = true := Nat.beq_refl i
        refine (hs ρ w (fun _ => hg2 hdn) (fun h => by rw [hb] at h; simp at h) hk hd).mono ?_
        rintro v w' ⟨h1, h2, _⟩
        have hF := h2 hb
        exact ⟨h1, ⟨Fr.sub hg1 hF, fun h => by simp [hb] at h⟩, fun k v' _ hki hdk h => stabW.get k (by
          rw [Nat.zero_add, Bool.or_eq_false_iff]
          constructor
          · cases hb : Nat.beq k i
            · rfl
            · exact absurd (Nat.eq_of_beq_eq_true hb) hki
          · cases ha : aftB l k i
            · rfl
            · have := hcl k hdk i ha
              rw [hdn] at this
              simp at this) v' w w' h hF⟩
      · have hb : Nat.beq i m = false := by
          cases hb : Nat.beq i m
          · rfl
          · exact absurd (Nat.eq_of_beq_eq_true hb) e
        refine (hs ρ w (fun h => by rw [hb] at h; simp at h) (fun _ => hg1) hk hd).mono ?_
        rintro v w' ⟨h1, _, h3⟩
        have hG := h3 hb
        refine ⟨h1, ⟨Fr.sub hg1 (Fr.of hG), fun h => ?_⟩, fun k v' _ _ _ h => stab.get k v' w w' h hG⟩
        simp only [Bool.or_eq_false_iff] at h
        exact (hg2 h.2).gr hG)
    (fun ρ w dn _ hg hk hd => tail ρ w hg.1 hk fun j hj d hdj => hd j (blt_iff.1 hj) d hdj)
theorem sk_other {ops : Array Oper} {o : Oper} {ρ : Env} {w : World} {G : Value → World → Prop} {S : Nat → Prop} {b : Bool} (hb : b = false) (h : StepOk P ops o (fun v w' => G v w' ∧ Gr w w') ρ w) : StepOk P ops o (fun v w' => G v w' ∧ (b = true → Fr S w w') ∧ (b = false → Gr w w')) ρ w :=
  h.mono fun v w' ⟨h1, h2⟩ => ⟨h1, fun e => by rw [hb] at e; simp at e, fun _ => h2⟩
theorem sk_writer {ops : Array Oper} {o : Oper} {ρ : Env} {w : World} {G R : Value → World → Prop} {S : Nat → Prop} {b : Bool} (hb : b = true) (h : OpV P o ρ w R) (hg : o.guard = none) (hR : ∀ v w', R v w' → G v w' ∧ Fr S w w') : StepOk P ops o (fun v w' => G v w' ∧ (b = true → Fr S w w') ∧ (b = false → Gr w w')) ρ w :=
  .inl ⟨.inl hg, h.mono fun v w' hr => ⟨(hR v w' hr).1, fun _ => (hR v w' hr).2, fun e => by rw [hb] at e; simp at e⟩⟩
/-! ### Loops, round by round -/
def LP (P : Program) (n : Nat) (c : Code) (Q : Exit → Env → World → Prop) (ρ : Env) (w : World) : Prop :=
  ∀ a, Fits n a ρ → ∀ b kk cs, ∃ e a' w', lift n Q e a' w' ∧ Arrives P (lone (b.at a (.code c :: .inLoop c :: kk)) cs w) b kk cs e a' w'
theorem cw_rounds {n : Nat} {c : Code} {ρ : Env} {w : World} (h : LP P n c Q ρ w) : CW P n (.loop c) Q ρ w := by
  intro a ha b kk cs
  obtain ⟨e, a', w', hq, harr⟩ := h a ha b kk cs
  exact ⟨e, a', w', hq, .of_steps (.one step_loop) harr⟩
theorem lp_round {n : Nat} {c : Code} {ρ : Env} {w : World} (h : CW P n c (thn (LP P n c Q) Q) ρ w) : LP P n c Q ρ w := by
  intro a ha b kk cs
  obtain ⟨ex, a₁, w₁, ⟨ρ₁, hf, hq⟩, harr⟩ := h a ha b (.inLoop c :: kk) cs
  cases ex with
  | normal =>
    obtain ⟨e₂, a₂, w₂, hq₂, harr₂⟩ := hq a₁ hf b kk cs
    exact ⟨e₂, a₂, w₂, hq₂, .of_steps (Steps.trans harr (.one step_inLoop)) harr₂⟩
  | exit id => exact ⟨_, a₁, w₁, ⟨ρ₁, hf, hq⟩, .pass (x := .inLoop c) rfl (fun _ _ => .inl (by simp)) harr⟩
  | goto l => exact ⟨_, a₁, w₁, ⟨ρ₁, hf, hq⟩, .pass (x := .inLoop c) rfl (fun _ _ => .inl (by simp)) harr⟩
  | ret => exact ⟨_, a₁, w₁, ⟨ρ₁, hf, hq⟩, .pass (x := .inLoop c) rfl (fun _ _ => .inl (by simp)) harr⟩
  | panic ch => exact ⟨_, a₁, w₁, ⟨ρ₁, hf, hq⟩, .pass (x := .inLoop c) rfl (fun _ _ => .inl (by simp)) harr⟩
  | outgrown => exact ⟨_, a₁, w₁, ⟨ρ₁, hf, hq⟩, .pass (x := .inLoop c) rfl (fun _ _ => .inl (by simp)) harr⟩
end
/-! ### Views that lie apart from a variable, and from rows -/
def OffR {α : Type} (v : Value) (l : List α) (g : Nat) : Prop := 0 < l.length → sb v ≠ g
def OffRV {α : Type} (v : Value) (l : List α) (u : Value) : Prop := 0 < l.length → Off u (sb v)
theorem Rd.lt {α : Type} {K : Kd α} {w : World} {v : Value} {l : List α} (hK : Nat.blt 0 K.size = true) (h : Rd K w v l) (hl : 0 < l.length) : sb v < w.heap.size := by
  obtain ⟨A, c, rfl, hc, hr⟩ := h
  obtain ⟨b, o, rfl, ha⟩ := hr hl
  have hs : 0 < K.size := by simpa [Nat.blt_eq] using hK
  have hf : (l.flatMap K.enc).length = l.length * K.size := len_flat K l
  have hpos : 0 < (l.flatMap K.enc).length := by rw [hf]; exact Nat.mul_pos hl hs
  exact block_lt_of_cell (ha 0 _ (List.getElem?_eq_getElem hpos))
theorem OffR.nil {α : Type} (v : Value) (g : Nat) : OffR v ([] : List α) g := fun h => by simp at h
theorem OffR.new {α : Type} {K : Kd α} {w : World} {v : Value} {l : List α} {g : Nat} (h : Rd K w v l) (z : w.heap.size ≤ g) (hK : Nat.blt 0 K.size = true) : OffR v l g := fun hl => by
  have := h.lt hK hl
  omega
theorem cut_pos {α : Type} {l : List α} {i j : Int} (h : 0 < (cut l i j).length) : 0 < l.length := by
  unfold cut at h
  rw [List.length_drop, List.length_take] at h
  omega
theorem sb_subv (k : Nat) (v : Value) (i j : Nat) : sb (subv k v i j) = sb v := by
  cases v with
  | slice A n c =>
    by_cases h : c = i
    · cases A <;> simp [subv, h, sb]
    · cases A
      · simp [subv, h, sb]
      · simp [subv, h, sb, Addr.add]
        split <;> rfl
  | _ => rfl
theorem OffR.cut {α : Type} {v : Value} {l : List α} {g k i' j' : Nat} {i j : Int} (h : OffR v l g) : OffR (subv k v i' j') (Go.Xw.cut l i j) g := fun hl => by
  rw [sb_subv]
  exact h (cut_pos hl)
theorem Rd.wr {α : Type} {K : Kd α} {w w' : World} {v : Value} {l : List α} {g : Nat} (h : Rd K w v l) (hf : Fr (fun j => j = g) w w') (ho : OffR v l g) : Rd K w' v l := h.fr hf fun hl => ho hl
theorem Rd.wrV {α : Type} {K : Kd α} {w w' : World} {v u : Value} {l : List α} (h : Rd K w v l) (hf : Fr (fun j => some j = u.ownBlock) w w') (ho : OffRV v l u) : Rd K w' v l := h.fr hf fun hl e => ho hl e.symm
theorem OffR.own {α : Type} {K : Kd α} {E : TypeId} {w : World} {B g : Nat} {v : Value} {l : List α} (h : Own K E w B v l) (ho : Off v g) : OffR v l g := fun hl e => by
  rcases h.2 with ⟨rfl, h0⟩ | ⟨k, cap, cur, rfl, _⟩
  · omega
  · exact ho (by rw [← e]; rfl)
theorem OffRV.nil {α : Type} (v : Value) (l : List α) : OffRV v l (.slice none 0 0) := fun _ => Off.nil _
theorem OffRV.nilL {α : Type} (v u : Value) : OffRV v ([] : List α) u := fun h => by simp at h
theorem OffRV.new {α : Type} {K : Kd α} {w : World} {v u : Value} {l : List α} (h : Rd K w v l) (z : ∀ k, u.ownBlock = some k → w.heap.size ≤ k) (hK : Nat.blt 0 K.size = true) : OffRV v l u := fun hl e => by
  have h1 := h.lt hK hl
  have h2 := z _ e
  omega
theorem OffRV.call {α β : Type} {K : Kd α} {K2 : Kd β} {E : TypeId} {w w' : World} {v u : Value} {l : List α} {m : List β} (h : Rd K w v l) (o : Own K2 E w' w.heap.size u m) (hK : Nat.blt 0 K.size = true) : OffRV v l u := fun hl e => by
  have h1 := h.lt hK hl
  have h2 := o.ge e
  omega
theorem OffRV.app {α : Type} {K : Kd α} {w : World} {v u u' : Value} {l : List α} (h : Rd K w v l) (ho : OffRV v l u) (on : ∀ g, g < w.heap.size → Off u g → Off u' g) (hK : Nat.blt 0 K.size = true) : OffRV v l u' := fun hl => on _ (h.lt hK hl) (ho hl)
theorem OffRV.own {α : Type} {K : Kd α} {E : TypeId} {w : World} {B : Nat} {v u : Value} {l : List α} (h : Own K E w B v l) (ho : OffV v u) : OffRV v l u := fun hl e => by
  rcases h.2 with ⟨rfl, h0⟩ | ⟨k, cap, cur, rfl, _⟩
  · omega
  · exact ho k rfl e.symm
theorem OffRV.cut {α : Type} {v u : Value} {l : List α} {k i' j' : Nat} {i j : Int} (h : OffRV v l u) : OffRV (subv k v i' j') (Go.Xw.cut l i j) u := fun hl => by
  rw [sb_subv]
  exact h (cut_pos hl)
section
variable {P : Program} {ρ : Env} {w : World} {o : Oper} {x y : Operand} {T E T' : TypeId}
/-- An element of an array that is told cell by cell. -/
theorem xr_indexSeg {n i : Nat} {ss : List Seg} {v : Value} {k : IntKind} (ho : o.op = .index T x y) (hT : P.underlying T = some (.array n E)) (hg : aggB P E = some false) (hs : szB P E = some 1) (hx : evO ρ x = aggV ss) (hy : evO ρ y = .int k ((i : Nat) : Int)) (hi : Nat.blt i n = true) (hv : ((cellsOf ss).drop i).take 1 = [v]) :
    (execOp (evO ρ) o).run P w = .ok (.value v) w := by
  unfold aggB at hg
  unfold szB at hs
  obtain ⟨inf, hinf, he⟩ := Option.map_eq_some_iff.1 hs
  obtain ⟨d, hu, hd⟩ := Option.map_eq_some_iff.1 hg
  have hagg : (isAgg E).run P w = .ok false w := by
    unfold isAgg
    rw [Sem.run_bind, run_underlying hu w]
    cases d <;> simp_all
  have hi' : i < n := by simpa [Nat.blt_eq] using hi
  have hc : (cellsOf ss)[i]? = some v := by
    have := congrArg (fun l => l[0]?) hv
    simpa [List.getElem?_take, List.getElem?_drop] using this
  have hcell : (cellsOf ss).toArray[((i : Nat) : Int).toNat * inf.size]? = some v := by
    rw [he, Nat.mul_one, Int.toNat_natCast]
    simpa using hc
  have h0 : (0 : Int) ≤ ((i : Nat) : Int) := by omega
  have h1 : ((i : Nat) : Int) < (n : Int) := by omega
  unfold aggV at hx
  generalize (cellsOf ss).toArray = cs at hx hcell
  generalize ((i : Nat) : Int) = z at hy hcell h0 h1
  simp [execOp, ho, hx, hy, Instr.index, asIntOf, run_underlying hT, h0, h1, sizeOf, typeInfo, hinf, part, hagg, hcell]
end
end Go.Xw
