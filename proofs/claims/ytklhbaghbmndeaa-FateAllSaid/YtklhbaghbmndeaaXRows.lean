/- Rows of rows that are the call's own: they grow, row by row. -/
import Derived.Test.YtklhbaghbmndeaaXNought
set_option linter.unusedVariables false
set_option linter.unusedSimpArgs false
namespace Go.Xw
open Go
/-- A row whose elements are rows of the type e, all of them in blocks below H. -/
def OwnS {α : Type} (K : Kd α) (E e : TypeId) (w : World) (B H : Nat) (v : Value) (LL : List (List α)) : Prop :=
  ∃ vs : List V1, Own kV E w B v vs ∧ vs.length = LL.length ∧ ∀ j, j < LL.length → Own K e w 0 (vs.getD j default).1 (LL.getD j []) ∧ ∀ k, (vs.getD j default).1.ownBlock = some k → k < H
/-- No block of the type e below H is written. -/
def OffI (w : World) (e : TypeId) (H : Nat) (S : Nat → Prop) : Prop := ∀ k, k < H → (∃ cur fz, w.heap[k]? = some (.cells cur e fz)) → ¬ S k
section
variable {P : Program} {ρ : Env} {w w' : World} {o : Oper} {x y : Operand} {T E e : TypeId} {α β : Type} {K : Kd α} {K2 : Kd β} {B B2 H H2 : Nat} {v u : Value} {LL : List (List α)} {l : List β}
theorem own_ty {L : List α} (h : Own K e w B v L) {k : Nat} (hk : v.ownBlock = some k) : ∃ cur fz, w.heap[k]? = some (.cells cur e fz) := by
  rcases h.2 with ⟨rfl, _⟩ | ⟨g, cap, cur, rfl, _, hg, _⟩
  · simp [Value.ownBlock] at hk
  · obtain rfl : g = k := by simpa [Value.ownBlock] using hk
    exact ⟨_, _, hg⟩
theorem OwnS.fr {S : Nat → Prop} (h : OwnS K E e w B H v LL) (hf : Fr S w w') (ho : ∀ k, v.ownBlock = some k → ¬ S k) (hi : OffI w e H S) : OwnS K E e w' B H v LL := by
  obtain ⟨vs, h1, h2, h3⟩ := h
  exact ⟨vs, h1.fr hf ho, h2, fun j hj => ⟨(h3 j hj).1.fr hf fun k hk => hi k ((h3 j hj).2 k hk) (own_ty (h3 j hj).1 hk), (h3 j hj).2⟩⟩
theorem OwnS.gr (h : OwnS K E e w B H v LL) (hf : Gr w w') : OwnS K E e w' B H v LL := h.fr hf (fun _ _ q => q) (fun _ _ _ q => q)
theorem OwnS.wr {g : Nat} (h : OwnS K E e w B H v LL) (hf : Fr (fun j => j = g) w w') (ho : Off v g ∧ OffI w e H (fun j => j = g)) : OwnS K E e w' B H v LL := h.fr hf (fun k hk q => ho.1 (by rw [hk, q])) ho.2
theorem OwnS.wrV (h : OwnS K E e w B H v LL) (hf : Fr (fun j => some j = u.ownBlock) w w') (ho : OffV v u ∧ OffI w e H (fun j => some j = u.ownBlock)) : OwnS K E e w' B H v LL := h.fr hf (fun k hk q => ho.1 k hk q) ho.2
theorem OwnS.bound (h : OwnS K E e w B H v LL) : OwnS K E e w B w.heap.size v LL := by
  obtain ⟨vs, h1, h2, h3⟩ := h
  exact ⟨vs, h1, h2, fun j hj => ⟨(h3 j hj).1, fun k hk => (h3 j hj).1.lt hk⟩⟩
noncomputable def OwnS.vs (h : OwnS K E e w B H v LL) : List V1 := Classical.choose h
theorem OwnS.ow (h : OwnS K E e w B H v LL) : Own kV E w B v h.vs := (Classical.choose_spec h).1
theorem OwnS.geO (h : OwnS K E e w B H v LL) : ∀ g, v.ownBlock = some g → B ≤ g := h.ow.geO
theorem OwnS.one (h : OwnS K E e w B H v LL) : v.oneCell' = true := h.ow.one
theorem OwnS.base (h : OwnS K E e w B H v LL) (hb : B2 ≤ B) : OwnS K E e w B2 H v LL := by
  obtain ⟨vs, h1, h2⟩ := h
  exact ⟨vs, h1.base hb, h2⟩
theorem OwnS.nil (K : Kd α) (E e : TypeId) (w : World) (B H : Nat) : OwnS K E e w B H (.slice none 0 0) [] := ⟨[], Own.nil _ _ _ _, rfl, fun j hj => by simp at hj⟩
theorem OwnS.rd (h : OwnS K E e w B H v LL) : Rds K w v LL := by
  obtain ⟨vs, h1, h2, h3⟩ := h
  exact ⟨vs, h1.rd, h2, fun j hj => (h3 j hj).1.rd⟩
theorem Rds.nil (K : Kd α) (w : World) : Rds K w (.slice none 0 0) [] := (OwnS.nil K 0 0 w 0 0).rd
theorem OwnS.offRV (h : OwnS K E e w B H v LL) {i : Int} (h0 : 0 ≤ i) (h1 : i < (LL.length : Int)) {E2 : TypeId} (h2 : Own K2 E2 w B2 u l) (hne : e ≠ E2) : OffRV (inner w v i) (ix LL i) u := by
  obtain ⟨vs, hv, hl, h3⟩ := h
  have hat := hv.rd.elem h0 (by rw [hl]; exact h1)
  have hc := hat 0 _ rfl
  rw [Nat.add_zero] at hc
  have he : inner w v i = (ix vs i).1 := by
    unfold inner
    have : w.cell? ⟨sb v, so v + i.toNat * 1, none⟩ = some (ix vs i).1 := hc
    rw [this]
    rfl
  rw [he]
  exact OffRV.own (h3 i.toNat (by omega)).1 (OffV.ty (h3 i.toNat (by omega)).1 h2 hne)
theorem offi_b {g : Nat} {T : TypeId} {ss : List Seg} (hb : Blk w g T ss) (hne : T ≠ e) : OffI w e H (fun j => j = g) := by
  intro k _ ⟨cur, fz, hk⟩ q
  subst q
  unfold Blk at hb
  rw [hb] at hk
  injection hk with hk
  injection hk with _ ht
  exact hne ht
theorem offi_v {E2 : TypeId} (h2 : Own K2 E2 w B2 u l) (hne : E2 ≠ e) : OffI w e H (fun j => some j = u.ownBlock) := by
  intro k _ ⟨cur, fz, hk⟩ q
  obtain ⟨cur2, fz2, hk2⟩ := own_ty h2 q.symm
  rw [hk2] at hk
  injection hk with hk
  injection hk with _ ht
  exact hne ht
theorem offi_nil : OffI w e H (fun j => some j = (Value.slice none 0 0).ownBlock) := by
  intro k _ _ q
  simp [Value.ownBlock] at q
theorem offi_ge (z : ∀ k, u.ownBlock = some k → H ≤ k) : OffI w e H (fun j => some j = u.ownBlock) := by
  intro k hk _ q
  have := z k q.symm
  omega
theorem opv_build1S {L : List α} {bs : Nat} {zv : Value} {B0 : Nat} (ho : o.op = .buildSlice T 1 #[(0, x)]) (hT : P.underlying T = some (.slice E)) (hE : elB P E = some (some zv, 1, bs)) (hz : zv.cells.size = 1)
    (hr : Own K e w B0 v L) (hx : evO ρ x = v) (hB : B ≤ w.heap.size) : OpV P o ρ w (fun u w' => OwnS K E e w' B w'.heap.size u [L] ∧ Gr w w' ∧ ∀ k, u.ownBlock = some k → w.heap.size ≤ k) := by
  have h := opv_buildSlice (P := P) (ρ := ρ) (w := w) (K := kV) (B := B) (xs := [(⟨v, hr.one⟩ : V1)]) (vals := [v]) ho hT hE rfl hz ⟨rfl, hx, trivial⟩ rfl rfl rfl hB
  refine h.mono ?_
  rintro u w' ⟨hown, hgr, hz⟩
  refine ⟨⟨[⟨v, hr.one⟩], hown, rfl, fun j hj => ?_⟩, hgr, hz⟩
  have : j = 0 := by simp at hj; exact hj
  subst this
  have h2 := (hr.gr hgr).base (Nat.zero_le _)
  exact ⟨h2, fun k hk => h2.lt hk⟩
theorem opv_appendS {bs : Nat} {zv : Value} {MM : List (List α)} (ho : o.op = .call ⟨.builtin .append, #[x, y], #[T, T]⟩) (hT : P.underlying T = some (.slice E)) (hE : elB P E = some (some zv, 1, bs)) (hz : zv.cells.size = 1)
    (hbs : Nat.ble bs 32768 = true) (hx : evO ρ x = v) (hy : evO ρ y = u) (h : OwnS K E e w B H v LL) (hr : OwnS K E e w B2 H2 u MM) (hne : e ≠ E) (hlim : LL.length + MM.length ≤ LIM) (hB : B ≤ w.heap.size) :
    OpV P o ρ w (fun v' w' => OwnS K E e w' B w'.heap.size v' (LL ++ MM) ∧ Fr (fun j => some j = v.ownBlock) w w' ∧ ∀ g, g < w.heap.size → Off v g → Off v' g) := by
  obtain ⟨vs, h1, h2, h3⟩ := h
  obtain ⟨us, r1, r2, r3⟩ := hr
  have ha := opv_append (P := P) (ρ := ρ) (w := w) (K := kV) (B := B) (L := vs) (M := us) ho hT hE hz rfl hbs hx hy h1 r1.rd (by rw [h2, r2]; exact hlim) hB
  refine ha.mono ?_
  rintro v' w' ⟨ho', hf, hon⟩
  refine ⟨⟨vs ++ us, ho', by simp [h2, r2], fun j hj => ?_⟩, hf, hon⟩
  have key : ∀ {z : Value} {L : List α}, Own K e w 0 z L → Own K e w' 0 z L ∧ ∀ k, z.ownBlock = some k → k < w'.heap.size := by
    intro z L hz
    have := hz.wrV hf (OffV.ty hz h1 hne)
    exact ⟨this, fun k hk => this.lt hk⟩
  by_cases hl : j < LL.length
  · have e1 : (vs ++ us).getD j default = vs.getD j default := by
      rw [List.getD_eq_getElem?_getD, List.getD_eq_getElem?_getD, List.getElem?_append_left (by omega)]
    have e2 : (LL ++ MM).getD j [] = LL.getD j [] := by
      rw [List.getD_eq_getElem?_getD, List.getD_eq_getElem?_getD, List.getElem?_append_left hl]
    rw [e1, e2]
    exact key (h3 j hl).1
  · have hj' : j - LL.length < MM.length := by
      rw [List.length_append] at hj
      omega
    have e1 : (vs ++ us).getD j default = us.getD (j - LL.length) default := by
      rw [List.getD_eq_getElem?_getD, List.getD_eq_getElem?_getD, List.getElem?_append_right (by omega), h2]
    have e2 : (LL ++ MM).getD j [] = MM.getD (j - LL.length) [] := by
      rw [List.getD_eq_getElem?_getD, List.getD_eq_getElem?_getD, List.getElem?_append_right (by omega)]
    rw [e1, e2]
    exact key (r3 _ hj').1
end
end Go.Xw
