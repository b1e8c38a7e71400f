/- The words of the walks: objects that come in by pointers: parts of rows, what a call may write, results that may be nil, rows of records that hold slices. -/
import Derived.Test.YtklhbaghbmndeaaXStr
set_option linter.unusedVariables false
set_option linter.unusedSimpArgs false
namespace Go.Xw
open Go
/-! ### A part of a row -/
theorem row_at {w : World} {g : Nat} {T : TypeId} {cs : List Value} (h : w.heap[g]? = some (.cells cs.toArray T (0, 0))) : At w g 0 cs := by
  intro j v hv
  rw [cell_of_row w g _ _ T (0, 0) h]
  simpa using hv
def SubB (w : World) (g : Nat) (T : TypeId) (X : List Value) (ss : List Seg) (Y : List Value) : Prop := w.heap[g]? = some (.cells (X ++ (cellsOf ss ++ Y)).toArray T (0, 0))
section
variable {P : Program} {w w' : World} {g g' : Nat} {T : TypeId} {X Y : List Value} {ss : List Seg}
theorem SubB.lt (h : SubB w g T X ss Y) : g < w.heap.size := (Array.getElem?_eq_some_iff.1 h).1
theorem SubB.fr {S : Nat → Prop} (h : SubB w g T X ss Y) (hf : Fr S w w') (hs : ¬ S g) : SubB w' g T X ss Y := (hf.blk g h.lt hs).trans h
theorem SubB.gr (h : SubB w g T X ss Y) (hf : Gr w w') : SubB w' g T X ss Y := h.fr hf (fun x => x)
theorem SubB.wr (h : SubB w g T X ss Y) (hf : Fr (fun j => j = g') w w') (hn : g ≠ g') : SubB w' g T X ss Y := h.fr hf hn
theorem SubB.wrO {v : Value} (h : SubB w g T X ss Y) (hf : Fr (fun j => some j = v.ownBlock) w w') (ho : Off v g) : SubB w' g T X ss Y := h.fr hf fun e => ho e.symm
theorem SubB.ne (h : SubB w g T X ss Y) (hg : w.heap.size ≤ g') : g ≠ g' := by have := h.lt; omega
theorem SubB.at_ (h : SubB w g T X ss Y) : At w g X.length (cellsOf ss) :=
  ((row_at h).sub rfl rfl).cast (Nat.zero_add _)
theorem SubB.segs (h : SubB w g T X ss Y) (i m : Nat) {p : Nat} (hp : sumN (ss.take i) = p) : At w g (X.length + p) (cellsOf ((ss.drop i).take m)) := h.at_.segs i m hp
theorem SubB.seg (h : SubB w g T X ss Y) (i : Nat) {s : Seg} {p : Nat} (hs : ss[i]? = some s) (hp : sumN (ss.take i) = p) : At w g (X.length + p) s.l := by
  have h1 := h.segs i 1 hp
  obtain ⟨hi, he⟩ := List.getElem?_eq_some_iff.1 hs
  rw [List.drop_eq_getElem_cons hi, he] at h1
  simpa [cellsOf] using h1
theorem Blk.sub (h : Blk w g T ss) (i m : Nat) : SubB w g T (cellsOf (ss.take i)) ((ss.drop i).take m) (cellsOf ((ss.drop i).drop m)) := by
  unfold SubB
  rw [← cellsOf_append, List.take_append_drop, ← cellsOf_append, List.take_append_drop]
  exact h
theorem Blk.unsub {pre mid post : List Seg} (h : SubB w g T (cellsOf pre) mid (cellsOf post)) : Blk w g T (pre ++ (mid ++ post)) := by
  unfold SubB at h
  unfold Blk
  rw [cellsOf_append, cellsOf_append]
  exact h
theorem SubB.sub (h : SubB w g T X ss Y) (i m : Nat) : SubB w g T (X ++ cellsOf (ss.take i)) ((ss.drop i).take m) (cellsOf ((ss.drop i).drop m) ++ Y) := by
  have e : X ++ cellsOf (ss.take i) ++ (cellsOf ((ss.drop i).take m) ++ (cellsOf ((ss.drop i).drop m) ++ Y)) = X ++ (cellsOf ss ++ Y) := by
    conv => rhs; rw [← List.take_append_drop i ss, cellsOf_append, ← List.take_append_drop m (ss.drop i), cellsOf_append]
    simp only [List.append_assoc, List.take_append_drop]
  unfold SubB
  rw [e]
  exact h
theorem SubB.unsub {pre mid post : List Seg} (h : SubB w g T (X ++ cellsOf pre) mid (cellsOf post ++ Y)) : SubB w g T X (pre ++ (mid ++ post)) Y := by
  unfold SubB at h ⊢
  rw [cellsOf_append, cellsOf_append]
  simpa [List.append_assoc] using h
variable {ρ : Env} {o : Oper} {x y : Operand} {T' : TypeId}
theorem opv_storeSub {p m : Nat} {v : Value} {xs : List Value} {ss' : List Seg} (ho : o.op = .store T' x y) (hsz : szB P T' = some m) (hx : evO ρ x = .pointer (some ⟨g, X.length + p, none⟩)) (hy : evO ρ y = v)
    (hc : v.cells = xs.toArray) (hm : xs.length = m) (h1 : ∀ u ∈ xs, u.oneCell' = true) (hb : SubB w g T X ss Y) (hs : Spl (cellsOf ss) p xs (cellsOf ss')) :
    OpV P o ρ w (fun _ w' => SubB w' g T X ss' Y ∧ Fr (fun j => j = g) w w') := by
  unfold szB at hsz
  obtain ⟨inf, hinf, he⟩ := Option.map_eq_some_iff.1 hsz
  have hs2 : Spl (X ++ (cellsOf ss ++ Y)) (X.length + p) xs (X ++ (cellsOf ss' ++ Y)) := Spl.comp rfl hs
  have hst := run_storeCells_spl (P := P) hb hs2 h1
  exact opv_skip (w' := w.setRow g (X ++ (cellsOf ss' ++ Y)).toArray) (by simp [execOp, ho, hx, hy, Instr.storeAt, Instr.sureAddr, storeVar, sizeOf, typeInfo, hinf, hc, hm, he, hst]) ⟨setRow_heap w g _ _ T _ hb, Fr.setRow g _⟩
theorem fin_end0 {fn : Func} {R : Ending → World → Prop} (hr : fn.results = #[]) (h : R (.returned (.tuple #[])) w) : fin P fn R .normal ρ w :=
  ⟨.inr rfl, fun tmps ht => ⟨.tuple #[], by simp [results, hr], h⟩⟩
theorem ptrE {f : Operand → Value} {p q : Nat} (h : f x = .pointer (some ⟨g, p, none⟩)) (e : q = p) : f x = .pointer (some ⟨g, q, none⟩) := by rw [h, e]
end
/-! ### An element of a row of the call's own -/
theorem Own.sub {α : Type} [Inhabited α] {K : Kd α} {E : TypeId} {w : World} {B : Nat} {v : Value} {L : List α} (h : Own K E w B v L) {i : Int} (h0 : 0 ≤ i) (h1 : i < (L.length : Int)) {ss : List Seg} (hss : K.enc (ix L i) = cellsOf ss) :
    ∃ X Y : List Value, X.length = so v + i.toNat * K.size ∧ v.ownBlock = some (sb v) ∧ SubB w (sb v) E X ss Y ∧ ∀ (w' : World) (z : α) (ss' : List Seg), K.enc z = cellsOf ss' → SubB w' (sb v) E X ss' Y → Own K E w' B v (L.set i.toNat z) := by
  rcases h.2 with ⟨rfl, hn⟩ | ⟨g, cap, cur, rfl, hb, hg, hn, hm, hcs, ht⟩
  · omega
  · have hi : i.toNat < L.length := by omega
    have hsp := flat_split K L i.toNat hi
    have hcur : cur = (L.flatMap K.enc ++ cur.toList.drop (L.length * K.size)).toArray := by
      rw [← ht, List.take_append_drop, Array.toArray_toList]
    have hfl : (L.flatMap K.enc).length = L.length * K.size := len_flat K L
    refine ⟨(L.take i.toNat).flatMap K.enc, (L.drop (i.toNat + 1)).flatMap K.enc ++ cur.toList.drop (L.length * K.size), ?_, rfl, ?_, ?_⟩
    · rw [len_flat, List.length_take, Nat.min_eq_left (by omega)]
      simp [so]
    · unfold SubB
      show w.heap[g]? = _
      rw [hg, ← hss]
      congr 2
      conv => lhs; rw [hcur, hsp]
      simp only [List.append_assoc]
      rfl
    · intro w' z ss' hz hsub
      have hl2 : (L.set i.toNat z).flatMap K.enc = (L.take i.toNat).flatMap K.enc ++ (K.enc z ++ (L.drop (i.toNat + 1)).flatMap K.enc) := by
        rw [List.set_eq_take_append_cons_drop, if_pos hi, List.flatMap_append, List.flatMap_cons]
      unfold SubB at hsub
      have hsub' : w'.heap[g]? = some (.cells ((L.set i.toNat z).flatMap K.enc ++ cur.toList.drop (L.length * K.size)).toArray E (0, 0)) := by
        have : w'.heap[g]? = _ := hsub
        rw [this, ← hz, hl2]
        simp only [List.append_assoc]
      refine ⟨by rw [len_flat, List.length_set], .inr ⟨g, cap, _, by rw [List.length_set], hb, hsub', by rw [List.length_set]; exact hn, hm, ?_, ?_⟩⟩
      · have hl3 : ((L.set i.toNat z).flatMap K.enc).length = (L.flatMap K.enc).length := by rw [len_flat, List.length_set, hfl]
        have hsz : cur.size = (L.flatMap K.enc ++ cur.toList.drop (L.length * K.size)).length := by
          conv => lhs; rw [hcur]
          exact List.size_toArray
        rw [List.size_toArray, List.length_append, hl3, ← List.length_append, ← hsz, hcs]
      · have e : (L.set i.toNat z).length * K.size = ((L.set i.toNat z).flatMap K.enc).length := (len_flat K _).symm
        rw [e]
        simp
theorem fr_own {w w' : World} {v : Value} (h : Fr (fun j => j = sb v) w w') (e : v.ownBlock = some (sb v)) : Fr (fun j => some j = v.ownBlock) w w' := h.mono fun j hj => by rw [e, hj]
theorem Own.rebase {α : Type} {K : Kd α} {E : TypeId} {w : World} {B B' : Nat} {v : Value} {l : List α} (h : Own K E w B v l) (hb : ∀ g, v.ownBlock = some g → B' ≤ g) : Own K E w B' v l := by
  refine ⟨h.1, ?_⟩
  rcases h.2 with hn | ⟨g, cap, cur, rfl, hb', r⟩
  · exact .inl hn
  · exact .inr ⟨g, cap, cur, rfl, hb g rfl, r⟩
/-! ### What a call may write -/
section
variable {w w' : World}
theorem off_z {g : Nat} {v : Value} (hg : g < w.heap.size) (z : ∀ k, v.ownBlock = some k → w.heap.size ≤ k) : Off v g := fun e => by have := z g e; omega
theorem nb_or {A B : Prop} (a : ¬ A) (b : ¬ B) : ¬ (A ∨ B) := fun h => h.elim a b
theorem nb_off {v : Value} {g : Nat} (h : Off v g) : ¬ (some g = v.ownBlock) := fun e => h e.symm
theorem vo_or {v : Value} {A B : Nat → Prop} (a : ∀ k, v.ownBlock = some k → ¬ A k) (b : ∀ k, v.ownBlock = some k → ¬ B k) : ∀ k, v.ownBlock = some k → ¬ (A k ∨ B k) := fun k hk h => h.elim (a k hk) (b k hk)
theorem vo_eq {v : Value} {g : Nat} (h : Off v g) : ∀ k, v.ownBlock = some k → ¬ (k = g) := fun k hk e => h (by rw [hk, e])
theorem vo_own {v u : Value} (h : OffV v u) : ∀ k, v.ownBlock = some k → ¬ (some k = u.ownBlock) := h
theorem ro_or {α : Type} {l : List α} {A B : Prop} (a : 0 < l.length → ¬ A) (b : 0 < l.length → ¬ B) : 0 < l.length → ¬ (A ∨ B) := fun hl h => h.elim (a hl) (b hl)
theorem ro_eq {α : Type} {v : Value} {l : List α} {g : Nat} (h : OffR v l g) : 0 < l.length → ¬ (sb v = g) := h
theorem ro_own {α : Type} {v u : Value} {l : List α} (h : OffRV v l u) : 0 < l.length → ¬ (some (sb v) = u.ownBlock) := fun hl e => h hl e.symm
theorem cv_or {A B T : Nat → Prop} (a : ∀ k, A k → T k) (b : ∀ k, B k → T k) : ∀ k, A k ∨ B k → T k := fun k h => h.elim (a k) (b k)
theorem cv_eq {T : Nat → Prop} {g : Nat} (h : T g) : ∀ k, k = g → T k := fun k e => e ▸ h
theorem cv_own {T : Nat → Prop} {v : Value} (h : ∀ k, v.ownBlock = some k → T k) : ∀ k, some k = v.ownBlock → T k := fun k e => h k e.symm
theorem Fr.call {S S1 : Nat → Prop} {a b c : World} (h : Fr S a b) (q : Fr S1 b c) (cv : ∀ k, S1 k → a.heap.size ≤ k ∨ S k) : Fr S a c := h.trans q fun j hj hs => (cv j hs).elim (fun x => by omega) id
theorem Fr.wrM {S : Nat → Prop} {a b c : World} {v : Value} (h : Fr S a b) (k : Fr (fun j => some j = v.ownBlock) b c) (m : ∀ g, v.ownBlock = some g → a.heap.size ≤ g ∨ S g) : Fr S a c := h.call k (cv_own m)
theorem ms_app {S : Nat → Prop} {n : Nat} {v v' : Value} (m : ∀ g, v.ownBlock = some g → n ≤ g ∨ S g) (on : ∀ g, g < w.heap.size → Off v g → Off v' g) (hs : n ≤ w.heap.size) : ∀ g, v'.ownBlock = some g → n ≤ g ∨ S g := by
  intro g hg
  by_cases hlt : g < w.heap.size
  · refine m g (Classical.byContradiction fun hne => ?_)
    exact on g hlt hne hg
  · exact .inl (by omega)
theorem ms_nil {S : Nat → Prop} {n : Nat} : ∀ g, (Value.slice none 0 0).ownBlock = some g → n ≤ g ∨ S g := fun g hg => by simp [Value.ownBlock] at hg
theorem ms_geO {α : Type} {K : Kd α} {E : TypeId} {S : Nat → Prop} {n : Nat} {v : Value} {l : List α} (h : Own K E w n v l) : ∀ g, v.ownBlock = some g → n ≤ g ∨ S g := fun g hg => .inl (h.ge hg)
theorem ov_new {α : Type} {K : Kd α} {E : TypeId} {B : Nat} {S : Nat → Prop} {r u : Value} {l : List α} (o : Own K E w B r l) (hr : ∀ k, r.ownBlock = some k → ¬ S k) (m : ∀ g, u.ownBlock = some g → w.heap.size ≤ g ∨ S g) : OffV r u := fun k hk e => (m k e.symm).elim (fun x => by have := o.lt hk; omega) (hr k hk)
theorem orv_new {α : Type} {K : Kd α} {S : Nat → Prop} {r u : Value} {l : List α} (o : Rd K w r l) (hK : Nat.blt 0 K.size = true) (hr : 0 < l.length → ¬ S (sb r)) (m : ∀ g, u.ownBlock = some g → w.heap.size ≤ g ∨ S g) : OffRV r l u := fun hl e => (m _ e).elim (fun x => by have := o.lt hK hl; omega) (hr hl)
end
theorem Blk.neT {w : World} {g g' : Nat} {T T' : TypeId} {ss ss' : List Seg} (h : Blk w g T ss) (h' : Blk w g' T' ss') (hn : T ≠ T') : g ≠ g' := by
  intro e
  subst e
  unfold Blk at h h'
  rw [h] at h'
  have := Option.some.inj h'
  simp at this
  exact hn this.2
/-! ### Pointers that may be nil -/
section
variable {P : Program} {ρ : Env} {w : World} {o : Oper} {x y : Operand} {T T' E : TypeId}
theorem run_eqPD (d : Nat) {A B : Option Addr} (hT : P.underlying T = some (.pointer E)) (h : A = none ∨ B = none) : (Op.equalIn (d + 1) T (.pointer A) (.pointer B)).run P w = .ok (A.isNone && B.isNone) w := by
  rcases h with rfl | rfl
  · cases B <;> simp [Op.equalIn, run_underlying hT]
  · cases A <;> simp [Op.equalIn, run_underlying hT]
theorem xr_eqP {A B : Option Addr} {b : Bool} (ho : o.op = .binOp .eql T x y T') (hT : P.underlying T = some (.pointer E)) (hx : evO ρ x = .pointer A) (hy : evO ρ y = .pointer B) (hn : A = none ∨ B = none) (hb : (A.isNone && B.isNone) = b) : (execOp (evO ρ) o).run P w = .ok (.value (.bool b)) w := by
  have h : (Op.equal T (.pointer A) (.pointer B)).run P w = .ok (A.isNone && B.isNone) w := run_eqPD 9999 hT hn
  simp only [execOp, ho, hx, hy, binOp]
  simp [eqGuard, h, hb]
theorem xr_neP {A B : Option Addr} {b : Bool} (ho : o.op = .binOp .neq T x y T') (hT : P.underlying T = some (.pointer E)) (hx : evO ρ x = .pointer A) (hy : evO ρ y = .pointer B) (hn : A = none ∨ B = none) (hb : (!(A.isNone && B.isNone)) = b) : (execOp (evO ρ) o).run P w = .ok (.value (.bool b)) w := by
  have h : (Op.equal T (.pointer A) (.pointer B)).run P w = .ok (A.isNone && B.isNone) w := run_eqPD 9999 hT hn
  simp only [execOp, ho, hx, hy, binOp]
  simp [eqGuard, h, hb]
theorem en {α β : Type} {o : Option α} {A : Option β} {B : α → Option β} {r : β} (h : Option.elim o A B = some r) : (o = none ∧ A = some r) ∨ ∃ m, o = some m ∧ B m = some r := by
  cases o with
  | none => exact .inl ⟨rfl, h⟩
  | some m => exact .inr ⟨m, rfl, h⟩
end
/-! ### Rows of records that hold slices -/
def kC (n : Nat) : Kd { l : List Value // l.length = n ∧ ∀ v ∈ l, v.oneCell' = true } := ⟨fun x => x.1, n, fun x => x.2.1, fun x => x.2.2⟩
def RdN {α : Type} (n : Nat) (D : World → List Value → α → Prop) (w : World) (v : Value) (l : List α) : Prop := ∃ cs : List { l : List Value // l.length = n ∧ ∀ v ∈ l, v.oneCell' = true }, Rd (kC n) w v cs ∧ cs.length = l.length ∧ ∀ i (h : i < cs.length) (h' : i < l.length), D w cs[i].1 l[i]
def cellAt (w : World) (g p : Nat) : Value := (w.cell? ⟨g, p, none⟩).getD undef
section
variable {P : Program} {w w' : World} {α : Type} {n : Nat} {D : World → List Value → α → Prop} {v : Value} {l : List α}
theorem RdN.gr (h : RdN n D w v l) (hD : ∀ {w w' : World} {cs : List Value} {m : α}, D w cs m → Gr w w' → D w' cs m) (hf : Gr w w') : RdN n D w' v l := by
  obtain ⟨cs, h1, h2, h3⟩ := h
  exact ⟨cs, h1.gr hf, h2, fun i h h' => hD (h3 i h h') hf⟩
theorem RdN.one (h : RdN n D w v l) : v.oneCell' = true := by
  obtain ⟨cs, h1, _⟩ := h
  exact h1.one
theorem RdN.nil : RdN n D w (.slice none 0 0) [] := ⟨[], Rd.nil _ _, rfl, fun i h => by simp at h⟩
instance : Inhabited { l : List Value // l.length = n ∧ ∀ v ∈ l, v.oneCell' = true } := ⟨⟨List.replicate n (.bool false), by simp, fun v hv => by rw [List.eq_of_mem_replicate hv]; rfl⟩⟩
theorem RdN.at [Inhabited α] (h : RdN n D w v l) {i : Int} (h0 : 0 ≤ i) (h1 : i < (l.length : Int)) : ∃ cs, At w (sb v) (so v + i.toNat * n) cs ∧ D w cs (ix l i) := by
  obtain ⟨cs, r1, r2, r3⟩ := h
  have hi : i.toNat < cs.length := by omega
  have hi2 : i.toNat < l.length := by omega
  refine ⟨cs[i.toNat].1, ?_, ?_⟩
  · have := r1.elem h0 (by rw [r2]; exact h1)
    have e : ix cs i = cs[i.toNat] := by
      unfold ix
      rw [List.getD_eq_getElem?_getD, List.getElem?_eq_getElem hi]
      rfl
    rw [e] at this
    exact this
  · have e : ix l i = l[i.toNat] := by
      unfold ix
      rw [List.getD_eq_getElem?_getD, List.getElem?_eq_getElem hi2]
      rfl
    rw [e]
    exact r3 i.toNat hi hi2
theorem At.cellAt {g p j : Nat} {cs : List Value} {u : Value} (h : At w g p cs) (hj : cs[j]? = some u) : Xw.cellAt w g (p + j) = u := by
  unfold Xw.cellAt
  rw [h j u hj]
  rfl
variable {ρ : Env} {o : Oper} {x y : Operand} {T T' E : TypeId}
theorem xr_lenN {w' : World} (ho : o.op = .call ⟨.builtin .len, #[x], #[T]⟩) (hT : P.underlying T = some (.slice E)) (hx : evO ρ x = v) (hr : RdN n D w' v l) : (execOp (evO ρ) o).run P w = .ok (.value (.int .i64 (l.length : Int))) w := by
  obtain ⟨cs, h1, h2, _⟩ := hr
  rw [← h2]
  exact xr_lenR ho hT hx h1
theorem xr_indexN {k : IntKind} {i : Int} (ho : o.op = .indexAddr T x y) (hT : P.underlying T = some (.slice E)) (hs : szB P E = some n)
    (hx : evO ρ x = v) (hr : RdN n D w v l) (hy : evO ρ y = .int k i) (h0 : 0 ≤ i) (h1 : i < (l.length : Int)) : (execOp (evO ρ) o).run P w = .ok (.value (.pointer (some ⟨sb v, so v + i.toNat * n, none⟩))) w := by
  obtain ⟨cs, hv, h2, _⟩ := hr
  exact xr_indexR (K := kC n) ho hT hs hx hv hy h0 (by rw [h2]; exact h1)
end
/-! ### A slice literal of one record -/
theorem opv_buildRec {P : Program} {ρ : Env} {w : World} {o : Oper} {x : Operand} {T E : TypeId} {α : Type} {K : Kd α} {B bs : Nat} {zv v : Value} {z : α} (ho : o.op = .buildSlice T 1 #[(0, x)]) (hT : P.underlying T = some (.slice E)) (hE : elB P E = some (some zv, K.size, bs)) (hm : Nat.ble K.size 4096 = true) (hk : Nat.blt 0 K.size = true)
    (hx : evO ρ x = v) (hv : v.cells = (K.enc z).toArray) (hB : B ≤ w.heap.size) : OpV P o ρ w (NewR K E B w [z]) := by
  obtain ⟨i, hi, hiz, his, hib⟩ := elB_parts hE
  have hlen := K.len z
  refine opv_val (w' := w.alloc (.cells (K.enc z).toArray E)) (v := .slice (some ⟨w.heap.size, 0, none⟩) 1 1) ?_ ⟨⟨by rw [len_flat], .inr ⟨w.heap.size, 1, (K.enc z).toArray, rfl, hB, heap_alloc_new w _, Nat.le_refl _, by simp only [maxLen]; omega, by simp [hlen], ?_⟩⟩, Fr.alloc w _, fun k hk => by simp [Value.ownBlock] at hk; omega⟩
  · have hfl : ∀ c : Array Value, c.size = K.size → Instr.fill (fun i => some (i * K.size, K.size)) c [(0, v)] = some (K.enc z).toArray := by
      intro c hc
      have := fl_cons (place := fun i => some (i * K.size, K.size)) (cs := c.toList) (cs' := K.enc z) (xs := K.enc z) (res := K.enc z) (j := 0) (off := 0) (n := K.size) (v := v) (parts := []) (by simp) hv hlen (Spl.whole (by rw [hlen, Array.length_toList, hc])) fl_nil
      unfold Fl at this
      rwa [Array.toArray_toList] at this
    have hle : ¬ 16777216 < K.size := by
      have := Nat.le_of_ble_eq_true hm
      omega
    have h0 : ¬ K.size = 0 := by
      have : 0 < K.size := by simpa [Nat.blt_eq] using hk
      omega
    simp only [execOp, ho]
    simp [Instr.buildSlice, run_underlying hT, sizeOf, typeInfo, hi, his, newRow, zeroValue, hiz, hx, hle, h0, hfl]
  · show List.take (1 * K.size) (K.enc z) = [z].flatMap K.enc
    rw [List.take_of_length_le (by omega)]
    simp
end Go.Xw
