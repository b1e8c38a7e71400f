/- The words of the walks: memory. Kinds of values, blocks of the call's own, slices that are read, rows of the call's own. -/
import Derived.Test.YtklhbaghbmndeaaXLib
set_option linter.unusedVariables false
set_option linter.unusedSimpArgs false
namespace Go.Xw
open Go

/-! ### 1. What became of a world -/
structure Fr (S : Nat → Prop) (w w' : World) : Prop where
  os : w'.os = w.os
  tape : w'.tape = w.tape
  output : w'.output = w.output
  size : w.heap.size ≤ w'.heap.size
  blk : ∀ k, k < w.heap.size → ¬ S k → w'.heap[k]? = w.heap[k]?
abbrev Gr (w w' : World) : Prop := Fr (fun _ => False) w w'
theorem Fr.refl (S : Nat → Prop) (w : World) : Fr S w w := ⟨rfl, rfl, rfl, Nat.le_refl _, fun _ _ _ => rfl⟩
theorem Fr.trans {S T : Nat → Prop} {a b c : World} (h : Fr S a b) (k : Fr T b c) (hs : ∀ j, j < a.heap.size → T j → S j) : Fr S a c :=
  ⟨k.os.trans h.os, k.tape.trans h.tape, k.output.trans h.output, Nat.le_trans h.size k.size,
    fun j hj hn => (k.blk j (Nat.lt_of_lt_of_le hj h.size) (fun ht => hn (hs j hj ht))).trans (h.blk j hj hn)⟩
theorem Fr.gr {S : Nat → Prop} {a b c : World} (h : Fr S a b) (k : Gr b c) : Fr S a c := h.trans k fun _ _ hf => hf.elim
theorem Fr.wr {S : Nat → Prop} {a b c : World} {g : Nat} (h : Fr S a b) (k : Fr (fun j => j = g) b c) (hg : a.heap.size ≤ g) : Fr S a c :=
  h.trans k fun j hj hf => by subst hf; omega
theorem Fr.wrS {S : Nat → Prop} {a b c : World} {g : Nat} (h : Fr S a b) (k : Fr (fun j => j = g) b c) (hg : S g) : Fr S a c :=
  h.trans k fun j hj hf => by subst hf; exact hg
theorem Fr.mono {S T : Nat → Prop} {a b : World} (h : Fr S a b) (hs : ∀ j, S j → T j) : Fr T a b := ⟨h.os, h.tape, h.output, h.size, fun k hk hn => h.blk k hk fun hx => hn (hs k hx)⟩
theorem Fr.of_grown {w w' : World} (h : w.grownBy w' none) : Gr w w' := ⟨h.os, h.tape, h.output, h.size, fun k hk _ => h.block k hk (by simp)⟩
theorem Fr.of_grownBy {w w' : World} {r : Option Nat} (h : w.grownBy w' r) : Fr (fun j => some j = r) w w' := ⟨h.os, h.tape, h.output, h.size, fun k hk hn => h.block k hk hn⟩
theorem Fr.alloc (w : World) (o : Obj) : Gr w (w.alloc o) := Fr.of_grown (World.grownBy_alloc w o none)
theorem Fr.drew (w : World) : Gr w { w with drawn := w.drawn + 1 } := ⟨rfl, rfl, rfl, Nat.le_refl _, fun _ _ _ => rfl⟩
theorem Fr.setRow {w : World} (g : Nat) (cs : Array Value) : Fr (fun j => j = g) w (w.setRow g cs) := ⟨rfl, rfl, rfl, by simp, fun k _ hk => setRow_other w g k cs hk⟩
theorem Fr.below {w w' : World} (h : Gr w w') : RowKit.Below w.heap.size w w' := ⟨h.os, h.tape, h.output, h.size, fun k hk => h.blk k hk (fun x => x)⟩

/-! ### 2. Kinds -/
structure Seg where
  n : Nat
  l : List Value
  h : l.length = n
  one : ∀ v ∈ l, v.oneCell' = true
def Seg.cell (v : Value) (hv : v.oneCell' = true := by rfl) : Seg := ⟨1, [v], rfl, by intro u hu; simp at hu; subst hu; exact hv⟩
def cellsOf : List Seg → List Value
  | [] => []
  | s :: ss => s.l ++ cellsOf ss
def sumN : List Seg → Nat
  | [] => 0
  | s :: ss => s.n + sumN ss
theorem len_cellsOf (ss : List Seg) : (cellsOf ss).length = sumN ss := by
  induction ss with
  | nil => rfl
  | cons s ss ih => simp [cellsOf, sumN, ih, s.h]
theorem one_cellsOf (ss : List Seg) : ∀ v ∈ cellsOf ss, v.oneCell' = true := by
  induction ss with
  | nil => intro v hv; simp [cellsOf] at hv
  | cons s ss ih =>
    intro v hv
    simp only [cellsOf, List.mem_append] at hv
    rcases hv with hv | hv
    · exact s.one v hv
    · exact ih v hv
theorem cellsOf_append (a b : List Seg) : cellsOf (a ++ b) = cellsOf a ++ cellsOf b := by
  induction a with
  | nil => rfl
  | cons s a ih => simp [cellsOf, ih]
theorem sumN_append (a b : List Seg) : sumN (a ++ b) = sumN a + sumN b := by
  induction a with
  | nil => simp [sumN]
  | cons s a ih => simp [sumN, ih]; omega
def aggV (ss : List Seg) : Value := .agg (cellsOf ss).toArray
structure Kd (α : Type) where
  enc : α → List Value
  size : Nat
  len : ∀ x, (enc x).length = size
  one : ∀ x, ∀ v ∈ enc x, v.oneCell' = true
def Kd.seg {α : Type} (K : Kd α) (x : α) : Seg := ⟨K.size, K.enc x, K.len x, K.one x⟩
def kI (k : IntKind) : Kd Int := ⟨fun x => [.int k x], 1, fun _ => rfl, fun _ v hv => by simp at hv; subst hv; rfl⟩
def kB : Kd Bool := ⟨fun x => [.bool x], 1, fun _ => rfl, fun _ v hv => by simp at hv; subst hv; rfl⟩
def sv (l : List UInt8) : Value := .string ⟨l.toArray⟩
def kS : Kd (List UInt8) := ⟨fun x => [sv x], 1, fun _ => rfl, fun _ v hv => by simp at hv; subst hv; rfl⟩
def kT {α : Type} (segs : α → List Seg) (n : Nat) (h : ∀ x, sumN (segs x) = n) : Kd α := ⟨fun x => cellsOf (segs x), n, fun x => (len_cellsOf _).trans (h x), fun x => one_cellsOf _⟩
structure Arr (n : Nat) (α : Type) where
  l : List α
  h : l.length = n
deriving DecidableEq
theorem Arr.ext {n : Nat} {α : Type} {a b : Arr n α} (h : a.l = b.l) : a = b := by cases a; cases b; simp_all
def Arr.rep (n : Nat) {α : Type} (x : α) : Arr n α := ⟨List.replicate n x, by simp⟩
instance {n : Nat} {α : Type} [Inhabited α] : Inhabited (Arr n α) := ⟨Arr.rep n default⟩
def ix {α : Type} [Inhabited α] (l : List α) (i : Int) : α := l.getD i.toNat default
def Arr.get {n : Nat} {α : Type} [Inhabited α] (a : Arr n α) (i : Int) : α := ix a.l i
def Arr.set {n : Nat} {α : Type} (a : Arr n α) (i : Int) (x : α) : Arr n α := ⟨a.l.set i.toNat x, by simp [a.h]⟩
theorem len_flat {α : Type} (K : Kd α) (l : List α) : (l.flatMap K.enc).length = l.length * K.size := by
  induction l with
  | nil => simp
  | cons x l ih => simp [List.flatMap_cons, ih, K.len, Nat.add_mul]; omega
theorem one_flat {α : Type} (K : Kd α) (l : List α) : ∀ v ∈ l.flatMap K.enc, v.oneCell' = true := by
  intro v hv
  obtain ⟨x, _, hx⟩ := List.mem_flatMap.1 hv
  exact K.one x v hx
def kA (n : Nat) {α : Type} (K : Kd α) : Kd (Arr n α) := ⟨fun a => a.l.flatMap K.enc, n * K.size, fun a => by rw [len_flat, a.h], fun a => one_flat K a.l⟩

/-! ### 3. Cells at a place -/
def At (w : World) (b o : Nat) (cs : List Value) : Prop := ∀ j v, cs[j]? = some v → w.cell? ⟨b, o + j, none⟩ = some v
theorem At.fr {S : Nat → Prop} {w w' : World} {b o : Nat} {cs : List Value} (h : At w b o cs) (hf : Fr S w w') (hb : ¬ S b) : At w' b o cs := by
  intro j v hv
  have hc := h j v hv
  have hlt := block_lt_of_cell hc
  rw [← hc]
  exact World.cell?_of_block (hf.blk b hlt hb)
theorem At.gr {w w' : World} {b o : Nat} {cs : List Value} (h : At w b o cs) (hf : Gr w w') : At w' b o cs := h.fr hf (fun x => x)
theorem At.sub {w : World} {b o : Nat} {cs : List Value} (h : At w b o cs) {p : Nat} {m r : List Value} {q : List Value} (e : cs = q ++ (m ++ r)) (hp : q.length = p) : At w b (o + p) m := by
  intro j v hv
  have := h (p + j) v (by
    subst e
    subst hp
    rw [List.getElem?_append_right (by omega), Nat.add_sub_cancel_left]
    have hj : j < m.length := (List.getElem?_eq_some_iff.1 hv).1
    rw [List.getElem?_append_left hj]
    exact hv)
  rw [← Nat.add_assoc] at this
  exact this
theorem At.cast {w : World} {b o o' : Nat} {cs : List Value} (h : At w b o cs) (e : o = o') : At w b o' cs := e ▸ h
theorem flat_split {α : Type} (K : Kd α) [Inhabited α] (l : List α) (i : Nat) (hi : i < l.length) :
    l.flatMap K.enc = (l.take i).flatMap K.enc ++ (K.enc (l.getD i default) ++ (l.drop (i + 1)).flatMap K.enc) := by
  have h1 : l = l.take i ++ (l.getD i default :: l.drop (i + 1)) := by
    rw [List.getD_eq_getElem?_getD, List.getElem?_eq_getElem hi]
    simp
  conv => lhs; rw [h1]
  rw [List.flatMap_append, List.flatMap_cons]
theorem At.elem {α : Type} [Inhabited α] {K : Kd α} {w : World} {b o : Nat} {l : List α} (h : At w b o (l.flatMap K.enc)) {i : Int} (h0 : 0 ≤ i) (h1 : i < (l.length : Int)) :
    At w b (o + i.toNat * K.size) (K.enc (ix l i)) :=
  h.sub (flat_split K l i.toNat (by omega)) (by rw [len_flat, List.length_take, Nat.min_eq_left (by omega)])
theorem At.arr {n : Nat} {α : Type} [Inhabited α] {K : Kd α} {w : World} {b o : Nat} {a : Arr n α} (h : At w b o ((kA n K).enc a)) {i : Int} (h0 : 0 ≤ i) (h1 : i < (n : Int)) :
    At w b (o + i.toNat * K.size) (K.enc (a.get i)) := At.elem (l := a.l) h h0 (by rw [a.h]; exact h1)
/-- The segments from i on, m of them. -/
theorem At.segs {w : World} {b o : Nat} {ss : List Seg} (h : At w b o (cellsOf ss)) (i m : Nat) {p : Nat} (hp : sumN (ss.take i) = p) : At w b (o + p) (cellsOf ((ss.drop i).take m)) := by
  refine h.sub (q := cellsOf (ss.take i)) (r := cellsOf ((ss.drop i).drop m)) ?_ (by rw [len_cellsOf, hp])
  rw [← cellsOf_append, ← cellsOf_append, List.take_append_drop, List.take_append_drop]

/-- cs' is cs, but for x at place o. -/
structure Spl (cs : List Value) (o : Nat) (x cs' : List Value) : Prop where
  e : cs' = cs.take o ++ x ++ cs.drop (o + x.length)
  fit : o + x.length ≤ cs.length
theorem Spl.len {cs x cs' : List Value} {o : Nat} (h : Spl cs o x cs') : cs'.length = cs.length := by
  have := h.fit
  rw [h.e]
  simp
  omega
theorem Spl.whole {xs ys : List Value} (h : xs.length = ys.length) : Spl xs 0 ys ys := ⟨by simp [← h], by omega⟩
theorem Spl.mid {q m m' r : List Value} {o : Nat} (hq : q.length = o) (hm : m.length = m'.length) : Spl (q ++ (m ++ r)) o m' (q ++ (m' ++ r)) := by
  subst hq
  refine ⟨?_, by simp [hm]⟩
  rw [← hm]
  simp [List.take_append, List.drop_append]
theorem Spl.comp {q s s' r x : List Value} {o p : Nat} (hq : q.length = p) (h : Spl s o x s') : Spl (q ++ (s ++ r)) (p + o) x (q ++ (s' ++ r)) := by
  have hf := h.fit
  subst hq
  refine ⟨?_, by simp; omega⟩
  rw [h.e]
  have e1 : (q ++ (s ++ r)).take (q.length + o) = q ++ s.take o := by
    rw [List.take_append, List.take_of_length_le (by omega), Nat.add_sub_cancel_left, List.take_append, Nat.sub_eq_zero_of_le (show o ≤ s.length from by omega), List.take_zero, List.append_nil]
  have e2 : (q ++ (s ++ r)).drop (q.length + o + x.length) = s.drop (o + x.length) ++ r := by
    rw [List.drop_append, List.drop_of_length_le (by omega), List.nil_append, show q.length + o + x.length - q.length = o + x.length from by omega, List.drop_append, Nat.sub_eq_zero_of_le (show o + x.length ≤ s.length from by omega), List.drop_zero]
  rw [e1, e2]
  simp
/-- m segments from the i-th on are replaced by others of the same size. -/
theorem Spl.segs (ss : List Seg) (i m : Nat) (M : List Seg) {o : Nat} (ho : sumN (ss.take i) = o) (hm : sumN ((ss.drop i).take m) = sumN M) :
    Spl (cellsOf ss) o (cellsOf M) (cellsOf (ss.take i ++ (M ++ (ss.drop i).drop m))) := by
  have e : cellsOf ss = cellsOf (ss.take i) ++ (cellsOf ((ss.drop i).take m) ++ cellsOf ((ss.drop i).drop m)) := by
    rw [← cellsOf_append, ← cellsOf_append, List.take_append_drop, List.take_append_drop]
  rw [e, cellsOf_append, cellsOf_append]
  exact Spl.mid (by rw [len_cellsOf, ho]) (by rw [len_cellsOf, len_cellsOf, hm])
/-- Something within the i-th segment is replaced. -/
theorem Spl.seg_in (ss : List Seg) (i : Nat) (s' : Seg) {s : Seg} {o p : Nat} {x : List Value} (hs : ss[i]? = some s) (hp : sumN (ss.take i) = p) (h : Spl s.l o x s'.l) :
    Spl (cellsOf ss) (p + o) x (cellsOf (ss.take i ++ (s' :: ss.drop (i + 1)))) := by
  obtain ⟨hi, he⟩ := List.getElem?_eq_some_iff.1 hs
  have e : ss = ss.take i ++ (s :: ss.drop (i + 1)) := by
    conv => lhs; rw [← List.take_append_drop i ss]
    rw [List.drop_eq_getElem_cons hi, he]
  have e2 : cellsOf ss = cellsOf (ss.take i) ++ (s.l ++ cellsOf (ss.drop (i + 1))) := by
    conv => lhs; rw [e]
    rw [cellsOf_append, cellsOf]
  rw [e2, cellsOf_append, cellsOf]
  exact Spl.comp (by rw [len_cellsOf, hp]) h
theorem flat_set {α : Type} (K : Kd α) (l : List α) (i : Nat) (hi : i < l.length) (y : α) :
    (l.set i y).flatMap K.enc = (l.take i).flatMap K.enc ++ (K.enc y ++ (l.drop (i + 1)).flatMap K.enc) := by
  rw [List.set_eq_take_append_cons_drop, if_pos hi, List.flatMap_append, List.flatMap_cons]
theorem Spl.elem {α : Type} [Inhabited α] {K : Kd α} (l : List α) (i : Int) (y : α) {o : Nat} {x : List Value} (h0 : 0 ≤ i) (h1 : i < (l.length : Int)) (h : Spl (K.enc (ix l i)) o x (K.enc y)) :
    Spl (l.flatMap K.enc) (i.toNat * K.size + o) x ((l.set i.toNat y).flatMap K.enc) := by
  have hi : i.toNat < l.length := by omega
  rw [flat_split K l i.toNat hi, flat_set K l i.toNat hi y]
  exact Spl.comp (by rw [len_flat, List.length_take, Nat.min_eq_left (by omega)]) h
theorem Spl.arr {n : Nat} {α : Type} [Inhabited α] {K : Kd α} (a : Arr n α) (i : Int) (y : α) {o : Nat} {x : List Value} (h0 : 0 ≤ i) (h1 : i < (n : Int)) (h : Spl (K.enc (a.get i)) o x (K.enc y)) :
    Spl ((kA n K).enc a) (i.toNat * K.size + o) x ((kA n K).enc (a.set i y)) := Spl.elem a.l i y h0 (by rw [a.h]; exact h1) h

/-! ### 4. Blocks of the call's own -/
def Blk (w : World) (g : Nat) (T : TypeId) (ss : List Seg) : Prop := w.heap[g]? = some (.cells (cellsOf ss).toArray T (0, 0))
theorem Blk.lt {w : World} {g : Nat} {T : TypeId} {ss : List Seg} (h : Blk w g T ss) : g < w.heap.size := (Array.getElem?_eq_some_iff.1 h).1
theorem Blk.fr {S : Nat → Prop} {w w' : World} {g : Nat} {T : TypeId} {ss : List Seg} (h : Blk w g T ss) (hf : Fr S w w') (hs : ¬ S g) : Blk w' g T ss := (hf.blk g h.lt hs).trans h
theorem Blk.gr {w w' : World} {g : Nat} {T : TypeId} {ss : List Seg} (h : Blk w g T ss) (hf : Gr w w') : Blk w' g T ss := h.fr hf (fun x => x)
theorem Blk.ne {w : World} {g g' : Nat} {T : TypeId} {ss : List Seg} (h : Blk w g T ss) (hg : w.heap.size ≤ g') : g ≠ g' := by have := h.lt; omega
theorem Blk.at_ {w : World} {g : Nat} {T : TypeId} {ss : List Seg} (h : Blk w g T ss) : At w g 0 (cellsOf ss) := by
  intro j v hv
  rw [cell_of_row w g _ _ T (0, 0) h]
  simpa using hv
theorem Blk.segs {w : World} {g : Nat} {T : TypeId} {ss : List Seg} (h : Blk w g T ss) (i m : Nat) {p : Nat} (hp : sumN (ss.take i) = p) : At w g p (cellsOf ((ss.drop i).take m)) := (h.at_.segs i m hp).cast (Nat.zero_add p)
theorem Blk.seg {w : World} {g : Nat} {T : TypeId} {ss : List Seg} (h : Blk w g T ss) (i : Nat) {s : Seg} {p : Nat} (hs : ss[i]? = some s) (hp : sumN (ss.take i) = p) : At w g p s.l := by
  have h1 := h.segs i 1 hp
  obtain ⟨hi, he⟩ := List.getElem?_eq_some_iff.1 hs
  rw [List.drop_eq_getElem_cons hi, he] at h1
  simpa [cellsOf] using h1

/-! ### 5. Slices that are read; rows of the call's own -/
def sb : Value → Nat
  | .slice (some a) _ _ => a.block
  | _ => 0
def so : Value → Nat
  | .slice (some a) _ _ => a.off
  | _ => 0
def Rd {α : Type} (K : Kd α) (w : World) (v : Value) (l : List α) : Prop :=
  ∃ A c, v = .slice A l.length c ∧ l.length ≤ c ∧ (0 < l.length → ∃ b o, A = some ⟨b, o, none⟩ ∧ At w b o (l.flatMap K.enc))
theorem Rd.fr {α : Type} {K : Kd α} {S : Nat → Prop} {w w' : World} {v : Value} {l : List α} (h : Rd K w v l) (hf : Fr S w w') (hs : 0 < l.length → ¬ S (sb v)) : Rd K w' v l := by
  obtain ⟨A, c, rfl, hc, hr⟩ := h
  refine ⟨A, c, rfl, hc, fun hp => ?_⟩
  obtain ⟨b, o, rfl, ha⟩ := hr hp
  exact ⟨b, o, rfl, ha.fr hf (hs hp)⟩
theorem Rd.gr {α : Type} {K : Kd α} {w w' : World} {v : Value} {l : List α} (h : Rd K w v l) (hf : Gr w w') : Rd K w' v l := h.fr hf fun _ x => x
theorem Rd.val {α : Type} {K : Kd α} {w : World} {v : Value} {l : List α} (h : Rd K w v l) : ∃ A c, v = .slice A l.length c := by
  obtain ⟨A, c, e, _⟩ := h
  exact ⟨A, c, e⟩
theorem Rd.one {α : Type} {K : Kd α} {w : World} {v : Value} {l : List α} (h : Rd K w v l) : v.oneCell' = true := by
  obtain ⟨A, c, rfl, _⟩ := h
  rfl
theorem Rd.nil {α : Type} (K : Kd α) (w : World) : Rd K w (.slice none 0 0) [] := ⟨none, 0, rfl, Nat.le_refl _, fun h => by simp at h⟩
theorem Rd.elem {α : Type} [Inhabited α] {K : Kd α} {w : World} {v : Value} {l : List α} (h : Rd K w v l) {i : Int} (h0 : 0 ≤ i) (h1 : i < (l.length : Int)) : At w (sb v) (so v + i.toNat * K.size) (K.enc (ix l i)) := by
  obtain ⟨A, c, rfl, hc, hr⟩ := h
  obtain ⟨b, o, rfl, ha⟩ := hr (by omega)
  exact ha.elem h0 h1
def Own {α : Type} (K : Kd α) (E : TypeId) (w : World) (B : Nat) (v : Value) (l : List α) : Prop := w.ownsRow B E K.size v l.length (l.flatMap K.enc)
theorem Own.nil {α : Type} (K : Kd α) (E : TypeId) (w : World) (B : Nat) : Own K E w B (.slice none 0 0) [] := World.ownsRow_nil w B E K.size
theorem Own.rd {α : Type} {K : Kd α} {E : TypeId} {w : World} {B : Nat} {v : Value} {l : List α} (h : Own K E w B v l) : Rd K w v l := by
  rcases h.2 with ⟨rfl, h0⟩ | ⟨g, cap, cur, rfl, hb, hg, hn, hm, hs, ht⟩
  · have : l = [] := List.eq_nil_of_length_eq_zero h0
    subst this
    exact Rd.nil K w
  · refine ⟨_, cap, rfl, hn, fun _ => ⟨g, 0, rfl, fun j u hu => ?_⟩⟩
    have := World.ownsRow.cells (g := g) h rfl j u hu
    rwa [Addr.add_lit] at this
theorem Own.one {α : Type} {K : Kd α} {E : TypeId} {w : World} {B : Nat} {v : Value} {l : List α} (h : Own K E w B v l) : v.oneCell' = true := h.rd.one
theorem Own.fr {α : Type} {K : Kd α} {E : TypeId} {S : Nat → Prop} {w w' : World} {B : Nat} {v : Value} {l : List α} (h : Own K E w B v l) (hf : Fr S w w') (hs : ∀ k, v.ownBlock = some k → ¬ S k) : Own K E w' B v l := by
  refine ⟨h.1, ?_⟩
  rcases h.2 with hn | ⟨g, cap, cur, rfl, hb, hg, r⟩
  · exact .inl hn
  · exact .inr ⟨g, cap, cur, rfl, hb, (hf.blk g (Array.getElem?_eq_some_iff.1 hg).1 (hs g rfl)).trans hg, r⟩
theorem Own.gr {α : Type} {K : Kd α} {E : TypeId} {w w' : World} {B : Nat} {v : Value} {l : List α} (h : Own K E w B v l) (hf : Gr w w') : Own K E w' B v l := h.fr hf fun _ _ x => x
theorem Own.base {α : Type} {K : Kd α} {E : TypeId} {w : World} {B B' : Nat} {v : Value} {l : List α} (h : Own K E w B v l) (hb : B' ≤ B) : Own K E w B' v l := by
  refine ⟨h.1, ?_⟩
  rcases h.2 with hn | ⟨g, cap, cur, rfl, hb', r⟩
  · exact .inl hn
  · exact .inr ⟨g, cap, cur, rfl, Nat.le_trans hb hb', r⟩
theorem Own.ge {α : Type} {K : Kd α} {E : TypeId} {w : World} {B : Nat} {v : Value} {l : List α} (h : Own K E w B v l) {k : Nat} (hk : v.ownBlock = some k) : B ≤ k := (World.ownsRow.lt h k hk).1
theorem Own.lt {α : Type} {K : Kd α} {E : TypeId} {w : World} {B : Nat} {v : Value} {l : List α} (h : Own K E w B v l) {k : Nat} (hk : v.ownBlock = some k) : k < w.heap.size := (World.ownsRow.lt h k hk).2
/-- A block that is there, and a row that is not in it. -/
def Off (v : Value) (g : Nat) : Prop := v.ownBlock ≠ some g
theorem Off.nil (g : Nat) : Off (.slice none 0 0) g := by simp [Off, Value.ownBlock]
theorem Own.off_new {α : Type} {K : Kd α} {E : TypeId} {w : World} {B : Nat} {v : Value} {l : List α} (h : Own K E w B v l) {g : Nat} (hg : w.heap.size ≤ g) : Off v g := by
  intro e
  have := h.lt e
  omega
theorem Own.off_old {α : Type} {K : Kd α} {E : TypeId} {w : World} {B : Nat} {v : Value} {l : List α} (h : Own K E w B v l) {g : Nat} (hg : g < B) : Off v g := by
  intro e
  have := h.ge e
  omega
theorem Blk.off {w : World} {g : Nat} {T : TypeId} {ss : List Seg} (hb : Blk w g T ss) {α : Type} {K : Kd α} {E : TypeId} {w' : World} {v : Value} {l : List α} (h : Own K E w' w.heap.size v l) : Off v g := h.off_old hb.lt
theorem Own.wr {α : Type} {K : Kd α} {E : TypeId} {w w' : World} {B g : Nat} {v : Value} {l : List α} (h : Own K E w B v l) (hf : Fr (fun j => j = g) w w') (ho : Off v g) : Own K E w' B v l :=
  h.fr hf fun k hk e => ho (by rw [hk, e])
theorem Blk.wrO {w w' : World} {g : Nat} {T : TypeId} {ss : List Seg} {v : Value} (h : Blk w g T ss) (hf : Fr (fun j => some j = v.ownBlock) w w') (ho : Off v g) : Blk w' g T ss := h.fr hf fun e => ho e.symm
theorem Blk.wr {w w' : World} {g g' : Nat} {T : TypeId} {ss : List Seg} (h : Blk w g T ss) (hf : Fr (fun j => j = g') w w') (hn : g ≠ g') : Blk w' g T ss := h.fr hf hn
theorem Fr.wrO {S : Nat → Prop} {a b c : World} {v : Value} (h : Fr S a b) (k : Fr (fun j => some j = v.ownBlock) b c) (hg : ∀ g, v.ownBlock = some g → a.heap.size ≤ g) : Fr S a c :=
  h.trans k fun j hj hf => by have := hg j hf.symm; omega
end Go.Xw
