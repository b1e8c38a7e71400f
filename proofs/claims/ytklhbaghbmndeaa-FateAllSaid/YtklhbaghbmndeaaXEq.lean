/- The words of the walks: records and arrays compared. -/
import Derived.Test.YtklhbaghbmndeaaXOps8
import Derived.DeepKeys
import Derived.Laws.StructEq
set_option linter.unusedVariables false
set_option linter.unusedSimpArgs false
namespace Go.Xw
open Go
variable {P : Program}
theorem aggV_seg {α : Type} (K : Kd α) (x : α) : aggV [K.seg x] = .agg (K.enc x).toArray := by simp [aggV, cellsOf, Kd.seg]
def EqK {α : Type} [DecidableEq α] (P : Program) (T : TypeId) (K : Kd α) (m : Nat) : Prop :=
  ∀ (d : Nat) (w : World) (xs ys : Array Value) (o : Nat) (a b : α), (xs.toList.drop o).take K.size = K.enc a → (ys.toList.drop o).take K.size = K.enc b →
    ∃ u v, (part T xs o).run P w = .ok u w ∧ (part T ys o).run P w = .ok v w ∧ (Op.equalIn (d + m) T u v).run P w = .ok (decide (a = b)) w
def EqA {α : Type} [DecidableEq α] (P : Program) (T : TypeId) (K : Kd α) (m : Nat) : Prop :=
  ∀ (d : Nat) (w : World) (a b : α), (Op.equalIn (d + m) T (.agg (K.enc a).toArray) (.agg (K.enc b).toArray)).run P w = .ok (decide (a = b)) w
theorem run_isAggB {T : TypeId} {b : Bool} (h : aggB P T = some b) (w : World) : (isAgg T).run P w = .ok b w := by
  unfold aggB at h
  obtain ⟨d, hu, hd⟩ := Option.map_eq_some_iff.1 h
  unfold isAgg
  rw [Sem.run_bind, run_underlying hu w]
  cases d <;> simp_all
theorem run_part1 {T : TypeId} (h : aggB P T = some false) {xs : Array Value} {o c : Nat} {v : Value} (hc : (xs.toList.drop o).take c = [v]) (w : World) : (part T xs o).run P w = .ok v w := by
  have := getElem?_of_chunk hc
  unfold part
  rw [Sem.run_bind, run_isAggB h w]
  simp [this]
theorem eqk_int {T : TypeId} {k : IntKind} (ht : P.underlying T = some (.int k)) : EqK P T (kI k) 1 := by
  intro d w xs ys o a b ha hb
  have hg : aggB P T = some false := by unfold aggB; rw [ht]; rfl
  refine ⟨_, _, run_part1 hg ha w, run_part1 hg hb w, ?_⟩
  rw [run_equalIn_int w d T k k a b ht]
  congr 1
theorem eqk_bool {T : TypeId} (ht : P.underlying T = some .bool) : EqK P T kB 1 := by
  intro d w xs ys o a b ha hb
  have hg : aggB P T = some false := by unfold aggB; rw [ht]; rfl
  refine ⟨_, _, run_part1 hg ha w, run_part1 hg hb w, ?_⟩
  rw [run_equalIn_bool' w d T a b ht]
  congr 1
theorem eqk_str {T : TypeId} (ht : P.underlying T = some .string) : EqK P T kS 1 := by
  intro d w xs ys o a b ha hb
  have hg : aggB P T = some false := by unfold aggB; rw [ht]; rfl
  refine ⟨_, _, run_part1 hg ha w, run_part1 hg hb w, ?_⟩
  show (Op.equalIn (d + 1) T (.string ⟨a.toArray⟩) (.string ⟨b.toArray⟩)).run P w = _
  rw [run_equalIn_string w d T _ _ ht, ByteArray.toList_eq, ByteArray.toList_eq]
  congr 1
  show (a == b) = decide (a = b)
  rw [Bool.eq_iff_iff]
  simp
theorem eqk_of {α : Type} [DecidableEq α] {T : TypeId} {K : Kd α} {m s : Nat} (hg : aggB P T = some true) (hs : szB P T = some s) (hK : s = K.size) (h : EqA P T K m) : EqK P T K m := by
  intro d w xs ys o a b ha hb
  subst hK
  unfold szB at hs
  obtain ⟨inf, hinf, he⟩ := Option.map_eq_some_iff.1 hs
  have hp : ∀ (zs : Array Value) (c : α), (zs.toList.drop o).take K.size = K.enc c → (part T zs o).run P w = .ok (.agg (K.enc c).toArray) w := by
    intro zs c hc
    unfold part
    rw [Sem.run_bind, run_isAggB hg w]
    have hx : zs.extract o (o + inf.size) = (K.enc c).toArray := by
      apply Array.ext'
      rw [Array.toList_extract, ← hc, he]
      simp [List.extract]
    simp [sizeOf, typeInfo, hinf, hx]
  exact ⟨_, _, hp xs a ha, hp ys b hb, h d w a b⟩
theorem eqi {α : Type} [DecidableEq α] {e : TypeId} {K : Kd α} {m : Nat} (h : EqK P e K m) (hc : P.cellsOf e = K.size) (d : Nat) (w : World) (xs ys : Array Value) : ∀ (la lb : List α) (s : Nat), la.length = lb.length → xs.toList.drop (s * K.size) = la.flatMap K.enc → ys.toList.drop (s * K.size) = lb.flatMap K.enc →
    (Op.eqItems (d + m) e (P.cellsOf e) xs ys (List.range' s la.length)).run P w = .ok (decide (la = lb)) w
  | [], [], s, _, _, _ => by simp [Op.eqItems]
  | [], _ :: _, s, h, _, _ => by simp at h
  | _ :: _, [], s, h, _, _ => by simp at h
  | a :: la, b :: lb, s, hl, ha, hb => by
    have hn : ∀ (zs : Array Value) (c : α) (l : List α), zs.toList.drop (s * K.size) = (c :: l).flatMap K.enc → (zs.toList.drop (s * K.size)).take K.size = K.enc c ∧ zs.toList.drop ((s + 1) * K.size) = l.flatMap K.enc := by
      intro zs c l hz
      have hk : (K.enc c).length = K.size := K.len c
      rw [List.flatMap_cons] at hz
      refine ⟨by rw [hz, List.take_left' hk], ?_⟩
      rw [Nat.succ_mul, ← List.drop_drop, hz, List.drop_left' hk]
    obtain ⟨a1, a2⟩ := hn xs a la ha
    obtain ⟨b1, b2⟩ := hn ys b lb hb
    obtain ⟨u, v, p1, p2, p3⟩ := h d w xs ys (s * K.size) a b a1 b1
    have ih := eqi h hc d w xs ys la lb (s + 1) (by simpa using hl) a2 b2
    rw [List.length_cons, List.range'_succ]
    simp only [Op.eqItems, Sem.run_bind, hc, p1, p2, p3, Result.andThen_ok]
    rw [hc] at ih
    by_cases hab : a = b
    · simp [hab, ih]
    · simp [hab]
instance {n : Nat} {α : Type} [DecidableEq α] (a b : Arr n α) : Decidable (a.l = b.l) := inferInstance
theorem eqa_arr {α : Type} [DecidableEq α] {T e : TypeId} {n m : Nat} {K : Kd α} {i : TypeInfo} (ht : P.underlying T = some (.array n e)) (hi : P.info? e = some i) (hc : P.cellsOf e = K.size) (h : EqK P e K m) : EqA P T (kA n K) (m + 1) := by
  intro d w a b
  have e1 := run_equalIn_array (P := P) w (d + m) ((kA n K).enc a).toArray ((kA n K).enc b).toArray ht hi
  rw [show d + (m + 1) = d + m + 1 from rfl, e1, List.range_eq_range']
  have := eqi h hc d w ((kA n K).enc a).toArray ((kA n K).enc b).toArray a.l b.l 0 (by rw [a.h, b.h]) (by simp [kA]) (by simp [kA])
  rw [a.h] at this
  rw [this]
  congr 1
  apply decide_eq_decide.2
  exact ⟨Arr.ext, fun h => by rw [h]⟩
theorem info_of {T : TypeId} {s : Nat} (h : szB P T = some s) : ∃ i, P.info? T = some i := by
  unfold szB at h
  obtain ⟨i, hi, _⟩ := Option.map_eq_some_iff.1 h
  exact ⟨i, hi⟩
theorem cells_of {T : TypeId} {s : Nat} (h : szB P T = some s) : P.cellsOf T = s := by
  unfold szB at h
  unfold Program.cellsOf
  rw [h]
  rfl
theorem eqa_arr' {α : Type} [DecidableEq α] {T e : TypeId} {n m s : Nat} {K : Kd α} (ht : P.underlying T = some (.array n e)) (hs : szB P e = some s) (hK : s = K.size) (h : EqK P e K m) : EqA P T (kA n K) (m + 1) := by
  obtain ⟨i, hi⟩ := info_of hs
  exact eqa_arr ht hi ((cells_of hs).trans hK) h
/-! ### Structs, field by field -/
def EqF (P : Program) (d : Nat) (w : World) (xs ys : Array Value) (fs : List Field) (r : Bool) : Prop := (Op.eqFields d xs ys fs).run P w = .ok r w
theorem eqf_nil {d : Nat} {w : World} {xs ys : Array Value} : EqF P d w xs ys [] true := by simp [EqF, Op.eqFields]
theorem eqf_cons {d : Nat} {w : World} {xs ys : Array Value} {f : Field} {fs : List Field} {b r : Bool} (hn : (f.name == "_") = false) (hk : ∃ u v, (part f.type xs f.offset).run P w = .ok u w ∧ (part f.type ys f.offset).run P w = .ok v w ∧ (Op.equalIn d f.type u v).run P w = .ok b w) (hr : EqF P d w xs ys fs r) : EqF P d w xs ys (f :: fs) (b && r) := by
  obtain ⟨u, v, p1, p2, p3⟩ := hk
  unfold EqF at hr ⊢
  have hn' : f.name ≠ "_" := by
    intro e
    rw [e] at hn
    simp at hn
  simp only [Op.eqFields, hn', ne_eq, not_false_eq_true, if_true, Sem.run_bind, p1, p2, p3, Result.andThen_ok]
  cases b
  · simp
  · simpa using hr
theorem chunk_segs (ss : List Seg) (i m : Nat) {o n : Nat} (ho : sumN (ss.take i) = o) (hn : sumN ((ss.drop i).take m) = n) : ((cellsOf ss).drop o).take n = cellsOf ((ss.drop i).take m) := by
  have e : cellsOf ss = cellsOf (ss.take i) ++ (cellsOf ((ss.drop i).take m) ++ cellsOf ((ss.drop i).drop m)) := by
    rw [← cellsOf_append, List.take_append_drop, ← cellsOf_append, List.take_append_drop]
  rw [e, List.drop_left' (by rw [len_cellsOf, ho]), List.take_left' (by rw [len_cellsOf, hn])]
theorem eqa_struct {α : Type} [DecidableEq α] {T : TypeId} {fs : Array Field} {K : Kd α} {m : Nat} (ht : P.underlying T = some (.struct fs)) (hp : P.stoodInHeld T = false) (h : ∀ (d : Nat) (w : World) (a b : α), EqF P (d + m) w (K.enc a).toArray (K.enc b).toArray fs.toList (decide (a = b))) : EqA P T K (m + 1) := by
  intro d w a b
  have hf : P.fieldsOf T = fs := by unfold Program.fieldsOf; rw [ht]
  rw [show d + (m + 1) = d + m + 1 from rfl, run_equalIn_struct w (d + m) T _ _ (by rw [hf]; exact ht) hp, hf]
  exact h d w a b
theorem xr_eqA {α : Type} [DecidableEq α] {T T' : TypeId} {K : Kd α} {m : Nat} {ρ : Env} {w : World} {o : Oper} {x y : Operand} {a b : α} {va vb : Value} (ho : o.op = .binOp .eql T x y T') (h : EqA P T K m) (hm : Nat.ble m 10000 = true) (hq : P.eqGuardType P.depth T = false) (hx : evO ρ x = va) (hy : evO ρ y = vb) (ha : va = .agg (K.enc a).toArray) (hb : vb = .agg (K.enc b).toArray) : (execOp (evO ρ) o).run P w = .ok (.value (.bool (decide (a = b)))) w := by
  subst ha hb
  have h1 := h (10000 - m) w a b
  rw [show 10000 - m + m = 10000 from by have := Nat.le_of_ble_eq_true hm; omega] at h1
  simp only [execOp, ho, hx, hy]
  simp [run_eqGuard_agg w .eql T x y _ _ hq, run_eql_struct, h1]
theorem xr_neA {α : Type} [DecidableEq α] {T T' : TypeId} {K : Kd α} {m : Nat} {ρ : Env} {w : World} {o : Oper} {x y : Operand} {a b : α} {va vb : Value} (ho : o.op = .binOp .neq T x y T') (h : EqA P T K m) (hm : Nat.ble m 10000 = true) (hq : P.eqGuardType P.depth T = false) (hx : evO ρ x = va) (hy : evO ρ y = vb) (ha : va = .agg (K.enc a).toArray) (hb : vb = .agg (K.enc b).toArray) : (execOp (evO ρ) o).run P w = .ok (.value (.bool (!decide (a = b)))) w := by
  subst ha hb
  have h1 := h (10000 - m) w a b
  rw [show 10000 - m + m = 10000 from by have := Nat.le_of_ble_eq_true hm; omega] at h1
  simp only [execOp, ho, hx, hy]
  simp [run_eqGuard_agg w .neq T x y _ _ hq, run_neq_struct, h1]
end Go.Xw
