/- The words of the walks: slices cut, made, appended to, copied; strings. -/
import Derived.Test.YtklhbaghbmndeaaXOps
set_option linter.unusedVariables false
set_option linter.unusedSimpArgs false
namespace Go.Xw
open Go

/-! ### 1. Cuts -/
def subv (s : Nat) (v : Value) (lo hi : Nat) : Value := match v with
  | .slice a _ c => .slice (if c = lo then a else a.map (·.add (lo * s))) (hi - lo) (c - lo)
  | v => v
def cut {α : Type} (l : List α) (lo hi : Int) : List α := (l.take hi.toNat).drop lo.toNat
theorem cut_length {α : Type} (l : List α) {lo hi : Int} (h0 : 0 ≤ lo) (h1 : lo ≤ hi) (h2 : hi ≤ (l.length : Int)) : (cut l lo hi).length = hi.toNat - lo.toNat := by
  simp [cut]
  omega
theorem Rd.cut {α : Type} {K : Kd α} {w : World} {v : Value} {l : List α} (h : Rd K w v l) {lo hi : Int} (h0 : 0 ≤ lo) (h1 : lo ≤ hi) (h2 : hi ≤ (l.length : Int)) : Rd K w (subv K.size v lo.toNat hi.toNat) (Xw.cut l lo hi) := by
  obtain ⟨A, c, rfl, hc, hr⟩ := h
  have hl := cut_length l h0 h1 h2
  refine ⟨_, c - lo.toNat, by rw [hl]; rfl, by rw [hl]; omega, fun hp => ?_⟩
  obtain ⟨b, o, rfl, ha⟩ := hr (by omega)
  refine ⟨b, o + lo.toNat * K.size, ?_, ?_⟩
  · rw [if_neg (by omega)]
    simp [Addr.add_lit]
  · have e : l = l.take lo.toNat ++ (Xw.cut l lo hi ++ l.drop hi.toNat) := by
      have e1 : l.take hi.toNat = l.take lo.toNat ++ Xw.cut l lo hi := by
        unfold Xw.cut
        conv => lhs; rw [← List.take_append_drop lo.toNat (l.take hi.toNat)]
        rw [List.take_take, Nat.min_eq_left (by omega)]
      rw [← List.append_assoc, ← e1, List.take_append_drop]
    refine ha.sub (q := (l.take lo.toNat).flatMap K.enc) (r := (l.drop hi.toNat).flatMap K.enc) ?_ (by rw [len_flat, List.length_take, Nat.min_eq_left (by omega)])
    conv => lhs; rw [e]
    rw [List.flatMap_append, List.flatMap_append]
theorem sliceBound_ok {P : Program} {w : World} {k : IntKind} {i : Int} {y : Nat} {code : BoundsCode} (h0 : 0 ≤ i) (h1 : i ≤ (y : Int)) : (Instr.sliceBound (.int k i) y code).run P w = .ok i.toNat w := by
  simp [Instr.sliceBound, asIntOf, h0, h1]
section
variable {P : Program} {ρ : Env} {w : World} {o : Oper} {x a b : Operand} {T E : TypeId}
theorem xr_slice_n {α : Type} {K : Kd α} {l : List α} {v : Value} (ho : o.op = .slice T x none none none) (hT : P.underlying T = some (.slice E)) (hs : szB P E = some K.size) (hx : evO ρ x = v) (hr : Rd K w v l) :
    (execOp (evO ρ) o).run P w = .ok (.value (subv K.size v 0 l.length)) w := by
  unfold szB at hs
  obtain ⟨inf, hinf, he⟩ := Option.map_eq_some_iff.1 hs
  obtain ⟨A, c, rfl, hc, _⟩ := hr
  simp [execOp, ho, hx, Instr.sliceAt, Instr.slice, run_underlying hT, Instr.sliceBounds, sizeOf, typeInfo, hinf, he, subv]
theorem xr_slice_l {α : Type} {K : Kd α} {l : List α} {v : Value} {k : IntKind} {lo : Int} (ho : o.op = .slice T x (some a) none none) (hT : P.underlying T = some (.slice E)) (hs : szB P E = some K.size) (hx : evO ρ x = v) (hr : Rd K w v l)
    (ha : evO ρ a = .int k lo) (h0 : 0 ≤ lo) (h1 : lo ≤ (l.length : Int)) : (execOp (evO ρ) o).run P w = .ok (.value (subv K.size v lo.toNat l.length)) w := by
  unfold szB at hs
  obtain ⟨inf, hinf, he⟩ := Option.map_eq_some_iff.1 hs
  obtain ⟨A, c, rfl, hc, _⟩ := hr
  simp [execOp, ho, hx, ha, Instr.sliceAt, Instr.slice, run_underlying hT, Instr.sliceBounds, sizeOf, typeInfo, hinf, he, subv, sliceBound_ok h0 h1]
theorem xr_slice_h {α : Type} {K : Kd α} {l : List α} {v : Value} {k : IntKind} {hi : Int} (ho : o.op = .slice T x none (some b) none) (hT : P.underlying T = some (.slice E)) (hs : szB P E = some K.size) (hx : evO ρ x = v) (hr : Rd K w v l)
    (hb : evO ρ b = .int k hi) (h0 : 0 ≤ hi) (h1 : hi ≤ (l.length : Int)) : (execOp (evO ρ) o).run P w = .ok (.value (subv K.size v 0 hi.toNat)) w := by
  unfold szB at hs
  obtain ⟨inf, hinf, he⟩ := Option.map_eq_some_iff.1 hs
  obtain ⟨A, c, rfl, hc, _⟩ := hr
  have hc' : hi ≤ (c : Int) := by omega
  simp [execOp, ho, hx, hb, Instr.sliceAt, Instr.slice, run_underlying hT, Instr.sliceBounds, sizeOf, typeInfo, hinf, he, subv, sliceBound_ok h0 hc']
theorem xr_slice_lh {α : Type} {K : Kd α} {l : List α} {v : Value} {k k' : IntKind} {lo hi : Int} (ho : o.op = .slice T x (some a) (some b) none) (hT : P.underlying T = some (.slice E)) (hs : szB P E = some K.size) (hx : evO ρ x = v) (hr : Rd K w v l)
    (ha : evO ρ a = .int k lo) (hb : evO ρ b = .int k' hi) (h0 : 0 ≤ lo) (h1 : lo ≤ hi) (h2 : hi ≤ (l.length : Int)) : (execOp (evO ρ) o).run P w = .ok (.value (subv K.size v lo.toNat hi.toNat)) w := by
  unfold szB at hs
  obtain ⟨inf, hinf, he⟩ := Option.map_eq_some_iff.1 hs
  obtain ⟨A, c, rfl, hc, _⟩ := hr
  have hc' : hi ≤ (c : Int) := by omega
  have h0' : 0 ≤ hi := by omega
  have hlo : lo ≤ ((hi.toNat : Nat) : Int) := by omega
  simp [execOp, ho, hx, ha, hb, Instr.sliceAt, Instr.slice, run_underlying hT, Instr.sliceBounds, sizeOf, typeInfo, hinf, he, subv, sliceBound_ok h0' hc', sliceBound_ok h0 hlo]
theorem size_mk (l : List UInt8) : ByteArray.size ⟨l.toArray⟩ = l.length := by simp [ByteArray.size]
theorem extract_mk (l : List UInt8) (p q : Nat) : ByteArray.extract ⟨l.toArray⟩ p q = ⟨((l.take q).drop p).toArray⟩ := by
  apply ByteArray.ext
  rw [ByteArray.data_extract]
  apply Array.toList_inj.1
  simp [List.extract_eq_take_drop, List.drop_take]
theorem xr_str_l {l : List UInt8} {k : IntKind} {lo : Int} (ho : o.op = .slice T x (some a) none none) (hT : P.underlying T = some .string) (hx : evO ρ x = sv l) (ha : evO ρ a = .int k lo) (h0 : 0 ≤ lo) (h1 : lo ≤ (l.length : Int)) :
    (execOp (evO ρ) o).run P w = .ok (.value (sv (cut l lo l.length))) w := by
  have e := size_mk l
  have h1' : lo ≤ ((ByteArray.size ⟨l.toArray⟩ : Nat) : Int) := by rw [e]; exact h1
  simp [execOp, ho, hx, ha, Instr.sliceAt, Instr.slice, run_underlying hT, Instr.sliceBounds, sv, sliceBound_ok h0 h1', extract_mk, cut]
  rw [e, List.take_length]
theorem xr_str_h {l : List UInt8} {k : IntKind} {hi : Int} (ho : o.op = .slice T x none (some b) none) (hT : P.underlying T = some .string) (hx : evO ρ x = sv l) (hb : evO ρ b = .int k hi) (h0 : 0 ≤ hi) (h1 : hi ≤ (l.length : Int)) :
    (execOp (evO ρ) o).run P w = .ok (.value (sv (cut l 0 hi))) w := by
  have e := size_mk l
  have h1' : hi ≤ ((ByteArray.size ⟨l.toArray⟩ : Nat) : Int) := by rw [e]; exact h1
  simp [execOp, ho, hx, hb, Instr.sliceAt, Instr.slice, run_underlying hT, Instr.sliceBounds, sv, sliceBound_ok h0 h1', extract_mk, cut]
theorem xr_str_lh {l : List UInt8} {k k' : IntKind} {lo hi : Int} (ho : o.op = .slice T x (some a) (some b) none) (hT : P.underlying T = some .string) (hx : evO ρ x = sv l) (ha : evO ρ a = .int k lo) (hb : evO ρ b = .int k' hi) (h0 : 0 ≤ lo) (h1 : lo ≤ hi) (h2 : hi ≤ (l.length : Int)) :
    (execOp (evO ρ) o).run P w = .ok (.value (sv (cut l lo hi))) w := by
  have e := size_mk l
  have h0' : 0 ≤ hi := by omega
  have h1' : hi ≤ ((ByteArray.size ⟨l.toArray⟩ : Nat) : Int) := by rw [e]; exact h2
  have hlo : lo ≤ ((hi.toNat : Nat) : Int) := by omega
  simp [execOp, ho, hx, ha, hb, Instr.sliceAt, Instr.slice, run_underlying hT, Instr.sliceBounds, sv, sliceBound_ok h0' h1', sliceBound_ok h0 hlo, extract_mk, cut]
/-- An array's cells as a slice. -/
theorem xr_sliceArr {g p len : Nat} {s : Nat} (ho : o.op = .slice T x none none none) (hT : P.underlying T = some (.array len E)) (hs : szB P E = some s) (hx : evO ρ x = .pointer (some ⟨g, p, none⟩)) :
    (execOp (evO ρ) o).run P w = .ok (.value (.slice (some ⟨g, p, none⟩) len len)) w := by
  unfold szB at hs
  obtain ⟨inf, hinf, he⟩ := Option.map_eq_some_iff.1 hs
  simp [execOp, ho, hx, Instr.sliceAt, Instr.sureAddr, run_underlying hT, Instr.sliceBounds, sizeOf, typeInfo, hinf, Addr.add_lit]
theorem Rd.arr {n : Nat} {α : Type} {K : Kd α} {w : World} {g p : Nat} {t : Arr n α} (h : At w g p ((kA n K).enc t)) : Rd K w (.slice (some ⟨g, p, none⟩) n n) t.l :=
  ⟨_, n, by rw [t.h], by rw [t.h]; exact Nat.le_refl _, fun _ => ⟨g, p, rfl, h⟩⟩

/-! ### 2. Strings -/
theorem toList_mk (l : List UInt8) : ByteArray.toList ⟨l.toArray⟩ = l := by rw [ByteArray.toList_eq]
theorem mk_append (l m : List UInt8) : (⟨l.toArray⟩ ++ ⟨m.toArray⟩ : ByteArray) = ⟨(l ++ m).toArray⟩ := by
  apply ByteArray.ext
  simp
def LIM : Nat := 4294967296
theorem beq_dec (l m : List UInt8) : (l == m) = decide (l = m) := by
  by_cases h : l = m <;> simp [h]
theorem flat_kI (k : IntKind) (l : List Int) : l.flatMap (kI k).enc = l.map (Value.int k) := by
  induction l with
  | nil => rfl
  | cons z l ih => rw [List.flatMap_cons, ih]; rfl
theorem xr_addStr {l m : List UInt8} {T' : TypeId} (ho : o.op = .binOp .add T x a T') (hx : evO ρ x = sv l) (hy : evO ρ a = sv m) (hl : l.length + m.length ≤ LIM) : (execOp (evO ρ) o).run P w = .ok (.value (sv (l ++ m))) w := by
  unfold LIM at hl
  simp only [execOp, ho, hx, hy, eqGuard, binOp, sv, Op.stringOp]
  simp [mk_append]
  rw [size_mk, size_mk]
  omega
theorem xr_eqStr {l m : List UInt8} {T' : TypeId} (ho : o.op = .binOp .eql T x a T') (hT : P.underlying T = some .string) (hx : evO ρ x = sv l) (hy : evO ρ a = sv m) : (execOp (evO ρ) o).run P w = .ok (.value (.bool (decide (l = m)))) w := by
  simp only [execOp, ho, hx, hy, binOp, sv, Op.stringOp, toList_mk]
  simp [eqGuard, run_underlying hT, beq_dec]
theorem xr_neStr {l m : List UInt8} {T' : TypeId} (ho : o.op = .binOp .neq T x a T') (hT : P.underlying T = some .string) (hx : evO ρ x = sv l) (hy : evO ρ a = sv m) : (execOp (evO ρ) o).run P w = .ok (.value (.bool (!decide (l = m)))) w := by
  simp only [execOp, ho, hx, hy, binOp, sv, Op.stringOp, toList_mk]
  simp [eqGuard, run_underlying hT, beq_dec]
theorem xr_indexStr {l : List UInt8} {k : IntKind} {i : Int} (ho : o.op = .index T x a) (hT : P.underlying T = some .string) (hx : evO ρ x = sv l) (hy : evO ρ a = .int k i) (h0 : 0 ≤ i) (h1 : i < (l.length : Int)) :
    (execOp (evO ρ) o).run P w = .ok (.value (.int .u8 (ofB (l.getD i.toNat 0)))) w := by
  have hi : i.toNat < l.length := by omega
  have e : ((ByteArray.mk l.toArray)[i.toNat]? : Option UInt8) = some (l.getD i.toNat 0) := by
    have hs : i.toNat < (ByteArray.mk l.toArray).size := by rw [size_mk]; exact hi
    rw [getElem?_pos (ByteArray.mk l.toArray) i.toNat hs]
    simp only [List.getD_eq_getElem?_getD, List.getElem?_eq_getElem hi, Option.getD_some]
    rfl
  simp [execOp, ho, hx, hy, Instr.index, asIntOf, run_underlying hT, sv, h0, e, ofB]
theorem strOfNums_eq (xs : List Int) : strOfNums xs = ⟨(xs.map toB).toArray⟩ := by
  apply ByteArray.ext
  simp [strOfNums, toB]
theorem xr_toStr {v : Value} {l : List Int} {dT : TypeId} (ho : o.op = .convert T dT x) (hT : P.underlying T = some (.slice E)) (hE : P.underlying E = some (.int .u8)) (hD : P.underlying dT = some .string) (hx : evO ρ x = v) (hr : Rd (kI .u8) w v l) :
    (execOp (evO ρ) o).run P w = .ok (.value (sv (l.map toB))) w := by
  obtain ⟨A, c, rfl, hc, hr⟩ := hr
  have key : (convert T dT (.slice A l.length c)).run P w = .ok (sv (l.map toB)) w := by
    rcases Nat.eq_zero_or_pos l.length with h0 | hp
    · have : l = [] := List.eq_nil_of_length_eq_zero h0
      subst this
      cases A with
      | none => rw [run_convert_bytes_nil w T E hT hE _ _ dT hD]; rfl
      | some ad =>
        have hl : (loadCells ad 0).run P w = .ok #[] w := by simpa using run_loadCells_list (P := P) w ad [] (by simp)
        simp [convert, run_underlying hT, run_underlying hD, run_underlying hE, Conv.bytesToString, hl, sv]
        rfl
    · obtain ⟨b, q, rfl, ha⟩ := hr hp
      have := run_convert_bytes_arg (P := P) w T E hT hE b q l.length c l rfl (fun i hi => ha i _ (by
        rw [flat_kI, List.getElem?_map, List.getD_eq_getElem?_getD, List.getElem?_eq_getElem hi]
        rfl)) dT hD
      rw [this, strOfNums_eq]
      rfl
  simp [execOp, ho, hx, key]
end
end Go.Xw
