/- The words of the walks: rows of rows, comparisons of records, literals, elements of arrays, results that lie in memory. -/
import Derived.Test.YtklhbaghbmndeaaXOps5
import Derived.Laws.IdiomStrings
set_option linter.unusedVariables false
set_option linter.unusedSimpArgs false
namespace Go.Xw
open Go

section
variable {P : Program} {ρ : Env} {w : World} {o : Oper} {x y : Operand} {T T' E : TypeId}
theorem run_eqB (d : Nat) (a b : Bool) (hT : P.underlying T = some .bool) : (Op.equalIn (d + 1) T (.bool a) (.bool b)).run P w = .ok (a == b) w := by
  simp [Op.equalIn, run_underlying hT]
theorem run_equalB (a b : Bool) (hT : P.underlying T = some .bool) : (Op.equal T (.bool a) (.bool b)).run P w = .ok (decide (a = b)) w := by
  have := run_eqB (P := P) (w := w) 9999 a b hT
  rw [show (decide (a = b)) = (a == b) from by cases a <;> cases b <;> rfl]
  exact this
theorem xr_eqB {a b : Bool} (ho : o.op = .binOp .eql T x y T') (hT : P.underlying T = some .bool) (hx : evO ρ x = .bool a) (hy : evO ρ y = .bool b) : (execOp (evO ρ) o).run P w = .ok (.value (.bool (decide (a = b)))) w := by
  simp only [execOp, ho, hx, hy, binOp]
  simp [eqGuard, run_equalB a b hT]
theorem xr_neB {a b : Bool} (ho : o.op = .binOp .neq T x y T') (hT : P.underlying T = some .bool) (hx : evO ρ x = .bool a) (hy : evO ρ y = .bool b) : (execOp (evO ρ) o).run P w = .ok (.value (.bool (!decide (a = b)))) w := by
  simp only [execOp, ho, hx, hy, binOp]
  simp [eqGuard, run_equalB a b hT]
theorem xr_max2 {k : IntKind} {a b : Int} {ts : Array TypeId} (ho : o.op = .call ⟨.builtin .max, #[x, y], ts⟩) (hx : evO ρ x = .int k a) (hy : evO ρ y = .int k b) : (execOp (evO ρ) o).run P w = .ok (.value (.int k (mxI a b))) w := by
  simp [execOp, ho, resolve, invoke, builtin, hx, hy, Builtin.max_, Builtin.max2, mxI]
def BL (ρ : Env) : List (Nat × Operand) → List (Nat × Value) → Prop
  | [], [] => True
  | p :: ps, v :: vs => p.1 = v.1 ∧ evO ρ p.2 = v.2 ∧ BL ρ ps vs
  | _, _ => False
theorem BL.eq {ρ : Env} : ∀ {ps : List (Nat × Operand)} {vs : List (Nat × Value)} (_ : BL ρ ps vs), (ps.map fun p => (p.1, evO ρ p.2)) = vs
  | [], [], _ => rfl
  | p :: ps, (i, v) :: vs, h => by
    obtain ⟨h1, h2, h3⟩ := h
    simp only at h1 h2
    simp only [List.map_cons, h1, h2, BL.eq h3]
theorem xr_build {t : TypeId} {pl : List (Nat × Operand)} {vals : List (Nat × Value)} {v : Value} (ho : o.op = .build t pl.toArray) (hp : BL ρ pl vals) (h : (Instr.build t vals.toArray).run P w = .ok v w) : (execOp (evO ρ) o).run P w = .ok (.value v) w := by
  have e : (pl.toArray.map fun p => (p.1, evO ρ p.2)) = vals.toArray := by rw [List.map_toArray, hp.eq]
  simp only [execOp, ho]
  simp [e, h]
theorem xr_indexArr1 {α : Type} [Inhabited α] {n s : Nat} {K : Kd α} {a : Arr n α} {v : Value} {k : IntKind} {i : Int} (ho : o.op = .index T x y) (hT : P.underlying T = some (.array n E)) (hg : aggB P E = some false) (hs : szB P E = some s)
    (hx : evO ρ x = aggV [Kd.seg (kA n K) a]) (hy : evO ρ y = .int k i) (hv : K.enc (a.get i) = [v]) (h0 : 0 ≤ i) (h1 : i < (n : Int)) (hK : K.size = s) : (execOp (evO ρ) o).run P w = .ok (.value v) w := by
  subst hK
  unfold aggB at hg
  unfold szB at hs
  obtain ⟨inf, hinf, he⟩ := Option.map_eq_some_iff.1 hs
  obtain ⟨d, hu, hd⟩ := Option.map_eq_some_iff.1 hg
  have hagg : (isAgg E).run P w = .ok false w := by
    unfold isAgg
    rw [Sem.run_bind, run_underlying hu w]
    cases d <;> simp_all
  have hi : i.toNat < a.l.length := by rw [a.h]; omega
  have hK : K.size = 1 := by have := K.len (a.get i); rw [hv] at this; simpa using this.symm
  have hcell : (cellsOf [Kd.seg (kA n K) a]).toArray[i.toNat * inf.size]? = some v := by
    have e : cellsOf [Kd.seg (kA n K) a] = a.l.flatMap K.enc := by simp [cellsOf, Kd.seg, kA]
    rw [e, flat_split K a.l i.toNat hi, he, hK]
    have hl : ((a.l.take i.toNat).flatMap K.enc).length = i.toNat := by rw [len_flat, hK, List.length_take, Nat.min_eq_left (by omega), Nat.mul_one]
    have hv' : K.enc (a.l.getD i.toNat default) = [v] := hv
    rw [hv']
    simp only [List.getElem?_toArray, Nat.mul_one]
    rw [List.getElem?_append_right (by omega), hl, Nat.sub_self]
    rfl
  unfold aggV at hx
  generalize (cellsOf [Kd.seg (kA n K) a]).toArray = cs at hx hcell
  simp [execOp, ho, hx, hy, Instr.index, asIntOf, run_underlying hT, h0, h1, sizeOf, typeInfo, hinf, part, hagg, hcell, aggV]
theorem xr_indexArrS {α : Type} [Inhabited α] {n s : Nat} {K : Kd α} {a : Arr n α} {ss : List Seg} {k : IntKind} {i : Int} (ho : o.op = .index T x y) (hT : P.underlying T = some (.array n E)) (hg : aggB P E = some true) (hs : szB P E = some s)
    (hx : evO ρ x = aggV [Kd.seg (kA n K) a]) (hy : evO ρ y = .int k i) (hv : K.enc (a.get i) = cellsOf ss) (h0 : 0 ≤ i) (h1 : i < (n : Int)) (hK : K.size = s) : (execOp (evO ρ) o).run P w = .ok (.value (aggV ss)) w := by
  subst hK
  unfold aggB at hg
  unfold szB at hs
  obtain ⟨inf, hinf, he⟩ := Option.map_eq_some_iff.1 hs
  obtain ⟨d, hu, hd⟩ := Option.map_eq_some_iff.1 hg
  have hagg : (isAgg E).run P w = .ok true w := by
    unfold isAgg
    rw [Sem.run_bind, run_underlying hu w]
    cases d <;> simp_all
  have hi : i.toNat < a.l.length := by rw [a.h]; omega
  have hlen : (cellsOf ss).length = K.size := by rw [← hv]; exact K.len _
  have hcell : (cellsOf [Kd.seg (kA n K) a]).toArray.extract (i.toNat * inf.size) (i.toNat * inf.size + inf.size) = (cellsOf ss).toArray := by
    have e : cellsOf [Kd.seg (kA n K) a] = a.l.flatMap K.enc := by simp [cellsOf, Kd.seg, kA]
    rw [e, flat_split K a.l i.toNat hi, he]
    have hl : ((a.l.take i.toNat).flatMap K.enc).length = i.toNat * K.size := by rw [len_flat, List.length_take, Nat.min_eq_left (by omega)]
    have hv' : K.enc (a.l.getD i.toNat default) = cellsOf ss := hv
    rw [hv']
    apply Array.toList_inj.1
    simp only [Array.toList_extract, List.toList_toArray, List.extract_eq_take_drop]
    rw [← hl, List.drop_left, Nat.add_sub_cancel_left, ← hlen, List.take_left]
  unfold aggV at hx
  generalize (cellsOf [Kd.seg (kA n K) a]).toArray = cs at hx hcell
  simp [execOp, ho, hx, hy, Instr.index, asIntOf, run_underlying hT, h0, h1, sizeOf, typeInfo, hinf, part, hagg, hcell, aggV]

/-! ### Rows of rows -/
abbrev V1 := { v : Value // v.oneCell' = true }
instance : Inhabited V1 := ⟨⟨.bool false, rfl⟩⟩
def kV : Kd V1 := ⟨fun v => [v.1], 1, fun _ => rfl, fun v u hu => by simp at hu; subst hu; exact v.2⟩
def Rds {α : Type} (K : Kd α) (w : World) (v : Value) (LL : List (List α)) : Prop := ∃ vs : List V1, Rd kV w v vs ∧ vs.length = LL.length ∧ ∀ j, j < LL.length → Rd K w (vs.getD j default).1 (LL.getD j [])
theorem Rds.gr {α : Type} {K : Kd α} {w w' : World} {v : Value} {LL : List (List α)} (h : Rds K w v LL) (hf : Gr w w') : Rds K w' v LL := by
  obtain ⟨vs, h1, h2, h3⟩ := h
  exact ⟨vs, h1.gr hf, h2, fun j hj => (h3 j hj).gr hf⟩
theorem Rds.one {α : Type} {K : Kd α} {w : World} {v : Value} {LL : List (List α)} (h : Rds K w v LL) : v.oneCell' = true := by
  obtain ⟨vs, h1, _⟩ := h
  exact h1.one
theorem xr_lenRs {α : Type} {K : Kd α} {LL : List (List α)} {v : Value} {w' : World} (ho : o.op = .call ⟨.builtin .len, #[x], #[T]⟩) (hT : P.underlying T = some (.slice E)) (hx : evO ρ x = v) (hr : Rds K w' v LL) : (execOp (evO ρ) o).run P w = .ok (.value (.int .i64 (LL.length : Int))) w := by
  obtain ⟨vs, h1, h2, _⟩ := hr
  rw [← h2]
  exact xr_lenR ho hT hx h1
theorem xr_indexRs {α : Type} {K : Kd α} {LL : List (List α)} {v : Value} {k : IntKind} {i : Int} (ho : o.op = .indexAddr T x y) (hT : P.underlying T = some (.slice E)) (hs : szB P E = some 1)
    (hx : evO ρ x = v) (hr : Rds K w v LL) (hy : evO ρ y = .int k i) (h0 : 0 ≤ i) (h1 : i < (LL.length : Int)) : (execOp (evO ρ) o).run P w = .ok (.value (.pointer (some ⟨sb v, so v + i.toNat * 1, none⟩))) w := by
  obtain ⟨vs, hv, h2, _⟩ := hr
  exact xr_indexR (K := kV) ho hT hs hx hv hy h0 (by rw [h2]; exact h1)
/-- An inner row. -/
def inner (w : World) (v : Value) (i : Int) : Value := (w.cell? ⟨sb v, so v + i.toNat * 1, none⟩).getD undef
theorem Rds.elem {α : Type} {K : Kd α} {LL : List (List α)} {v : Value} (h : Rds K w v LL) {i : Int} (h0 : 0 ≤ i) (h1 : i < (LL.length : Int)) : At w (sb v) (so v + i.toNat * 1) [inner w v i] ∧ Rd K w (inner w v i) (ix LL i) := by
  obtain ⟨vs, hv, h2, h3⟩ := h
  have hat := hv.elem h0 (by rw [h2]; exact h1)
  have hc := hat 0 _ rfl
  rw [Nat.add_zero] at hc
  have he : inner w v i = (ix vs i).1 := by
    unfold inner
    have : w.cell? ⟨sb v, so v + i.toNat * 1, none⟩ = some (ix vs i).1 := hc
    rw [this]
    rfl
  rw [he]
  exact ⟨hat, h3 i.toNat (by omega)⟩
theorem opv_build1 {α : Type} {K : Kd α} {L : List α} {bs : Nat} {zv v : Value} (ho : o.op = .buildSlice T 1 #[(0, x)]) (hT : P.underlying T = some (.slice E)) (hE : elB P E = some (some zv, 1, bs)) (hz : zv.cells.size = 1)
    (hr : Rd K w v L) (hx : evO ρ x = v) : OpV P o ρ w (fun u w' => Rds K w' u [L] ∧ Gr w w') := by
  have h := opv_buildSlice (P := P) (ρ := ρ) (w := w) (K := kV) (B := 0) (xs := [(⟨v, hr.one⟩ : V1)]) (vals := [v]) ho hT hE rfl hz ⟨rfl, hx, trivial⟩ rfl rfl rfl (Nat.zero_le _)
  refine h.mono ?_
  rintro u w' ⟨hown, hgr, _⟩
  refine ⟨⟨[⟨v, hr.one⟩], hown.rd, rfl, fun j hj => ?_⟩, hgr⟩
  have : j = 0 := by simp at hj; exact hj
  subst this
  exact hr.gr hgr

/-! ### []byte(s) -/
theorem opv_toBytes {s : List UInt8} {E : TypeId} (ho : o.op = .convert T T' x) (hs : P.underlying T = some .string) (hd : P.underlying T' = some (.slice E)) (he : P.underlying E = some (.int .u8)) (hx : evO ρ x = sv s) :
    OpV P o ρ w (fun v w' => Rd (kI .u8) w' v (s.map ofB) ∧ Gr w w') := by
  have hrun := run_bytes_of_string (P := P) w T T' E ⟨s.toArray⟩ hs hd he
  rw [size_mk] at hrun
  refine opv_val (w' := _) (by simp only [execOp, ho, hx, sv]; rw [Sem.run_bind, hrun]; rfl) ⟨⟨_, grownCap w s.length 0 E, by rw [List.length_map], ?_, fun _ => ⟨w.heap.size, 0, rfl, ?_⟩⟩, ?_⟩
  · rw [List.length_map]
    exact grownCap_ge w s.length 0 E
  · intro j v hj
    rw [flat_kI, List.map_map] at hj
    have hjl : j < s.length := by
      have := (List.getElem?_eq_some_iff.1 hj).1
      simpa using this
    rw [Nat.zero_add, cell_of_row _ w.heap.size j _ E _ (heap_alloc_new w.drew _)]
    rw [List.getElem?_map, List.getElem?_eq_getElem hjl] at hj
    simp only [bytesRow]
    rw [Array.getElem?_append_left (by simpa using hjl)]
    have hj' : Value.int .u8 (s[j].toNat : Int) = v := by simpa [ofB] using hj
    simpa [List.getElem?_eq_getElem hjl] using hj'
  · exact ⟨rfl, rfl, rfl, by simp, fun k hk _ => heap_alloc_old w.drew _ hk⟩

/-! ### Results that lie in memory -/
theorem loadVar_blk {g : Nat} {ss : List Seg} (hT : aggB P T = some true) (hs : szB P T = some (sumN ss)) (hb : Blk w g T' ss) : (loadVar T ⟨g, 0, none⟩).run P w = .ok (aggV ss) w := by
  unfold aggB at hT
  unfold szB at hs
  obtain ⟨inf, hinf, he⟩ := Option.map_eq_some_iff.1 hs
  obtain ⟨d, hu, hd⟩ := Option.map_eq_some_iff.1 hT
  have hagg : (isAgg T).run P w = .ok true w := by
    unfold isAgg
    rw [Sem.run_bind, run_underlying hu w]
    cases d <;> simp_all
  have hl := run_loadCells_list (P := P) w ⟨g, 0, none⟩ (cellsOf ss) (fun j v hv => by rw [Addr.add_lit]; exact hb.at_ j v hv)
  rw [len_cellsOf] at hl
  simp [loadVar, hagg, sizeOf, typeInfo, hinf, he, hl, aggV]
theorem fin_cell {fn : Func} {R : Ending → World → Prop} {ρ : Env} {w : World} {p g : Nat} {ss : List Seg} (hr : fn.results = #[.cell p T]) (h1 : ρ p = .pointer (some ⟨g, 0, none⟩)) (hT : aggB P T = some true) {s : Nat} (hs0 : szB P T = some s) (hb : Blk w g T ss) (he : s = sumN ss) (h : R (.returned (aggV ss)) w) : fin P fn R .ret ρ w :=
  have hs : szB P T = some (sumN ss) := he ▸ hs0
  ⟨.inl rfl, fun tmps ht => ⟨aggV ss, by
    have e1 := ht p
    rw [h1, Array.getD_eq_getD_getElem?] at e1
    simp [results, hr, e1, asAddr, loadVar_blk hT hs hb], h⟩⟩
theorem fin_cell_tmp {fn : Func} {R : Ending → World → Prop} {ρ : Env} {w : World} {p q g : Nat} {ss : List Seg} {v : Value} (hr : fn.results = #[.cell p T, .tmp q]) (h1 : ρ p = .pointer (some ⟨g, 0, none⟩)) (hT : aggB P T = some true) {s : Nat} (hs0 : szB P T = some s) (hb : Blk w g T ss) (he : s = sumN ss) (h2 : ρ q = v) (h : R (.returned (.tuple #[aggV ss, v])) w) : fin P fn R .ret ρ w :=
  have hs : szB P T = some (sumN ss) := he ▸ hs0
  ⟨.inl rfl, fun tmps ht => ⟨.tuple #[aggV ss, v], by
    have e1 := ht p
    have e2 := ht q
    rw [h1, Array.getD_eq_getD_getElem?] at e1
    rw [h2, Array.getD_eq_getD_getElem?] at e2
    simp [results, hr, e1, e2, asAddr, loadVar_blk hT hs hb], h⟩⟩
end
end Go.Xw
