/- The words of the walks: rows made, appended to, copied into; conversions that make memory; results that lie in memory; arrays' elements. -/
import Derived.Test.YtklhbaghbmndeaaXOps2
set_option linter.unusedVariables false
set_option linter.unusedSimpArgs false
namespace Go.Xw
open Go

/-- The row of the table of a row's elements: zero, cells, bytes. -/
def elB (P : Program) (E : TypeId) : Option (Option Value × Nat × Nat) := (P.info? E).map fun i => (i.zero, i.size, i.bytes)
theorem elB_parts {P : Program} {E : TypeId} {z : Value} {s b : Nat} (h : elB P E = some (some z, s, b)) : ∃ i, P.info? E = some i ∧ i.zero = some z ∧ i.size = s ∧ i.bytes = b := by
  obtain ⟨i, hi, hzz⟩ := Option.map_eq_some_iff.1 h
  simp only [Prod.mk.injEq] at hzz
  exact ⟨i, hi, hzz.1, hzz.2.1, hzz.2.2⟩
def splL {α : Type} (L : List α) (q : Nat) (m : List α) : List α := L.take q ++ m ++ L.drop (q + m.length)
theorem splL_length {α : Type} (L : List α) (q : Nat) (m : List α) (h : q + m.length ≤ L.length) : (splL L q m).length = L.length := by
  simp [splL]
  omega
theorem oneCell_cells {v : Value} (h : v.oneCell' = true) : v.cells = #[v] := by cases v <;> simp_all [Value.oneCell', Value.cells]

section
variable {P : Program} {ρ : Env} {w : World} {o : Oper} {x y : Operand} {T E : TypeId}
/-- What becomes of a new row. -/
def NewR {α : Type} (K : Kd α) (E : TypeId) (B : Nat) (w : World) (l : List α) (v : Value) (w' : World) : Prop := Own K E w' B v l ∧ Gr w w' ∧ (∀ k, v.ownBlock = some k → w.heap.size ≤ k)
theorem madeCells_flat {α : Type} (K : Kd α) (z : α) (zc : Array Value) (h : zc = (K.enc z).toArray) (n : Nat) : (madeCells zc (n * K.size)).toList = (List.replicate n z).flatMap K.enc := by
  have hsz : zc.size = K.size := by rw [h]; simp [K.len]
  have key : ∀ n, (List.range (n * K.size)).map (fun i => zc[i % K.size]!) = (List.replicate n z).flatMap K.enc := by
    intro n
    induction n with
    | zero => simp
    | succ n ih =>
      rw [Nat.succ_mul, List.range_add, List.map_append, ih, List.replicate_succ', List.flatMap_append]
      congr 1
      rw [List.map_map]
      simp only [List.flatMap_cons, List.flatMap_nil, List.append_nil]
      apply List.ext_getElem (by simp [K.len])
      intro j h1 h2
      have hj : j < K.size := by simpa using h1
      have e : (n * K.size + j) % K.size = j := by rw [Nat.mul_comm, Nat.mul_add_mod]; exact Nat.mod_eq_of_lt hj
      have hj' : j < zc.size := by omega
      simp only [List.getElem_map, List.getElem_range, Function.comp, e]
      rw [getElem!_pos zc j hj']
      simp [h]
  have := key n
  simpa [madeCells, hsz] using this
theorem opv_make {α : Type} {K : Kd α} {z : α} {a b : Operand} {m : Int} {bs B : Nat} {zv : Value} (ho : o.op = .makeSlice T a b) (hT : P.underlying T = some (.slice E)) (hE : elB P E = some (some zv, K.size, bs)) (hz : zv.cells = (K.enc z).toArray)
    (ha : evO ρ a = .int .i64 m) (hb : evO ρ b = .int .i64 m) (h0 : 0 ≤ m) (h1 : m.toNat ≤ LIM) (hbs : Nat.ble bs 65536 = true) (hB : B ≤ w.heap.size) : OpV P o ρ w (NewR K E B w (List.replicate m.toNat z)) := by
  obtain ⟨i, hi, hiz, his, hib⟩ := elB_parts hE
  obtain ⟨k, rfl⟩ := Int.eq_ofNat_of_zero_le h0
  simp only [Int.toNat_natCast] at *
  unfold LIM at h1
  have hbs' : bs ≤ 65536 := Nat.le_of_ble_eq_true hbs
  have hby : i.bytes * k ≤ 281474976710656 := by
    rw [hib]
    calc bs * k ≤ 65536 * k := Nat.mul_le_mul_right _ hbs'
      _ ≤ 281474976710656 := by omega
  obtain ⟨w', hr, hown, hg⟩ := run_make_full (P := P) w w.heap.size T E i zv K.size hT hi hiz his .i64 .i64 k hby (by simp only [maxLen]; omega) (Nat.le_refl _)
  refine opv_val (w' := w') (v := .slice (some ⟨w.heap.size, 0, none⟩) k k) ?_ ?_
  · simp only [execOp, ho, ha, hb]
    simp [hr]
  · have hown' : Own K E w' w.heap.size (.slice (some ⟨w.heap.size, 0, none⟩) k k) (List.replicate k z) := by
      unfold Own
      rw [List.length_replicate, ← madeCells_flat K z zv.cells hz k]
      exact hown
    exact ⟨hown'.base hB, Fr.of_grown hg, fun q hq => by simp [Value.ownBlock] at hq; omega⟩

/-- What becomes of a row that is appended to. -/
def AppR {α : Type} (K : Kd α) (E : TypeId) (B : Nat) (w : World) (v : Value) (l : List α) (v' : Value) (w' : World) : Prop := Own K E w' B v' l ∧ Fr (fun j => some j = v.ownBlock) w w' ∧ (∀ g, g < w.heap.size → Off v g → Off v' g)
theorem run_append_empty {B size n c : Nat} (T ty E : TypeId) (i : TypeInfo) (hT : P.underlying T = some (.slice E)) (hi : P.info? E = some i) {v : Value} {A : Option Addr} {xs : List Value} (hown : w.ownsRow B E size v n xs) :
    (Builtin.append_ #[T, T] ty #[v, .slice A 0 c]).run P w = .ok v w := by
  have hl : ∀ (ad : Addr), (loadCells ad 0).run P w = .ok #[] w := fun ad => by simpa using run_loadCells_list (P := P) w ad [] (by simp)
  rcases hown.2 with ⟨rfl, rfl⟩ | ⟨g, cap, cur, rfl, _, _, hnc, _⟩
  · cases A <;> simp [Builtin.append_, run_underlying hT, sizeOf, typeInfo, hi, Builtin.lenOf, Builtin.firstCells, hl]
  · cases A <;> simp [Builtin.append_, run_underlying hT, sizeOf, typeInfo, hi, Builtin.lenOf, Builtin.firstCells, hnc, storeCells, hl]
theorem Own.append {α : Type} {K : Kd α} {B bs : Nat} {v u zv : Value} {L M : List α} (h : Own K E w B v L) (hr : Rd K w u M) (ty : TypeId) (hT : P.underlying T = some (.slice E)) (hE : elB P E = some (some zv, K.size, bs)) (hz : zv.cells.size = K.size) (hK : 0 < K.size)
    (hbs : Nat.ble bs 32768 = true) (hlim : L.length + M.length ≤ LIM) (hB : B ≤ w.heap.size) : ∃ v' w', (Builtin.append_ #[T, T] ty #[v, u]).run P w = .ok v' w' ∧ AppR K E B w v (L ++ M) v' w' := by
  obtain ⟨i, hi, hiz, his, hib⟩ := elB_parts hE
  obtain ⟨A, c, rfl, hc, hr⟩ := hr
  unfold LIM at hlim
  have hbs' : bs ≤ 32768 := Nat.le_of_ble_eq_true hbs
  rcases Nat.eq_zero_or_pos M.length with h0 | hp
  · have : M = [] := List.eq_nil_of_length_eq_zero h0
    subst this
    refine ⟨v, w, run_append_empty T ty E i hT hi h, by rw [List.append_nil]; exact h, Fr.refl _ _, fun _ _ x => x⟩
  · obtain ⟨b, q, rfl, ha⟩ := hr hp
    have hnews : ∀ j z, (M.flatMap K.enc)[j]? = some z → w.cell? ((⟨b, q, none⟩ : Addr).add j) = some z := fun j z hz => by rw [Addr.add_lit]; exact ha j z hz
    have hlM : (M.flatMap K.enc).length = M.length * K.size := len_flat K M
    have hbytes : (L.length + M.length) * bs ≤ 140737488355328 := by
      calc (L.length + M.length) * bs ≤ (L.length + M.length) * 32768 := Nat.mul_le_mul_left _ hbs'
        _ ≤ 140737488355328 := by omega
    obtain ⟨v', w', hrun, hown, hg, hnil⟩ := run_append_own (P := P) w B T ty E i zv K.size bs hT hi hiz his hib hz hK v L.length (L.flatMap K.enc) h ⟨b, q, none⟩ M.length c (M.flatMap K.enc) hlM hnews (one_flat K M) (by simp only [maxLen]; omega) hbytes hB
    refine ⟨v', w', hrun, ?_, Fr.of_grownBy hg, fun g hg' ho => ?_⟩
    · unfold Own
      rw [List.length_append, List.flatMap_append]
      exact hown
    · have hnew : v'.ownBlock = v.ownBlock ∨ v'.ownBlock = some w.heap.size := by
        rcases h.2 with ⟨rfl, hn0⟩ | ⟨g0, cap, cur, rfl, hbg, hgg, hnc, hcm, hcs, htake⟩
        · have := run_append_nil (P := P) w T ty E i zv hT hi hiz ⟨b, q, none⟩ M.length c (M.flatMap K.enc) (by rw [hlM, his]) hnews hp (by omega) (by rw [hib]; calc M.length * bs ≤ M.length * 32768 := Nat.mul_le_mul_left _ hbs'
              _ ≤ 281474976710656 := by omega)
          rw [hrun] at this
          obtain ⟨rfl, _⟩ := Result.ok.inj this
          exact .inr rfl
        · by_cases hroom : L.length + M.length ≤ cap
          · have hfit : L.length * i.size + (M.flatMap K.enc).length ≤ cur.size := by rw [hlM, hcs, his, ← Nat.add_mul]; exact Nat.mul_le_mul_right _ hroom
            have := run_append_room (P := P) w T ty E i hT hi g0 L.length cap cur hgg ⟨b, q, none⟩ M.length c (M.flatMap K.enc) (by rw [hlM, his]) hnews (one_flat K M) hroom hfit
            rw [hrun] at this
            obtain ⟨rfl, _⟩ := Result.ok.inj this
            exact .inl rfl
          · have holds : ∀ j u, (L.flatMap K.enc)[j]? = some u → w.cell? ((⟨g0, 0, none⟩ : Addr).add j) = some u := World.ownsRow.cells (g := g0) h rfl
            have := run_append_grow (P := P) w T ty E i zv hT hi hiz ⟨g0, 0, none⟩ L.length cap (L.flatMap K.enc) (by rw [len_flat, his]) holds ⟨b, q, none⟩ M.length c (M.flatMap K.enc) (by rw [hlM, his]) hnews (by omega) (by omega) (growslice_fits (by omega) (by rw [hib]; exact hbytes))
            rw [hrun] at this
            obtain ⟨rfl, _⟩ := Result.ok.inj this
            exact .inr rfl
      rcases hnew with e | e
      · unfold Off
        rw [e]
        exact ho
      · unfold Off
        rw [e]
        intro e2
        have := Option.some.inj e2
        omega
theorem opv_append {α : Type} {K : Kd α} {B bs : Nat} {v u zv : Value} {L M : List α} (ho : o.op = .call ⟨.builtin .append, #[x, y], #[T, T]⟩) (hT : P.underlying T = some (.slice E)) (hE : elB P E = some (some zv, K.size, bs)) (hz : zv.cells.size = K.size) (hK : Nat.blt 0 K.size = true)
    (hbs : Nat.ble bs 32768 = true) (hx : evO ρ x = v) (hy : evO ρ y = u) (h : Own K E w B v L) (hr : Rd K w u M) (hlim : L.length + M.length ≤ LIM) (hB : B ≤ w.heap.size) : OpV P o ρ w (AppR K E B w v (L ++ M)) := by
  obtain ⟨v', w', hrun, hR⟩ := h.append (P := P) (T := T) hr o.type hT hE hz (by simpa [Nat.blt_eq] using hK) hbs hlim hB
  exact opv_val (w' := w') (v := v') (by simp [execOp, ho, resolve, invoke, builtin, hx, hy, hrun]) hR

/-! ### Literals of slices whose elements are one cell -/
theorem fill_one (vals : List Value) (h1 : ∀ v ∈ vals, v.oneCell' = true) : ∀ (k : Nat) (cells : List Value), k + vals.length ≤ cells.length →
    Instr.fill (fun i => some (i * 1, 1)) cells.toArray ((vals.zipIdx k).map fun p => (p.2, p.1)) = some (cells.take k ++ vals ++ cells.drop (k + vals.length)).toArray := by
  induction vals with
  | nil => intro k cells h; simp [Instr.fill]
  | cons v vals ih =>
    intro k cells h
    have hv := oneCell_cells (h1 v (by simp))
    simp only [List.zipIdx_cons, List.map_cons, Instr.fill, hv]
    have hk : k < cells.length := by simp at h; omega
    rw [if_neg (by simp; omega)]
    have e : (Array.foldl (fun (cs : Array Value) (p : Value × Nat) => cs.setIfInBounds (k * 1 + p.2) p.1) cells.toArray (#[v].zipIdx)) = (cells.set k v).toArray := by
      simp [Array.zipIdx]
    have ih' := ih (fun u hu => h1 u (by simp [hu])) (k + 1) (cells.set k v) (by simp at h ⊢; omega)
    simp only [Nat.mul_one, Nat.add_zero] at *
    have e3 : (cells.set k v).take (k + 1) ++ vals ++ (cells.set k v).drop (k + 1 + vals.length) = cells.take k ++ v :: vals ++ cells.drop (k + (v :: vals).length) := by
      have e4 : (cells.take k ++ [v]).length = k + 1 := by simp; omega
      have e5 : cells.set k v = (cells.take k ++ [v]) ++ cells.drop (k + 1) := by rw [List.set_eq_take_append_cons_drop, if_pos hk]; simp
      have e6 : (cells.set k v).take (k + 1) = cells.take k ++ [v] := by rw [e5, ← e4, List.take_left]
      have e7 : (cells.set k v).drop (k + 1) = cells.drop (k + 1) := by rw [e5, ← e4, List.drop_left, e4]
      rw [← List.drop_drop, e6, e7, List.drop_drop, show k + (v :: vals).length = k + 1 + vals.length from by simp; omega]
      simp
    rw [← e3, ← ih']
    congr 1
def PL (ρ : Env) : Nat → List (Nat × Operand) → List Value → Prop
  | _, [], [] => True
  | k, p :: ps, v :: vs => p.1 = k ∧ evO ρ p.2 = v ∧ PL ρ (k + 1) ps vs
  | _, _, _ => False
theorem PL.eq {ρ : Env} : ∀ {k : Nat} {ps : List (Nat × Operand)} {vs : List Value} (_ : PL ρ k ps vs), (ps.map fun p => (p.1, evO ρ p.2)) = (vs.zipIdx k).map fun p => (p.2, p.1)
  | _, [], [], _ => rfl
  | k, p :: ps, v :: vs, h => by
    obtain ⟨h1, h2, h3⟩ := h
    simp only [List.map_cons, List.zipIdx_cons, h1, h2, PL.eq h3]
theorem opv_buildSlice {α : Type} {K : Kd α} {B m bs : Nat} {zv : Value} {xs : List α} {pl : List (Nat × Operand)} {vals : List Value} (ho : o.op = .buildSlice T m pl.toArray) (hT : P.underlying T = some (.slice E)) (hE : elB P E = some (some zv, 1, bs)) (hK : K.size = 1) (hz : zv.cells.size = 1)
    (hPL : PL ρ 0 pl vals) (hm : xs.length = m) (hv : vals = xs.flatMap K.enc) (hmm : Nat.ble m 4096 = true) (hB : B ≤ w.heap.size) : OpV P o ρ w (NewR K E B w xs) := by
  obtain ⟨i, hi, hiz, his, hib⟩ := elB_parts hE
  obtain ⟨parts, hparts⟩ : ∃ parts, parts = pl.toArray := ⟨_, rfl⟩
  rw [← hparts] at ho
  have hp : (parts.map fun p => (p.1, evO ρ p.2)).toList = (vals.zipIdx 0).map fun p => (p.2, p.1) := by rw [hparts, ← hPL.eq]; simp
  have hmm' : m ≤ 4096 := Nat.le_of_ble_eq_true hmm
  have hlen : vals.length = m := by rw [hv, len_flat, hK, hm, Nat.mul_one]
  have hone : ∀ u ∈ vals, u.oneCell' = true := by rw [hv]; exact one_flat K xs
  have hfill : ∀ c : Array Value, c.size = m → Instr.fill (fun i => some (i * 1, 1)) c (parts.map fun p => (p.1, evO ρ p.2)).toList = some vals.toArray := by
    intro c hc
    have := fill_one vals hone 0 c.toList (by simp [hlen, hc])
    rw [hp]
    simp only [Array.toArray_toList, List.take_zero, List.nil_append, Nat.zero_add] at this
    rw [this, hlen, List.drop_of_length_le (by simp [hc]), List.append_nil]
  refine opv_val (w' := w.alloc (.cells vals.toArray E)) (v := .slice (some ⟨w.heap.size, 0, none⟩) m m) ?_ ⟨⟨by rw [len_flat], .inr ⟨w.heap.size, m, vals.toArray, by rw [hm], hB, heap_alloc_new w _, by omega, by simp only [maxLen]; omega, by simp [hlen, hK], ?_⟩⟩, Fr.alloc w _, fun k hk => by simp [Value.ownBlock] at hk; omega⟩
  · have hfill' : ∀ c : Array Value, c.size = m → Instr.fill (fun i => some (i, 1)) c (List.map (fun p => (p.1, evO ρ p.2)) parts.toList) = some vals.toArray := fun c hc => by simpa using hfill c hc
    have hle : ¬ 16777216 < m := by omega
    simp only [execOp, ho]
    by_cases h0 : m = 0
    · subst h0
      simp [Instr.buildSlice, run_underlying hT, sizeOf, typeInfo, hi, his, newRow, hfill']
    · simp [Instr.buildSlice, run_underlying hT, sizeOf, typeInfo, hi, his, newRow, zeroValue, hiz, h0, hle, hfill']
  · show List.take (xs.length * K.size) vals = xs.flatMap K.enc
    rw [hv]
    exact List.take_of_length_le (Nat.le_of_eq (len_flat K xs))
end
end Go.Xw
