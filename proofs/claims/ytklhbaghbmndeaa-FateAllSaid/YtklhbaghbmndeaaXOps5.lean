/- The words of the walks: copies, rows of rows, comparisons of records, literals, elements of arrays, results that lie in memory. -/
import Derived.Test.YtklhbaghbmndeaaXOps4
set_option linter.unusedVariables false
set_option linter.unusedSimpArgs false
namespace Go.Xw
open Go

section
variable {P : Program} {ρ : Env} {w : World} {o : Oper} {x y : Operand} {T E : TypeId}
/-! ### 1. Copies -/
def CpyR {α : Type} (K : Kd α) (E : TypeId) (B : Nat) (v : Value) (w : World) (l : List α) (n : Nat) (u : Value) (w' : World) : Prop := u = .int .i64 (n : Int) ∧ Own K E w' B v l ∧ Fr (fun j => some j = v.ownBlock) w w'
theorem Spl.rows {α : Type} (K : Kd α) (L : List α) (q : Nat) (m : List α) (h : q + m.length ≤ L.length) : Spl (L.flatMap K.enc) (q * K.size) (m.flatMap K.enc) ((splL L q m).flatMap K.enc) := by
  have e : L = L.take q ++ ((L.drop q).take m.length ++ L.drop (q + m.length)) := by
    rw [← List.drop_drop, List.take_append_drop, List.take_append_drop]
  have e1 : L.flatMap K.enc = (L.take q).flatMap K.enc ++ (((L.drop q).take m.length).flatMap K.enc ++ (L.drop (q + m.length)).flatMap K.enc) := by
    conv => lhs; rw [e]
    rw [List.flatMap_append, List.flatMap_append]
  have e2 : (splL L q m).flatMap K.enc = (L.take q).flatMap K.enc ++ (m.flatMap K.enc ++ (L.drop (q + m.length)).flatMap K.enc) := by
    rw [splL, List.flatMap_append, List.flatMap_append, List.append_assoc]
  rw [e1, e2]
  exact Spl.mid (by rw [len_flat, List.length_take, Nat.min_eq_left (by omega)]) (by rw [len_flat, len_flat, List.length_take, List.length_drop, Nat.min_eq_left (by omega)])
theorem Own.spl {α : Type} {K : Kd α} {B g cap : Nat} {L L' : List α} {o : Nat} {xs : List Value} (h : Own K E w B (.slice (some ⟨g, 0, none⟩) L.length cap) L) (hl : L'.length = L.length) (hs : Spl (L.flatMap K.enc) o xs (L'.flatMap K.enc)) :
    ∃ cur, w.heap[g]? = some (.cells cur E (0, 0)) ∧ o + xs.length ≤ cur.size ∧ Own K E (w.setRow g (cur.toList.take o ++ xs ++ cur.toList.drop (o + xs.length)).toArray) B (.slice (some ⟨g, 0, none⟩) L.length cap) L' := by
  rcases h.2 with ⟨hx, _⟩ | ⟨g', cap', cur, hv, hb, hg, hn, hm, hcs, ht⟩
  · simp at hx
  · obtain ⟨rfl, rfl⟩ : g = g' ∧ cap = cap' := by simpa using hv
    refine ⟨cur, hg, ?_, ?_⟩
    · have h1 := hs.fit
      rw [len_flat] at h1
      have : L.length * K.size ≤ cur.size := by rw [hcs]; exact Nat.mul_le_mul_right _ hn
      omega
    · have hcur : cur.toList = L.flatMap K.enc ++ cur.toList.drop (L.length * K.size) := by
        rw [← ht, List.take_append_drop]
      have hsp2 : Spl (L.flatMap K.enc ++ cur.toList.drop (L.length * K.size)) o xs (L'.flatMap K.enc ++ cur.toList.drop (L.length * K.size)) := by
        have := Spl.comp (q := []) (r := cur.toList.drop (L.length * K.size)) (p := 0) rfl hs
        simpa using this
      rw [← hcur] at hsp2
      refine ⟨len_flat K _, .inr ⟨g, cap, _, by rw [hl], hb, setRow_heap w g _ _ E _ hg, by rw [hl]; exact hn, hm, ?_, ?_⟩⟩
      · rw [← hsp2.e, List.size_toArray, hsp2.len, Array.length_toList, hcs]
      · rw [← hsp2.e]
        have e : L'.length * K.size = (L'.flatMap K.enc).length := (len_flat K _).symm
        rw [e]
        simp
theorem Own.copy {α : Type} {K : Kd α} {B : Nat} {v u : Value} {L M : List α} (h : Own K E w B v L) (hr : Rd K w u M) (dT sT ty E' : TypeId) (hT : P.underlying dT = some (.slice E')) (hs : szB P E' = some 1) (hK : K.size = 1) {A : Option Addr} {dn dc q : Nat}
    (hq : q + dn ≤ L.length) (hA : 0 < dn → A = some ⟨sb v, q, none⟩) : ∃ w', (Builtin.copy_ #[dT, sT] ty #[.slice A dn dc, u]).run P w = .ok (.int .i64 ((Nat.min M.length dn : Nat) : Int)) w' ∧ Own K E w' B v (splL L q (M.take dn)) ∧ Fr (fun j => some j = v.ownBlock) w w' := by
  obtain ⟨Au, cu, rfl, hcu, hru⟩ := hr
  have hmin1 : Nat.min M.length dn ≤ M.length := Nat.min_le_left _ _
  have hmin2 : Nat.min M.length dn ≤ dn := Nat.min_le_right _ _
  have hmd : (M.take dn).length = Nat.min M.length dn := by rw [List.length_take, Nat.min_comm]
  rcases Nat.eq_zero_or_pos (Nat.min M.length dn) with h0 | hp
  · have hrun := run_copy_none (P := P) w dT sT ty E' A Au dn dc M.length cu hT hs h0
    refine ⟨w, by rw [h0]; exact hrun, ?_, Fr.refl _ _⟩
    have : M.take dn = [] := List.eq_nil_of_length_eq_zero (by rw [hmd]; exact h0)
    rw [this]
    simpa [splL] using h
  · obtain ⟨b, p, rfl, ha⟩ := hru (by omega)
    obtain rfl := hA (by omega)
    rcases h.2 with ⟨rfl, hn⟩ | ⟨g, cap, cur0, rfl, hb, hg0, _⟩
    · omega
    · have hlen : ((M.take dn).flatMap K.enc).length = Nat.min M.length dn := by rw [len_flat, hK, Nat.mul_one, hmd]
      have hsrc : ∀ j z, ((M.take dn).flatMap K.enc)[j]? = some z → w.cell? ((⟨b, p, none⟩ : Addr).add j) = some z := by
        intro j z hz
        rw [Addr.add_lit]
        refine ha j z ?_
        have e : M.flatMap K.enc = (M.take dn).flatMap K.enc ++ (M.drop dn).flatMap K.enc := by rw [← List.flatMap_append, List.take_append_drop]
        rw [e, List.getElem?_append_left (List.getElem?_eq_some_iff.1 hz).1]
        exact hz
      have hsp := Spl.rows K L q (M.take dn) (by omega)
      rw [hK, Nat.mul_one] at hsp
      obtain ⟨cur, hg, hfit, hown⟩ := h.spl (splL_length L q _ (by omega)) hsp
      have hrun := run_copy_row (P := P) w dT sT ty E' g q dn dc ⟨b, p, none⟩ M.length cu cur E ((M.take dn).flatMap K.enc) hT hs hg hlen hsrc hfit (one_flat K _)
      refine ⟨_, ?_, hown, (Fr.setRow g _).mono fun j hj => by subst hj; simp [Value.ownBlock]⟩
      rw [← hlen]
      exact hrun
theorem sb_of {α : Type} {K : Kd α} {B : Nat} {v : Value} {L : List α} (h : Own K E w B v L) : ∃ c, (v = .slice none 0 0 ∧ L = []) ∨ v = .slice (some ⟨sb v, 0, none⟩) L.length c := by
  rcases h.2 with ⟨rfl, hn⟩ | ⟨g, cap, cur, rfl, _⟩
  · exact ⟨0, .inl ⟨rfl, List.eq_nil_of_length_eq_zero hn⟩⟩
  · exact ⟨cap, .inr rfl⟩
theorem opv_copyRow {α : Type} {K : Kd α} {B : Nat} {v u : Value} {L M : List α} {dT sT : TypeId} {E' : TypeId} (ho : o.op = .call ⟨.builtin .copy, #[x, y], #[dT, sT]⟩) (hT : P.underlying dT = some (.slice E')) (hs : szB P E' = some 1) (hK : K.size = 1) (hx : evO ρ x = v) (hy : evO ρ y = u)
    (h : Own K E w B v L) (hr : Rd K w u M) : OpV P o ρ w (CpyR K E B v w (splL L 0 (M.take L.length)) (Nat.min M.length L.length)) := by
  obtain ⟨c, ⟨rfl, rfl⟩ | hv⟩ := sb_of h
  · obtain ⟨w', hrun, h2, h3⟩ := h.copy (P := P) hr dT sT o.type E' hT hs hK (A := none) (dn := 0) (dc := 0) (q := 0) (by simp) (by simp)
    exact opv_val (w' := w') (by simp [execOp, ho, resolve, invoke, builtin, hx, hy, hrun]) ⟨rfl, h2, h3⟩
  · obtain ⟨w', hrun, h2, h3⟩ := h.copy (P := P) hr dT sT o.type E' hT hs hK (A := some ⟨sb v, 0, none⟩) (dn := L.length) (dc := c) (q := 0) (by simp) (by simp)
    rw [← hv] at hrun
    exact opv_val (w' := w') (by simp [execOp, ho, resolve, invoke, builtin, hx, hy, hrun]) ⟨rfl, h2, h3⟩
theorem opv_copyCut {α : Type} {K : Kd α} {B : Nat} {v u : Value} {L M : List α} {lo hi s : Nat} {dT sT : TypeId} {E' : TypeId} (ho : o.op = .call ⟨.builtin .copy, #[x, y], #[dT, sT]⟩) (hT : P.underlying dT = some (.slice E')) (hs : szB P E' = some 1) (hK : K.size = 1) (hx : evO ρ x = subv s v lo hi) (hs1 : s = 1) (hy : evO ρ y = u)
    (h : Own K E w B v L) (hlo : lo ≤ hi) (hhi : hi ≤ L.length) (hr : Rd K w u M) : OpV P o ρ w (CpyR K E B v w (splL L lo (M.take (hi - lo))) (Nat.min M.length (hi - lo))) := by
  subst hs1
  obtain ⟨c, ⟨rfl, rfl⟩ | hv⟩ := sb_of h
  · have hh : hi = 0 := by simpa using hhi
    subst hh
    have hl : lo = 0 := by omega
    subst hl
    obtain ⟨w', hrun, h2, h3⟩ := h.copy (P := P) hr dT sT o.type E' hT hs hK (A := none) (dn := 0) (dc := 0) (q := 0) (by simp) (by simp)
    exact opv_val (w' := w') (by simp [execOp, ho, resolve, invoke, builtin, hx, hy, subv, hrun]) ⟨rfl, h2, h3⟩
  · have hsub : subv 1 v lo hi = .slice (if c = lo then some ⟨sb v, 0, none⟩ else some ⟨sb v, lo, none⟩) (hi - lo) (c - lo) := by
      rw [hv]
      simp only [subv, sb]
      congr 1
      split
      · rfl
      · simp [Addr.add_lit]
    have hLc : L.length ≤ c := by
      obtain ⟨A, c', e, hle, _⟩ := h.rd
      rw [hv] at e
      have : c = c' := (by simpa using e : some (⟨sb v, 0, none⟩ : Addr) = A ∧ c = c').2
      omega
    obtain ⟨w', hrun, h2, h3⟩ := h.copy (P := P) hr dT sT o.type E' hT hs hK (A := if c = lo then some ⟨sb v, 0, none⟩ else some ⟨sb v, lo, none⟩) (dn := hi - lo) (dc := c - lo) (q := lo) (by omega) (fun hp => by rw [if_neg (by omega)])
    rw [← hsub] at hrun
    exact opv_val (w' := w') (by simp [execOp, ho, resolve, invoke, builtin, hx, hy, hrun]) ⟨rfl, h2, h3⟩
def Arr.copy {n : Nat} {α : Type} (a : Arr n α) (m : List α) : Arr n α := ⟨splL a.l 0 (m.take n), by rw [splL_length _ _ _ (by rw [a.h]; simp; omega), a.h]⟩
theorem opv_copyArr {α : Type} {K : Kd α} {n g p : Nat} {a : Arr n α} {u : Value} {M : List α} {ss ss' : List Seg} {dT sT : TypeId} {E' : TypeId} {T : TypeId} (ho : o.op = .call ⟨.builtin .copy, #[x, y], #[dT, sT]⟩) (hT : P.underlying dT = some (.slice E')) (hs : szB P E' = some 1) (hK : K.size = 1)
    (hx : evO ρ x = .slice (some ⟨g, p, none⟩) n n) (hy : evO ρ y = u) (hb : Blk w g T ss) (i : Nat) (hi : ss[i]? = some (Kd.seg (kA n K) a)) (hp : sumN (ss.take i) = p) (hss : ss.take i ++ (Kd.seg (kA n K) (a.copy M) :: ss.drop (i + 1)) = ss') (hr : Rd K w u M) :
    OpV P o ρ w (fun z w' => z = .int .i64 ((Nat.min M.length n : Nat) : Int) ∧ Blk w' g T ss' ∧ Fr (fun j => j = g) w w') := by
  obtain ⟨Au, cu, rfl, hcu, hru⟩ := hr
  have hmd : (M.take n).length = Nat.min M.length n := by rw [List.length_take, Nat.min_comm]
  have hmin2 : Nat.min M.length n ≤ n := Nat.min_le_right _ _
  have hmin1 : Nat.min M.length n ≤ M.length := Nat.min_le_left _ _
  have hsp0 : Spl ((kA n K).enc a) 0 ((M.take n).flatMap K.enc) ((kA n K).enc (a.copy M)) := by
    have := Spl.rows K a.l 0 (M.take n) (by rw [a.h]; omega)
    rw [Nat.zero_mul] at this
    exact this
  have hsp := Spl.seg_in ss i (Kd.seg (kA n K) (a.copy M)) hi hp hsp0
  rw [hss, Nat.add_zero] at hsp
  have hlen : ((M.take n).flatMap K.enc).length = Nat.min M.length n := by rw [len_flat, hK, Nat.mul_one, hmd]
  rcases Nat.eq_zero_or_pos (Nat.min M.length n) with h0 | hpos
  · have hrun := run_copy_none (P := P) w dT sT o.type E' (some ⟨g, p, none⟩) Au n n M.length cu hT hs h0
    have hnil : (M.take n).flatMap K.enc = [] := List.eq_nil_of_length_eq_zero (by rw [hlen, h0])
    rw [hnil] at hsp
    have he : cellsOf ss' = cellsOf ss := by rw [hsp.e]; simp
    refine opv_val (w' := w) (v := .int .i64 ((Nat.min M.length n : Nat) : Int)) (by rw [h0]; simp [execOp, ho, resolve, invoke, builtin, hx, hy, hrun, goInt]) ⟨rfl, ?_, Fr.refl _ _⟩
    unfold Blk
    rw [he]
    exact hb
  · obtain ⟨b, q, rfl, ha⟩ := hru (by omega)
    have hsrc : ∀ j z, ((M.take n).flatMap K.enc)[j]? = some z → w.cell? ((⟨b, q, none⟩ : Addr).add j) = some z := by
      intro j z hz
      rw [Addr.add_lit]
      refine ha j z ?_
      have e : M.flatMap K.enc = (M.take n).flatMap K.enc ++ (M.drop n).flatMap K.enc := by rw [← List.flatMap_append, List.take_append_drop]
      rw [e, List.getElem?_append_left (List.getElem?_eq_some_iff.1 hz).1]
      exact hz
    have hrun := run_copy_row (P := P) w dT sT o.type E' g p n n ⟨b, q, none⟩ M.length cu (cellsOf ss).toArray T ((M.take n).flatMap K.enc) hT hs hb hlen hsrc (by simpa using hsp.fit) (one_flat K _)
    have e := hsp.e
    have hw := setRow_heap w g _ ((cellsOf ss).toArray.toList.take p ++ (M.take n).flatMap K.enc ++ (cellsOf ss).toArray.toList.drop (p + ((M.take n).flatMap K.enc).length)).toArray T _ hb
    have e2 : (cellsOf ss).toArray.toList.take p ++ (M.take n).flatMap K.enc ++ (cellsOf ss).toArray.toList.drop (p + ((M.take n).flatMap K.enc).length) = cellsOf ss' := e.symm
    rw [e2] at hrun hw
    rw [hlen] at hrun
    exact opv_val (w' := w.setRow g (cellsOf ss').toArray) (v := .int .i64 ((Nat.min M.length n : Nat) : Int)) (by simp [execOp, ho, resolve, invoke, builtin, hx, hy, hrun, goInt]) ⟨rfl, hw, Fr.setRow g _⟩
end
end Go.Xw
