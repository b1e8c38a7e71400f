/- RootLays: texts merged, part 8 of 8. The last part proves that the law RootLays holds for every input. -/
import Derived.Test.YtklhbaghbmndeaaPkRootLays7
set_option maxRecDepth 100000
set_option maxHeartbeats 4000000
set_option linter.unusedVariables false
set_option linter.unusedSimpArgs false
namespace Go.Proofs.Ytklhbaghbmndeaa.Pure
open Go Go.Xw
theorem fates_none {d : Dev} (h : ∀ p : Nat, p < d.cells.length → openC (ix d.cells (p : Int)) = false) : fatesD d = [] := by
  have : ∀ j, j ≤ d.cells.length → fatesU d j = [] := by
    intro j
    induction j with
    | zero => intro _; simp [fatesU]
    | succ j ih =>
      intro hj
      rw [fatesU_succ, ih (by omega), h j (by omega)]
      rfl
  exact this _ (Nat.le_refl _)
def CellP (Φ : Int → Prop) (c : Cell) : Prop := Φ c.lasts ∧ Φ c.stored ∧ (c.flushed = true → Φ c.sent)
theorem CellP.mono {Φ Ψ : Int → Prop} {c : Cell} (h : CellP Φ c) (hi : ∀ x, Φ x → Ψ x) : CellP Ψ c := ⟨hi _ h.1, hi _ h.2.1, fun e => hi _ (h.2.2 e)⟩
def cellA (d : Dev) (i : Nat) : Cell := ix d.cells (i : Int)
def Evic (R : Cell → Prop) : Prop := ∀ c, R c → R (keepC c c.stored)
theorem at_tick {R : Cell → Prop} {d : Dev} {i : Nat} (he : Evic R) (hi : i < d.cells.length) (h : R (cellA d i)) : R (cellA (tick d) i) := by
  show R (ix (evict (pick d.plan) d.cells) (i : Int))
  unfold evict
  rw [ix_mapIdx hi]
  split
  · exact he _ h
  · exact h
theorem tick_len (d : Dev) : (tick d).cells.length = d.cells.length := evict_len _ _
theorem store_len (d : Dev) (k w : Int) : (storeD d k w).2.cells.length = d.cells.length := by
  unfold storeD
  split
  · rw [tick_len]
    simp [withC, putC]
  · rfl
theorem flush_len (d : Dev) (k : Int) : (flushD d k).2.cells.length = d.cells.length := by
  unfold flushD
  split
  · rw [tick_len]
    simp [withC, sendL]
  · rfl
theorem fence_len (d : Dev) : (fenceD d).2.cells.length = d.cells.length := by
  unfold fenceD
  split
  · rfl
  · rw [tick_len]
    simp [withC]
theorem put_len : ∀ (ws : List Int) (d : Dev) (k : Int), (putAll d k ws).2.cells.length = d.cells.length
  | [], d, k => rfl
  | w :: ws, d, k => by
    unfold putAll
    split
    · rw [put_len ws, store_len]
    · exact store_len d k w
theorem send_len (d : Dev) (line first : Int) (ws : List Int) : (sendD d line first ws).2.cells.length = d.cells.length := by
  unfold sendD
  split
  · rw [flush_len, put_len]
  · exact put_len _ _ _
theorem at_store {R : Cell → Prop} {d : Dev} {i : Nat} {k w : Int} (he : Evic R) (hi : i < d.cells.length) (h : R (cellA d i)) (hk : k ≠ (i : Int)) : R (cellA (storeD d k w).2 i) := by
  unfold storeD
  split
  · refine at_tick he (by simpa [withC, putC] using hi) ?_
    show R (ix (putC k w d.cells) (i : Int))
    unfold putC
    rw [ix_mapIdx hi, if_neg fun q => hk q.symm]
    exact h
  · exact h
theorem at_put {R : Cell → Prop} (he : Evic R) {i : Nat} : ∀ {ws : List Int} {d : Dev} {k : Int}, i < d.cells.length → R (cellA d i) → ¬ (k ≤ (i : Int) ∧ (i : Int) < k + (ws.length : Int)) → R (cellA (putAll d k ws).2 i)
  | [], d, k, hi, h, _ => h
  | w :: ws, d, k, hi, h, hk => by
    simp only [List.length_cons] at hk
    have h1 := at_store (k := k) (w := w) he hi h (by omega)
    unfold putAll
    split
    · exact at_put he (by rw [store_len]; exact hi) h1 (by omega)
    · exact h1
theorem flush_zero {d : Dev} {k : Int} (h : (flushD d k).1 = 0) : d.off = false ∧ 0 ≤ k ∧ k < ((d.cells.length / 8 : Nat) : Int) := by
  unfold flushD at h
  split at h
  · rename_i e
    exact may_zero.1 e
  · exact may_zero.1 h
theorem fence_zero {d : Dev} (h : (fenceD d).1 = 0) : d.off = false := by
  unfold fenceD at h
  split at h
  · exact absurd (show (3 : Int) = 0 from h) (by decide)
  · rename_i e
    simpa using e
theorem send_zero {d : Dev} {line first : Int} {ws : List Int} (h : (sendD d line first ws).1 = 0) : (putAll d (8 * line + first) ws).1 = 0 ∧ (flushD (putAll d (8 * line + first) ws).2 line).1 = 0 ∧ (sendD d line first ws).2 = (flushD (putAll d (8 * line + first) ws).2 line).2 := by
  unfold sendD at h ⊢
  by_cases e : (putAll d (8 * line + first) ws).1 = 0
  · rw [if_pos e] at h
    rw [if_pos e]
    exact ⟨e, h, rfl⟩
  · rw [if_neg e] at h
    exact absurd h e
def Un (d : Dev) : Prop := d.armed = false ∧ d.off = false
theorem un_tick {d : Dev} (h : Un d) : Un (tick d) := ⟨h.1, by show (if d.armed = true then decide (d.left - 1 = 0) else d.off) = false; rw [h.1]; exact h.2⟩
theorem un_store {d : Dev} {k w : Int} (h : Un d) (h0 : 0 ≤ k) (h1 : k < (d.cells.length : Int)) : (storeD d k w).1 = 0 ∧ Un (storeD d k w).2 ∧ (storeD d k w).2.steps = d.steps + 1 := by
  unfold storeD
  rw [if_pos (may_zero.2 ⟨h.2, h0, h1⟩)]
  exact ⟨rfl, un_tick (d := withC d _) h, rfl⟩
theorem un_flush {d : Dev} {k : Int} (h : Un d) (h0 : 0 ≤ k) (h1 : k < ((d.cells.length / 8 : Nat) : Int)) : (flushD d k).1 = 0 ∧ Un (flushD d k).2 ∧ (flushD d k).2.steps = d.steps + 1 := by
  unfold flushD
  rw [if_pos (may_zero.2 ⟨h.2, h0, h1⟩)]
  exact ⟨rfl, un_tick (d := withC d _) h, rfl⟩
theorem un_fence {d : Dev} (h : Un d) : (fenceD d).1 = 0 ∧ Un (fenceD d).2 ∧ (fenceD d).2.steps = d.steps + 1 := by
  unfold fenceD
  rw [if_neg (by rw [h.2]; decide)]
  exact ⟨rfl, un_tick (d := withC d _) h, rfl⟩
theorem un_put : ∀ {ws : List Int} {d : Dev} {k : Int}, Un d → 0 ≤ k → k + (ws.length : Int) ≤ (d.cells.length : Int) → (putAll d k ws).1 = 0 ∧ Un (putAll d k ws).2 ∧ (putAll d k ws).2.steps = d.steps + (ws.length : Int)
  | [], d, k, h, _, _ => ⟨rfl, h, by simp [putAll]⟩
  | w :: ws, d, k, h, h0, h1 => by
    simp only [List.length_cons] at h1
    obtain ⟨a1, a2, a3⟩ := un_store (w := w) h h0 (show k < (d.cells.length : Int) by omega)
    obtain ⟨b1, b2, b3⟩ := un_put (ws := ws) (k := k + 1) a2 (by omega) (by rw [store_len]; omega)
    unfold putAll
    rw [if_pos a1]
    exact ⟨b1, b2, by rw [b3, a3]; simp only [List.length_cons]; omega⟩
theorem un_send {d : Dev} {line first : Int} {ws : List Int} (h : Un d) (hl : inL d line) (hf : 0 ≤ first ∧ first + (ws.length : Int) ≤ 8) : (sendD d line first ws).1 = 0 ∧ Un (sendD d line first ws).2 ∧ (sendD d line first ws).2.steps = d.steps + (ws.length : Int) + 1 := by
  unfold inL at hl
  obtain ⟨a1, a2, a3⟩ := un_put (ws := ws) (k := 8 * line + first) h (by omega) (by omega)
  obtain ⟨b1, b2, b3⟩ := un_flush (k := line) a2 hl.1 (by rw [put_len]; exact hl.2)
  unfold sendD
  rw [if_pos a1]
  exact ⟨b1, b2, by rw [b3, a3]⟩
end Go.Proofs.Ytklhbaghbmndeaa.Pure
namespace Go.Proofs.Ytklhbaghbmndeaa
open Go Go.Xw
end Go.Proofs.Ytklhbaghbmndeaa
namespace Go.Proofs.Ytklhbaghbmndeaa.Pure
open Go Go.Xw
theorem Bytes.app {a b : List Int} (ha : Bytes a) (hb : Bytes b) : Bytes (a ++ b) := by
  intro x hx
  rcases List.mem_append.1 hx with h | h
  · exact ha x h
  · exact hb x h
theorem Bytes.rep (n : Nat) : Bytes (List.replicate n (0 : Int)) := by
  intro x hx
  obtain rfl := List.eq_of_mem_replicate hx
  omega
def summed (k t : Int) (body : List Int) : List Int := [k, t, 0, 0] ++ (body ++ List.replicate (56 - body.length) 0)
def sealed (s : List Int) : List Int := lay (crc s).toNat 4 ++ s
theorem summed_len {k t : Int} {body : List Int} (h : body.length ≤ 56) : (summed k t body).length = 60 := by
  simp [summed]
  omega
theorem summed_bytes {k t : Int} {body : List Int} (hk : 0 ≤ k ∧ k ≤ 255) (ht : 0 ≤ t ∧ t ≤ 255) (hb : Bytes body) : Bytes (summed k t body) := by
  refine Bytes.app ?_ (Bytes.app hb (Bytes.rep _))
  intro x hx
  simp only [List.mem_cons, List.not_mem_nil, or_false] at hx
  rcases hx with rfl | rfl | rfl | rfl <;> omega
theorem sealed_len {s : List Int} (h : s.length = 60) : (sealed s).length = 64 := by
  simp [sealed, lay_len, h]
theorem sealed_bytes {s : List Int} (h : Bytes s) : Bytes (sealed s) := Bytes.app (lay_bytes _ _) h
theorem x2_eq (k t : Int) : List.set (List.set (List.replicate (Int.toNat 64) (0 : Int)) (Int.toNat 4) k) (Int.toNat 5) t = [0, 0, 0, 0, k, t, 0, 0] ++ List.replicate 56 (0 : Int) := rfl
theorem x3_eq {k t : Int} {body : List Int} (h : body.length ≤ 56) : splL ([0, 0, 0, 0, k, t, 0, 0] ++ List.replicate 56 (0 : Int)) (Int.toNat 8) (List.take (List.length ([0, 0, 0, 0, k, t, 0, 0] ++ List.replicate 56 (0 : Int)) - Int.toNat 8) body) = [0, 0, 0, 0] ++ summed k t body := by
  have e : List.take (List.length ([0, 0, 0, 0, k, t, 0, 0] ++ List.replicate 56 (0 : Int)) - Int.toNat 8) body = body := List.take_of_length_le (by simpa using h)
  rw [e]
  have e2 : List.drop (8 + body.length) ([0, 0, 0, 0, k, t, 0, 0] ++ List.replicate 56 (0 : Int)) = List.replicate (56 - body.length) 0 := by
    have h8 : ([0, 0, 0, 0, k, t, 0, 0] : List Int).length = 8 := rfl
    rw [List.drop_append, List.drop_eq_nil_of_le (by rw [h8]; omega), List.nil_append, h8, List.drop_replicate]
    congr 1
    omega
  unfold splL summed
  rw [show (Int.toNat 8) = 8 from rfl, e2]
  simp
theorem lay4_eq {fu : Nat} (x : BitVec 32) (hf : 8 < fu) : octet_Lay.f fu (IntKind.u64.wrap (I32 x)) 4 = some (lay x.toNat 4) := by
  have hb := I32_lt x
  rw [wu64 hb.1 (by omega)]
  exact olay_eq (n := 4) (by decide) (by omega)
theorem rlay4_eq {fu : Nat} (x : BitVec 32) (hf : 8 < fu) : rickyardref01_Lay.f fu (IntKind.u64.wrap (I32 x)) 4 = some ((lay x.toNat 4).map toB) := by
  have hb := I32_lt x
  rw [wu64 hb.1 (by omega)]
  exact rlay_eq (n := 4) (by have := x.isLt; omega) (by decide) (by omega)
theorem seal_eq {fu : Nat} {k t : Int} {body : List Int} (hb : Bytes body) (hk : 1 ≤ k ∧ k ≤ 255) (ht : 0 ≤ t ∧ t ≤ 255) (hl : body.length ≤ 56) (hf : 100 < fu) : block_Seal.f fu k t body = some (sealed (summed k t body), true) := by
  have hs := summed_len (k := k) (t := t) hl
  have hsb := summed_bytes ⟨by omega, hk.2⟩ ht hb
  unfold block_Seal.f
  rw [wu8 (by omega : 0 ≤ k) hk.2, wu8 ht.1 ht.2]
  have c0 : (if (decide (k < 1)) = true then true else (if (decide (k ≥ 256)) = true then true else (if (decide (t < 0)) = true then true else (if (decide (t ≥ 256)) = true then true else (decide ((List.length body : Int) > 56)))))) = false := by
    have h1 : ¬ k < 1 := by omega
    have h2 : ¬ k ≥ 256 := by omega
    have h3 : ¬ t < 0 := by omega
    have h4 : ¬ t ≥ 256 := by omega
    have h5 : ¬ (List.length body : Int) > 56 := by omega
    simp [h1, h2, h3, h4, h5]
  rw [c0]
  simp only [x2_eq, x3_eq hl]
  have e1 : cut ([0, 0, 0, 0] ++ summed k t body) 4 (List.length ([0, 0, 0, 0] ++ summed k t body) : Int) = summed k t body := by
    unfold cut
    rw [Int.toNat_natCast, List.take_length]
    rfl
  have e2 : ∀ v, splL ([0, 0, 0, 0] ++ summed k t body) 0 (List.take (List.length ([0, 0, 0, 0] ++ summed k t body)) (lay v 4)) = lay v 4 ++ summed k t body := by
    intro v
    rw [List.take_of_length_le (by simp [lay_len])]
    unfold splL
    simp [lay_len]
  simp only [e1, e2, sum_eq (fu := fu) hsb (by omega) (by omega), Option.bind_some, lay4_eq (fu := fu) _ (by omega)]
  simp [hs, sealed]
theorem fill_eq {fu : Nat} {body : List Int} (hl : body.length ≤ 56) : rickyardref07_Fill.f fu (body.map toB) 56 = some ((body ++ List.replicate (56 - body.length) 0).map toB) := by
  unfold rickyardref07_Fill.f
  have e1 : mxI (IntKind.i64.wrap (56 - (List.length (body.map toB) : Int))) 0 = ((56 - body.length : Nat) : Int) := by
    rw [List.length_map, w64 (by omega) (by omega)]
    unfold mxI
    split <;> omega
  have hL : (100 : Nat) ≤ LIM := by decide
  rw [e1, Int.toNat_natCast, if_pos ⟨by omega, by omega⟩, if_pos (by simp only [List.length_map, List.length_replicate]; omega), List.map_append]
theorem rseal_eq {fu : Nat} {k t : Int} {body : List Int} (hb : Bytes body) (hk : 0 ≤ k ∧ k ≤ 255) (ht : 0 ≤ t ∧ t ≤ 255) (hl : body.length ≤ 56) (hf : 100 < fu) : rickyardref07_Seal.f fu k t (body.map toB) = some ((sealed (summed k t body)).map toB) := by
  have hs := summed_len (k := k) (t := t) hl
  have hsb := summed_bytes hk ht hb
  unfold rickyardref07_Seal.f
  rw [wu8 hk.1 hk.2, wu8 ht.1 ht.2]
  have e1 : List.map toB [k, t, 0, 0] ++ List.map toB (body ++ List.replicate (56 - body.length) 0) = (summed k t body).map toB := by
    rw [← List.map_append]
    rfl
  have hL : (100 : Nat) ≤ LIM := by decide
  have e2 : List.length (List.map toB [k, t, 0, 0]) + List.length (List.map toB (body ++ List.replicate (56 - body.length) 0)) ≤ LIM := by
    simp
    omega
  simp only [fill_eq (fu := fu) hl, Option.bind_some, e1, of_toB hsb, rsum_eq (fu := fu) hsb (by omega) (by omega), rlay4_eq (fu := fu) _ (by omega : 8 < fu)]
  rw [if_pos e2, if_pos (by simp [lay_len, hs]; omega)]
  simp [sealed]
def Is (b : List Int) : Prop := b.length = 64 ∧ ix b 4 ≠ 0 ∧ b = sealed (summed (ix b 4) (ix b 5) (b.drop 8))
instance (b : List Int) : Decidable (Is b) := inferInstanceAs (Decidable (_ ∧ _))
theorem parts {b : List Int} (h : b.length = 64) : b = b.take 4 ++ ([ix b 4, ix b 5, ix b 6, ix b 7] ++ b.drop 8) := by
  have e : b.drop 4 = [ix b 4, ix b 5, ix b 6, ix b 7] ++ b.drop 8 := by
    have g : ∀ j : Nat, j < 64 → b.drop j = ix b (j : Int) :: b.drop (j + 1) := by
      intro j hj
      rw [List.drop_eq_getElem_cons (by omega), ix_nat (by omega)]
    rw [g 4 (by omega), g 5 (by omega), g 6 (by omega), g 7 (by omega)]
    rfl
  rw [← e, List.take_append_drop]
end Go.Proofs.Ytklhbaghbmndeaa.Pure
namespace Go.Proofs.Ytklhbaghbmndeaa
open Go Go.Xw
end Go.Proofs.Ytklhbaghbmndeaa
namespace Go.Proofs.Ytklhbaghbmndeaa.Pure
open Go Go.Xw
def u64n (x : Int) : Nat := (x % 18446744073709551616).toNat
theorem u64_wrap (x : Int) : IntKind.u64.wrap x = (u64n x : Int) := by
  unfold u64n IntKind.wrap
  simp only [IntKind.signed, IntKind.bits]
  simp
  omega
theorem u64n_lt (x : Int) : u64n x < 18446744073709551616 := by
  unfold u64n
  omega
theorem olay64 {fu n : Nat} {x : Int} (hn : n ≤ 8) (hf : n < fu) : octet_Lay.f fu (IntKind.u64.wrap x) (n : Int) = some (lay (u64n x) n) := by
  rw [u64_wrap]
  exact olay_eq hn hf
theorem rlay64 {fu n : Nat} {x : Int} (hn : n ≤ 8) (hf : n < fu) : rickyardref01_Lay.f fu (IntKind.u64.wrap x) (n : Int) = some ((lay (u64n x) n).map toB) := by
  rw [u64_wrap]
  exact rlay_eq (u64n_lt x) hn hf
def fieldAt (l : List Int) (w i : Nat) : List Int := (l.drop (w * i)).take w
theorem flat_len {α : Type} {g : Nat → List α} {w : Nat} (hg : ∀ i, (g i).length = w) : ∀ n, ((List.range n).flatMap g).length = w * n
  | 0 => by simp
  | n + 1 => by
    rw [List.range_succ, List.flatMap_append, List.length_append, flat_len hg n]
    simp [hg, Nat.mul_succ]
theorem flat_succ {α : Type} (g : Nat → List α) (n : Nat) : (List.range (n + 1)).flatMap g = (List.range n).flatMap g ++ g n := by
  rw [List.range_succ, List.flatMap_append]
  simp
theorem flat_congr {α : Type} {g k : Nat → List α} {n : Nat} (h : ∀ i, i < n → g i = k i) : (List.range n).flatMap g = (List.range n).flatMap k := by
  induction n with
  | zero => rfl
  | succ n ih => rw [flat_succ, flat_succ, ih fun i hi => h i (by omega), h n (by omega)]
theorem flat_bytes {g : Nat → List Int} (hg : ∀ i, Bytes (g i)) (n : Nat) : Bytes ((List.range n).flatMap g) := by
  intro x hx
  obtain ⟨i, _, h⟩ := List.mem_flatMap.1 hx
  exact hg i x h
end Go.Proofs.Ytklhbaghbmndeaa.Pure
namespace Go.Proofs.Ytklhbaghbmndeaa
open Go Go.Xw
end Go.Proofs.Ytklhbaghbmndeaa
namespace Go.Proofs.Ytklhbaghbmndeaa.Pure
open Go Go.Xw
def rowE (l : List Int) (n : Nat) : List Int := (List.range n).flatMap fun (i : Nat) => lay (u64n (ix l (i : Int))) 2
theorem rowE_len (l : List Int) (n : Nat) : (rowE l n).length = 2 * n := flat_len (fun i => lay_len _ _) n
theorem rowE_bytes (l : List Int) (n : Nat) : Bytes (rowE l n) := flat_bytes (fun i => lay_bytes _ _) n
theorem lim_of' {a b : Nat} (h : a + b ≤ 1000) : a + b ≤ LIM := by
  have : (1000 : Nat) ≤ LIM := by decide
  omega
def part (l : List Int) (i n : Nat) : List Int := (l.drop i).take n
def intAt (l : List Int) (i n : Nat) : Int := IntKind.i64.wrap ((num (part l i n) : Nat) : Int)
end Go.Proofs.Ytklhbaghbmndeaa.Pure
namespace Go.Proofs.Ytklhbaghbmndeaa
open Go Go.Xw
end Go.Proofs.Ytklhbaghbmndeaa
namespace Go.Proofs.Ytklhbaghbmndeaa.Pure
open Go Go.Xw
theorem contains_eq {fu : Nat} {l : List Int} {x : Int} (hl : l.length ≤ 9000000000000000000) (hf : l.length < fu) : slices_Contains_2.f fu l x = some (decide (x ∈ l)) := by
  unfold slices_Contains_2.f
  have hs : ∀ j : Nat, j < l.length → slices_Index_2.s0 fu l x (j : Int) = some (if x ≠ ix l (j : Int) then .inr ((j + 1 : Nat) : Int) else .inl (.inl (j : Int))) := by
    intro j hj
    unfold slices_Index_2.s0
    have h1 : (j : Int) < (l.length : Int) := by omega
    have c0 : 0 ≤ (j : Int) := by omega
    have w3 : IntKind.i64.wrap ((j : Int) + 1) = ((j + 1 : Nat) : Int) := by rw [w64 (by omega) (by omega)]; omega
    simp only [h1, c0, and_self, decide_true, if_true, w3]
    by_cases e : x = ix l (j : Int) <;> simp [e]
  have hi : ∃ r : Int, slices_Index_2.f fu l x = some r ∧ (r ≥ 0 ↔ x ∈ l) := by
    unfold slices_Index_2.f
    by_cases hk : x ∈ l
    · have hmin : ∀ m j, j ≤ m → (j < l.length ∧ x = ix l (j : Int)) → ∃ q, (q < l.length ∧ x = ix l (q : Int)) ∧ ∀ i, i < q → x ≠ ix l (i : Int) := by
        intro m
        induction m with
        | zero =>
          intro j hj hjj
          exact ⟨j, hjj, fun i hi => by omega⟩
        | succ m ih =>
          intro j hj hjj
          by_cases hx : ∃ i, i < j ∧ x = ix l (i : Int)
          · obtain ⟨i, hi, hgi⟩ := hx
            exact ih i (by omega) ⟨by omega, hgi⟩
          · exact ⟨j, hjj, fun i hi hg => hx ⟨i, hi, hg⟩⟩
      obtain ⟨j, hj, hjx⟩ := List.getElem_of_mem hk
      obtain ⟨q, ⟨hq, hg⟩, hall⟩ := hmin j j (Nat.le_refl _) ⟨hj, by rw [ix_nat hj, hjx]⟩
      have : loopM (slices_Index_2.s0 fu l x) fu 0 = some (.inl (q : Int)) :=
        loopM_run (S := fun j => (j : Int)) q rfl (fun i hi => by rw [hs i (by omega), if_pos (hall i hi)]) (by rw [hs q hq, if_neg (fun h => h hg)]) (by omega)
      rw [this]
      refine ⟨(q : Int), rfl, ?_⟩
      simp only [hk, iff_true]
      omega
    · have : loopM (slices_Index_2.s0 fu l x) fu 0 = some (.inr ()) := by
        refine loopM_run (S := fun j => (j : Int)) l.length rfl (fun j hj => ?_) ?_ hf
        · rw [hs j hj, if_pos]
          intro e
          rw [ix_nat hj] at e
          exact hk (by rw [e]; exact List.getElem_mem hj)
        · unfold slices_Index_2.s0
          simp
      rw [this]
      exact ⟨-1, rfl, by simp [hk]⟩
  obtain ⟨r, hr, hrk⟩ := hi
  rw [hr]
  exact congrArg some (decide_eq_decide.2 hrk)
def geoOk (g : S_api_Geometry) : Prop := (16 ≤ g.Blocks ∧ g.Blocks ≤ 3072) ∧ (1 ≤ g.Slots ∧ g.Slots ≤ 1792) ∧ (1 ≤ g.Gens ∧ g.Gens ≤ 4294967295)
instance (g : S_api_Geometry) : Decidable (geoOk g) := inferInstanceAs (Decidable (_ ∧ _))
theorem geo_form (g : S_api_Geometry) : (if (decide (g.Blocks ≥ 16)) = true then (if (decide (g.Blocks ≤ 3072)) = true then (if (decide (g.Slots ≥ 1)) = true then (if (decide (g.Slots ≤ 1792)) = true then (if (decide (g.Gens ≥ 1)) = true then (decide (g.Gens ≤ 4294967295)) else false) else false) else false) else false) else false) = decide (geoOk g) := by
  rw [Bool.eq_iff_iff]
  unfold geoOk
  simp only [decide_eq_true_eq, ge_iff_le]
  by_cases c1 : 16 ≤ g.Blocks
  · by_cases c2 : g.Blocks ≤ 3072
    · by_cases c3 : 1 ≤ g.Slots
      · by_cases c4 : g.Slots ≤ 1792
        · by_cases c5 : 1 ≤ g.Gens <;> simp [c1, c2, c3, c4, c5]
        · simp [c1, c2, c3, c4]
      · simp [c1, c2, c3]
    · simp [c1, c2]
  · simp [c1]
theorem geom_eq (fu : Nat) (g : S_api_Geometry) : geom_Right.f fu g = some (decide (geoOk g)) := congrArg some (geo_form g)
theorem rgeom_eq (fu : Nat) (g : S_api_Geometry) : rickyardref12_Right.f fu g = some (decide (geoOk g)) := congrArg some (geo_form g)
def chartsN (g : S_api_Geometry) : Int := (g.Blocks + 383) / 384
theorem charts_eq {fu : Nat} {g : S_api_Geometry} (h : geoOk g) : geom_Charts.f fu g = some (chartsN g) := by
  unfold geom_Charts.f geom_up.f
  rw [geom_eq, decide_eq_true h]
  unfold geoOk at h
  have w1 : IntKind.i64.wrap (g.Blocks + 384) = g.Blocks + 384 := w64 (by omega) (by omega)
  have w2 : IntKind.i64.wrap (g.Blocks + 384 - 1) = g.Blocks + 383 := by rw [w64 (by omega) (by omega)]; omega
  have e1 : Int.tdiv (g.Blocks + 383) 384 = (g.Blocks + 383) / 384 := Int.tdiv_eq_ediv_of_nonneg (by omega)
  have w3 : IntKind.i64.wrap ((g.Blocks + 383) / 384) = (g.Blocks + 383) / 384 := w64 (by omega) (by omega)
  simp [w1, w2, e1, w3, chartsN]
theorem rcharts_eq {fu : Nat} {g : S_api_Geometry} (h : geoOk g) (hf : 100 < fu) : rickyardref12_Charts.f fu g = some (chartsN g) := by
  unfold rickyardref12_Charts.f rickyardref12_Need.f
  unfold geoOk at h
  obtain ⟨n, hn⟩ : ∃ n : Nat, chartsN g = (n : Int) := ⟨(chartsN g).toNat, by unfold chartsN; omega⟩
  have hn' := hn
  unfold chartsN at hn'
  have : loopM (rickyardref12_Need.s0 fu g.Blocks 384) fu 0 = some (n : Int) := by
    refine loopM_run (S := fun j => (j : Int)) n rfl (fun j hj => ?_) ?_ (by omega)
    · unfold rickyardref12_Need.s0
      have w1 : IntKind.i64.wrap ((j : Int) * 384) = (j : Int) * 384 := w64 (by omega) (by omega)
      have w3 : IntKind.i64.wrap ((j : Int) + 1) = ((j + 1 : Nat) : Int) := by rw [w64 (by omega) (by omega)]; omega
      have h1 : (j : Int) * 384 < g.Blocks := by omega
      simp only [w1, w3, h1, decide_true, if_true]
    · unfold rickyardref12_Need.s0
      have w1 : IntKind.i64.wrap ((n : Int) * 384) = (n : Int) * 384 := w64 (by omega) (by omega)
      have h1 : ¬ (n : Int) * 384 < g.Blocks := by omega
      simp only [w1, h1, decide_false, Bool.false_eq_true, if_false]
  rw [this, hn]
  rfl
def inB (s : S_api_Super) (x : Int) : Prop := 2 ≤ x ∧ x < s.Tickets.Geometry.Blocks
instance (s : S_api_Super) (x : Int) : Decidable (inB s x) := inferInstanceAs (Decidable (_ ∧ _))
def supA (s : S_api_Super) : Prop := (1 ≤ s.Epoch ∧ s.Epoch ≤ 4611686018427387904) ∧ geoOk s.Tickets.Geometry
instance (s : S_api_Super) : Decidable (supA s) := inferInstanceAs (Decidable (_ ∧ _))
def supB (s : S_api_Super) : Prop := (0 ≤ s.Tickets.High ∧ s.Tickets.High ≤ s.Tickets.Geometry.Slots) ∧ (0 ≤ s.Tickets.Free ∧ s.Tickets.Free ≤ s.Tickets.High)
instance (s : S_api_Super) : Decidable (supB s) := inferInstanceAs (Decidable (_ ∧ _))
def topOk (s : S_api_Super) : Prop := (s.Tickets.High = 0 → s.Tickets.Top = 0) ∧ (s.Tickets.High ≠ 0 → inB s s.Tickets.Top)
instance (s : S_api_Super) : Decidable (topOk s) := inferInstanceAs (Decidable (_ ∧ _))
def dirOk (s : S_api_Super) : Prop := s.Dir ≠ 0 → inB s s.Dir
instance (s : S_api_Super) : Decidable (dirOk s) := inferInstanceAs (Decidable (_ → _))
def apartC (l : List Int) : Prop := ∀ j, j < l.length → ix l (j : Int) ∉ l.take j
instance (l : List Int) : Decidable (apartC l) := inferInstanceAs (Decidable (∀ j, j < l.length → _))
def insC (s : S_api_Super) : Prop := ∀ j, j < s.Charts.length → inB s (ix s.Charts (j : Int))
instance (s : S_api_Super) : Decidable (insC s) := inferInstanceAs (Decidable (∀ j, j < s.Charts.length → _))
def SupOk (s : S_api_Super) : Prop := supA s ∧ supB s ∧ topOk s ∧ dirOk s ∧ (s.Charts.length : Int) = chartsN s.Tickets.Geometry ∧ insC s ∧ apartC s.Charts
instance (s : S_api_Super) : Decidable (SupOk s) := inferInstanceAs (Decidable (_ ∧ _))
theorem SupOk.len {s : S_api_Super} (h : SupOk s) : s.Charts.length ≤ 8 ∧ 1 ≤ s.Charts.length := by
  have h1 := h.1.2
  have h2 := h.2.2.2.2.1
  unfold geoOk at h1
  unfold chartsN at h2
  omega
theorem in_eq (fu : Nat) (x : Int) (s : S_api_Super) : super_Right_1__c.f fu x s = some (decide (inB s x)) := by
  unfold super_Right_1__c.f inB
  by_cases h : 2 ≤ x <;> simp [h]
theorem sup_g1 (fu : Nat) (s : S_api_Super) : (if (decide (s.Epoch < 1)) = true then some (true) else (if (decide (s.Epoch > 4611686018427387904)) = true then some (true) else ((geom_Right.f fu s.Tickets.Geometry : Option Bool).bind fun t11 => (if (!t11) = true then some (true) else (if (decide (s.Tickets.High < 0)) = true then some (true) else (if (decide (s.Tickets.High > s.Tickets.Geometry.Slots)) = true then some (true) else (if (decide (s.Tickets.Free < 0)) = true then some (true) else some ((decide (s.Tickets.Free > s.Tickets.High)))))))))) = some (!decide (supA s ∧ supB s)) := by
  rw [geom_eq, Option.bind_some]
  by_cases hA : supA s
  · have hA' := hA
    unfold supA at hA'
    have c1 : ¬ s.Epoch < 1 := by omega
    have c2 : ¬ s.Epoch > 4611686018427387904 := by omega
    rw [decide_eq_false c1, decide_eq_false c2, decide_eq_true hA'.2]
    by_cases hB : supB s
    · have hB' := hB
      unfold supB at hB'
      have c3 : ¬ s.Tickets.High < 0 := by omega
      have c4 : ¬ s.Tickets.High > s.Tickets.Geometry.Slots := by omega
      have c5 : ¬ s.Tickets.Free < 0 := by omega
      have c6 : ¬ s.Tickets.Free > s.Tickets.High := by omega
      rw [decide_eq_false c3, decide_eq_false c4, decide_eq_false c5, decide_eq_false c6, decide_eq_true (⟨hA, hB⟩ : supA s ∧ supB s)]
      rfl
    · rw [decide_eq_false (fun x : supA s ∧ supB s => hB x.2)]
      unfold supB at hB
      by_cases c3 : s.Tickets.High < 0
      · rw [decide_eq_true c3]
        rfl
      · by_cases c4 : s.Tickets.High > s.Tickets.Geometry.Slots
        · rw [decide_eq_false c3, decide_eq_true c4]
          rfl
        · by_cases c5 : s.Tickets.Free < 0
          · rw [decide_eq_false c3, decide_eq_false c4, decide_eq_true c5]
            rfl
          · have c6 : s.Tickets.Free > s.Tickets.High := by omega
            rw [decide_eq_false c3, decide_eq_false c4, decide_eq_false c5, decide_eq_true c6]
            rfl
  · rw [decide_eq_false (fun x : supA s ∧ supB s => hA x.1)]
    unfold supA at hA
    by_cases c1 : s.Epoch < 1
    · rw [decide_eq_true c1]
      rfl
    · by_cases c2 : s.Epoch > 4611686018427387904
      · rw [decide_eq_false c1, decide_eq_true c2]
        rfl
      · have c3 : ¬ geoOk s.Tickets.Geometry := fun x => hA ⟨by omega, x⟩
        rw [decide_eq_false c1, decide_eq_false c2, decide_eq_false c3]
        rfl
def lenOk (s : S_api_Super) : Prop := (s.Charts.length : Int) = chartsN s.Tickets.Geometry
instance (s : S_api_Super) : Decidable (lenOk s) := inferInstanceAs (Decidable (_ = _))
theorem sup_loop {fu : Nat} {s : S_api_Super} (hl : s.Charts.length ≤ 50) (hf : 100 < fu) : loopM (super_Right.s0 fu s) fu 0 = some (if insC s ∧ apartC s.Charts then .inr () else .inl false) := by
  have hs : ∀ j : Nat, j < s.Charts.length → super_Right.s0 fu s (j : Int) = some (if inB s (ix s.Charts (j : Int)) ∧ ix s.Charts (j : Int) ∉ s.Charts.take j then .inr ((j + 1 : Nat) : Int) else .inl (.inl false)) := by
    intro j hj
    unfold super_Right.s0
    have h1 : (j : Int) < (s.Charts.length : Int) := by omega
    have h2 : (j : Int) ≤ (s.Charts.length : Int) := by omega
    have c0 : 0 ≤ (j : Int) := by omega
    have w3 : IntKind.i64.wrap ((j : Int) + 1) = ((j + 1 : Nat) : Int) := by rw [w64 (by omega) (by omega)]; omega
    have ec : cut s.Charts 0 (j : Int) = s.Charts.take j := by unfold cut; simp
    have hc : slices_Contains_2.f fu (s.Charts.take j) (ix s.Charts (j : Int)) = some (decide (ix s.Charts (j : Int) ∈ s.Charts.take j)) := contains_eq (by rw [List.length_take]; omega) (by rw [List.length_take]; omega)
    simp only [h1, h2, c0, and_self, decide_true, if_true, w3, in_eq, Option.bind_some, ec, hc]
    by_cases g1 : inB s (ix s.Charts (j : Int))
    · by_cases g2 : ix s.Charts (j : Int) ∈ s.Charts.take j <;> simp [g1, g2]
    · simp [g1]
  by_cases h : insC s ∧ apartC s.Charts
  · rw [if_pos h]
    refine loopM_run (S := fun j => (j : Int)) s.Charts.length rfl (fun j hj => by rw [hs j hj, if_pos ⟨h.1 j hj, h.2 j hj⟩]) ?_ (by omega)
    unfold super_Right.s0
    simp
  · rw [if_neg h]
    refine loopM_bad (S := fun j => (j : Int)) s.Charts.length (fun j => inB s (ix s.Charts (j : Int)) ∧ ix s.Charts (j : Int) ∉ s.Charts.take j) rfl ?_ (fun j hj _ hg => by rw [hs j hj, if_pos hg]) (fun j hj _ hg => by rw [hs j hj, if_neg hg]) (by omega)
    apply Classical.byContradiction
    intro hx
    exact h ⟨fun i hi => Classical.byContradiction fun hg => hx ⟨i, hi, fun q => hg q.1⟩, fun i hi => Classical.byContradiction fun hg => hx ⟨i, hi, fun q => hg q.2⟩⟩
theorem superRight_eq {fu : Nat} {s : S_api_Super} (hf : 100 < fu) : super_Right.f fu s = some (decide (SupOk s)) := by
  unfold super_Right.f
  rw [sup_g1, Option.bind_some]
  by_cases hAB : supA s ∧ supB s
  · obtain ⟨hA, hB⟩ := hAB
    have hg := hA.2
    have hB' := hB
    unfold supB at hB'
    rw [decide_eq_true (⟨hA, hB⟩ : supA s ∧ supB s), charts_eq hg]
    simp only [Bool.not_true, Bool.false_eq_true, if_false, in_eq, Option.bind_some]
    have key : ∀ (b : Bool), b = decide (topOk s ∧ dirOk s ∧ lenOk s) → (if (!b) = true then some false else ((loopM (super_Right.s0 fu s) fu (0)).bind fun e131 => match e131 with | Sum.inl p => some p | Sum.inr x134 => some (true))) = some (decide (SupOk s)) := by
      intro b hb
      by_cases hT : topOk s ∧ dirOk s ∧ lenOk s
      · rw [hb, decide_eq_true hT]
        have hlen : s.Charts.length ≤ 50 := by
          have h1 := hT.2.2
          unfold lenOk chartsN at h1
          unfold geoOk at hg
          omega
        rw [sup_loop hlen hf]
        by_cases hq : insC s ∧ apartC s.Charts
        · have hS : SupOk s := ⟨hA, hB, hT.1, hT.2.1, hT.2.2, hq.1, hq.2⟩
          rw [if_pos hq, decide_eq_true hS]
          rfl
        · rw [if_neg hq, decide_eq_false (fun x : SupOk s => hq ⟨x.2.2.2.2.2.1, x.2.2.2.2.2.2⟩)]
          rfl
      · rw [hb, decide_eq_false hT, decide_eq_false (fun x : SupOk s => hT ⟨x.2.2.1, x.2.2.2.1, x.2.2.2.2.1⟩)]
        rfl
    by_cases h0 : s.Tickets.High = 0
    · have h1 : ¬ s.Tickets.High > 0 := by omega
      rw [decide_eq_true h0, decide_eq_false h1]
      by_cases ht : s.Tickets.Top = 0
      · rw [decide_eq_true ht]
        have hT : topOk s := ⟨fun _ => ht, fun x => absurd h0 x⟩
        by_cases hd : s.Dir = 0
        · rw [decide_eq_true hd]
          have hD : dirOk s := fun x => absurd hd x
          exact key (decide (lenOk s)) (decide_eq_decide.2 ⟨fun x => ⟨hT, hD, x⟩, fun x => x.2.2⟩)
        · rw [decide_eq_false hd]
          by_cases hi : inB s s.Dir
          · rw [decide_eq_true hi]
            exact key (decide (lenOk s)) (decide_eq_decide.2 ⟨fun x => ⟨hT, fun _ => hi, x⟩, fun x => x.2.2⟩)
          · rw [decide_eq_false hi]
            exact key false (decide_eq_false (fun x => hi (x.2.1 hd))).symm
      · rw [decide_eq_false ht]
        exact key false (decide_eq_false (fun x => ht (x.1.1 h0))).symm
    · have h1 : s.Tickets.High > 0 := by omega
      rw [decide_eq_false h0, decide_eq_true h1]
      by_cases ht : inB s s.Tickets.Top
      · rw [decide_eq_true ht]
        have hT : topOk s := ⟨fun x => absurd x h0, fun _ => ht⟩
        by_cases hd : s.Dir = 0
        · rw [decide_eq_true hd]
          have hD : dirOk s := fun x => absurd hd x
          exact key (decide (lenOk s)) (decide_eq_decide.2 ⟨fun x => ⟨hT, hD, x⟩, fun x => x.2.2⟩)
        · rw [decide_eq_false hd]
          by_cases hi : inB s s.Dir
          · rw [decide_eq_true hi]
            exact key (decide (lenOk s)) (decide_eq_decide.2 ⟨fun x => ⟨hT, fun _ => hi, x⟩, fun x => x.2.2⟩)
          · rw [decide_eq_false hi]
            exact key false (decide_eq_false (fun x => hi (x.2.1 hd))).symm
      · rw [decide_eq_false ht]
        exact key false (decide_eq_false (fun x => ht (x.1.2 h0))).symm
  · rw [decide_eq_false hAB, decide_eq_false (fun x : SupOk s => hAB ⟨x.1, x.2.1⟩)]
    rfl
def needL (s : S_api_Super) : List Int := (if s.Tickets.High = 0 then [] else [s.Tickets.Top]) ++ (if s.Dir = 0 then [] else [s.Dir])
theorem needL_len (s : S_api_Super) : (needL s).length ≤ 2 := by
  unfold needL
  split <;> split <;> simp
theorem mem_ix {l : List Int} {p : Int → Prop} : (∀ x ∈ l, p x) ↔ ∀ j, j < l.length → p (ix l (j : Int)) := by
  constructor
  · intro h j hj
    rw [ix_nat hj]
    exact h _ (List.getElem_mem hj)
  · intro h x hx
    obtain ⟨j, hj, rfl⟩ := List.getElem_of_mem hx
    have := h j hj
    rwa [ix_nat hj] at this
theorem rs2_eq {fu : Nat} {s : S_api_Super} {nd : List Int} {j : Nat} (hj : j < s.Charts.length) (hl : s.Charts.length ≤ 50) (hf : 100 < fu) : loopM (rickyardref13_Right.s2 fu s (nd, (j : Int))) fu 0 = some (if ix s.Charts (j : Int) ∉ s.Charts.take j then .inr () else .inl (.inl (.inl false))) := by
  have hs : ∀ i : Nat, i < j → rickyardref13_Right.s2 fu s (nd, (j : Int)) (i : Int) = some (if ix s.Charts (i : Int) ≠ ix s.Charts (j : Int) then .inr ((i + 1 : Nat) : Int) else .inl (.inl (.inl (.inl false)))) := by
    intro i hi
    unfold rickyardref13_Right.s2
    have h1 : (i : Int) < (j : Int) := by omega
    have h2 : (i : Int) < (s.Charts.length : Int) := by omega
    have h3 : (j : Int) < (s.Charts.length : Int) := by omega
    have c0 : 0 ≤ (i : Int) := by omega
    have c1 : 0 ≤ (j : Int) := by omega
    have w3 : IntKind.i64.wrap ((i : Int) + 1) = ((i + 1 : Nat) : Int) := by rw [w64 (by omega) (by omega)]; omega
    simp only [h1, h2, h3, c0, c1, and_self, decide_true, if_true, w3]
    by_cases e : ix s.Charts (i : Int) = ix s.Charts (j : Int) <;> simp [e]
  have hmem : ix s.Charts (j : Int) ∉ s.Charts.take j ↔ ∀ i, i < j → ix s.Charts (i : Int) ≠ ix s.Charts (j : Int) := by
    constructor
    · intro h i hi e
      apply h
      rw [← e, ix_nat (show i < s.Charts.length by omega)]
      exact List.mem_take_iff_getElem.2 ⟨i, by omega, rfl⟩
    · intro h hm
      obtain ⟨i, hi, he⟩ := List.mem_take_iff_getElem.1 hm
      exact h i (by omega) (by rw [ix_nat (show i < s.Charts.length by omega)]; exact he)
  by_cases h : ix s.Charts (j : Int) ∉ s.Charts.take j
  · rw [if_pos h]
    refine loopM_run (S := fun i => (i : Int)) j rfl (fun i hi => by rw [hs i hi, if_pos (hmem.1 h i hi)]) ?_ (by omega)
    unfold rickyardref13_Right.s2
    simp
  · rw [if_neg h]
    refine loopM_bad (S := fun i => (i : Int)) j (fun i => ix s.Charts (i : Int) ≠ ix s.Charts (j : Int)) rfl ?_ (fun i hi _ hg => by rw [hs i hi, if_pos hg]) (fun i hi _ hg => by rw [hs i hi, if_neg hg]) (by omega)
    apply Classical.byContradiction
    intro hx
    exact h (hmem.2 fun i hi => Classical.byContradiction fun hg => hx ⟨i, hi, hg⟩)
theorem rs1_eq {fu : Nat} {s : S_api_Super} (hl : s.Charts.length ≤ 50) (hf : 100 < fu) : loopM (rickyardref13_Right.s1 fu s) fu (needL s, 0) = some (if apartC s.Charts then .inr (needL s ++ s.Charts) else .inl false) := by
  have hn := needL_len s
  have hs : ∀ j : Nat, j < s.Charts.length → rickyardref13_Right.s1 fu s (needL s ++ s.Charts.take j, (j : Int)) = some (if ix s.Charts (j : Int) ∉ s.Charts.take j then .inr (needL s ++ s.Charts.take (j + 1), ((j + 1 : Nat) : Int)) else .inl (.inl false)) := by
    intro j hj
    unfold rickyardref13_Right.s1
    have h2 : (j : Int) < (s.Charts.length : Int) := by omega
    have c0 : 0 ≤ (j : Int) := by omega
    have w3 : IntKind.i64.wrap ((j : Int) + 1) = ((j + 1 : Nat) : Int) := by rw [w64 (by omega) (by omega)]; omega
    have hlim : (needL s ++ s.Charts.take j).length + ([ix s.Charts (j : Int)] : List Int).length ≤ LIM := lim_of' (by rw [List.length_append, List.length_take]; simp; omega)
    have e : needL s ++ s.Charts.take (j + 1) = needL s ++ s.Charts.take j ++ [ix s.Charts (j : Int)] := by
      rw [List.take_add_one, List.getElem?_eq_getElem hj, ix_nat hj, List.append_assoc]
      rfl
    simp only [h2, c0, and_self, decide_true, if_true, w3, hlim, rs2_eq hj hl hf, e]
    by_cases g : ix s.Charts (j : Int) ∉ s.Charts.take j
    · rw [if_pos g, if_pos g]
      rfl
    · rw [if_neg g, if_neg g]
      rfl
  by_cases h : apartC s.Charts
  · rw [if_pos h]
    refine loopM_run (S := fun j => (needL s ++ s.Charts.take j, (j : Int))) s.Charts.length (by simp) (fun j hj => by rw [hs j hj, if_pos (h j hj)]) ?_ (by omega)
    unfold rickyardref13_Right.s1
    simp
  · rw [if_neg h]
    refine loopM_bad (S := fun j => (needL s ++ s.Charts.take j, (j : Int))) s.Charts.length (fun j => ix s.Charts (j : Int) ∉ s.Charts.take j) (by simp) ?_ (fun j hj _ hg => by rw [hs j hj, if_pos hg]) (fun j hj _ hg => by rw [hs j hj, if_neg hg]) (by omega)
    apply Classical.byContradiction
    intro hx
    exact h fun i hi => Classical.byContradiction fun hg => hx ⟨i, hi, hg⟩
theorem rs3_eq {fu : Nat} {s : S_api_Super} {l : List Int} (hl : l.length ≤ 60) (hf : 100 < fu) : loopM (rickyardref13_Right.s3 fu s l) fu 0 = some (if ∀ j, j < l.length → inB s (ix l (j : Int)) then .inr () else .inl false) := by
  have hs : ∀ j : Nat, j < l.length → rickyardref13_Right.s3 fu s l (j : Int) = some (if inB s (ix l (j : Int)) then .inr ((j + 1 : Nat) : Int) else .inl (.inl false)) := by
    intro j hj
    unfold rickyardref13_Right.s3
    have h2 : (j : Int) < (l.length : Int) := by omega
    have c0 : 0 ≤ (j : Int) := by omega
    have w3 : IntKind.i64.wrap ((j : Int) + 1) = ((j + 1 : Nat) : Int) := by rw [w64 (by omega) (by omega)]; omega
    simp only [h2, c0, and_self, decide_true, if_true, w3]
    by_cases g1 : ix l (j : Int) < 2
    · have g : ¬ inB s (ix l (j : Int)) := fun x => by unfold inB at x; omega
      rw [decide_eq_true g1, if_neg g]
      rfl
    · by_cases g2 : ix l (j : Int) ≥ s.Tickets.Geometry.Blocks
      · have g : ¬ inB s (ix l (j : Int)) := fun x => by unfold inB at x; omega
        rw [decide_eq_false g1, decide_eq_true g2, if_neg g]
        rfl
      · have g : inB s (ix l (j : Int)) := ⟨by omega, by omega⟩
        rw [decide_eq_false g1, decide_eq_false g2, if_pos g]
        rfl
  by_cases h : ∀ j, j < l.length → inB s (ix l (j : Int))
  · rw [if_pos h]
    refine loopM_run (S := fun j => (j : Int)) l.length rfl (fun j hj => by rw [hs j hj, if_pos (h j hj)]) ?_ (by omega)
    unfold rickyardref13_Right.s3
    simp
  · rw [if_neg h]
    refine loopM_bad (S := fun j => (j : Int)) l.length (fun j => inB s (ix l (j : Int))) rfl ?_ (fun j hj _ hg => by rw [hs j hj, if_pos hg]) (fun j hj _ hg => by rw [hs j hj, if_neg hg]) (by omega)
    apply Classical.byContradiction
    intro hx
    exact h fun i hi => Classical.byContradiction fun hg => hx ⟨i, hi, hg⟩
theorem rsuperRight_eq {fu : Nat} {s : S_api_Super} (hf : 100 < fu) : rickyardref13_Right.f fu s = some (decide (SupOk s)) := by
  unfold rickyardref13_Right.f
  rw [rgeom_eq]
  by_cases hA : supA s
  · have hA' := hA
    unfold supA at hA'
    have hg := hA.2
    have hg' := hg
    unfold geoOk at hg'
    have c1 : ¬ s.Epoch < 1 := by omega
    have c2 : ¬ s.Epoch > 4611686018427387904 := by omega
    rw [decide_eq_false c1, decide_eq_false c2, decide_eq_true hg, rcharts_eq hg hf]
    simp only [Bool.false_eq_true, if_false, Option.bind_some, Bool.not_true]
    by_cases hB : supB s
    · have hB' := hB
      unfold supB at hB'
      have c3 : ¬ s.Tickets.High < 0 := by omega
      have c4 : ¬ s.Tickets.High > s.Tickets.Geometry.Slots := by omega
      have c5 : ¬ s.Tickets.Free < 0 := by omega
      have c6 : ¬ s.Tickets.Free > s.Tickets.High := by omega
      rw [decide_eq_false c3, decide_eq_false c4, decide_eq_false c5, decide_eq_false c6]
      simp only [Bool.false_eq_true, if_false, Option.bind_some]
      by_cases hL : (s.Charts.length : Int) = chartsN s.Tickets.Geometry
      · rw [decide_eq_true hL]
        simp only [Bool.not_true, Bool.false_eq_true, if_false]
        have hlen : s.Charts.length ≤ 50 := by unfold chartsN at hL; omega
        have hn := needL_len s
        have fin : (((loopM (rickyardref13_Right.s1 fu s) fu (needL s, 0)).bind fun e99 => match e99 with | Sum.inl p => some p | Sum.inr x102 => ((loopM (rickyardref13_Right.s3 fu s x102) fu (0)).bind fun e150 => match e150 with | Sum.inl p => some p | Sum.inr x153 => some (true)))) = some (decide (apartC s.Charts ∧ ∀ x ∈ needL s ++ s.Charts, inB s x)) := by
          rw [rs1_eq hlen hf]
          by_cases ha : apartC s.Charts
          · rw [if_pos ha]
            simp only [Option.bind_some]
            rw [rs3_eq (by rw [List.length_append]; omega) hf]
            by_cases hi : ∀ j, j < (needL s ++ s.Charts).length → inB s (ix (needL s ++ s.Charts) (j : Int))
            · rw [if_pos hi, decide_eq_true (⟨ha, mem_ix.2 hi⟩ : apartC s.Charts ∧ ∀ x ∈ needL s ++ s.Charts, inB s x)]
              rfl
            · rw [if_neg hi, decide_eq_false (fun x : apartC s.Charts ∧ ∀ x ∈ needL s ++ s.Charts, inB s x => hi (mem_ix.1 x.2))]
              rfl
          · rw [if_neg ha, decide_eq_false (fun x : apartC s.Charts ∧ ∀ x ∈ needL s ++ s.Charts, inB s x => ha x.1)]
            rfl
        have same : (s.Tickets.High = 0 → s.Tickets.Top = 0) → (decide (apartC s.Charts ∧ ∀ x ∈ needL s ++ s.Charts, inB s x)) = decide (SupOk s) := by
          intro ht
          apply decide_eq_decide.2
          constructor
          · rintro ⟨ha, hi⟩
            refine ⟨hA, hB, ⟨ht, fun hh => hi _ ?_⟩, fun hd => hi _ ?_, hL, mem_ix.1 fun x hx => hi x (List.mem_append_right _ hx), ha⟩
            · apply List.mem_append_left
              unfold needL
              rw [if_neg hh]
              simp
            · apply List.mem_append_left
              unfold needL
              rw [if_neg hd]
              simp
          · intro h
            refine ⟨h.2.2.2.2.2.2, fun x hx => ?_⟩
            rcases List.mem_append.1 hx with hx | hx
            · unfold needL at hx
              rcases List.mem_append.1 hx with hx | hx
              · by_cases h0 : s.Tickets.High = 0
                · rw [if_pos h0] at hx
                  simp at hx
                · rw [if_neg h0] at hx
                  rw [List.mem_singleton.1 hx]
                  exact h.2.2.1.2 h0
              · by_cases h0 : s.Dir = 0
                · rw [if_pos h0] at hx
                  simp at hx
                · rw [if_neg h0] at hx
                  rw [List.mem_singleton.1 hx]
                  exact h.2.2.2.1 h0
            · exact mem_ix.2 h.2.2.2.2.2.1 x hx
        have l1 : ([] : List Int).length + ([s.Tickets.Top] : List Int).length ≤ LIM := lim_of' (by simp)
        by_cases h0 : s.Tickets.High = 0
        · rw [decide_eq_true h0]
          simp only [if_true]
          by_cases ht : s.Tickets.Top = 0
          · rw [decide_eq_true ht]
            simp only [Bool.not_true, Bool.false_eq_true, if_false, Option.bind_some]
            have hsame := same (fun _ => ht)
            by_cases hd : s.Dir = 0
            · rw [decide_eq_true hd]
              have hneed : needL s = [] := by unfold needL; rw [if_pos h0, if_pos hd]; rfl
              rw [← hsame, ← fin, hneed]
              rfl
            · rw [decide_eq_false hd]
              have hneed : needL s = [] ++ [s.Dir] := by unfold needL; rw [if_pos h0, if_neg hd]
              have l2 : ([] : List Int).length + ([s.Dir] : List Int).length ≤ LIM := lim_of' (by simp)
              rw [← hsame, ← fin, hneed]
              simp only [Bool.not_false, if_true, if_pos l2, Option.bind_some]
              rfl
          · rw [decide_eq_false ht]
            have : ¬ SupOk s := fun x => ht (x.2.2.1.1 h0)
            rw [decide_eq_false this]
            rfl
        · rw [decide_eq_false h0]
          simp only [Bool.false_eq_true, if_false, if_pos l1, Option.bind_some]
          have hsame := same (fun x => absurd x h0)
          by_cases hd : s.Dir = 0
          · rw [decide_eq_true hd]
            have hneed : needL s = [] ++ [s.Tickets.Top] := by unfold needL; rw [if_neg h0, if_pos hd]; rfl
            rw [← hsame, ← fin, hneed]
            rfl
          · rw [decide_eq_false hd]
            have hneed : needL s = [] ++ [s.Tickets.Top] ++ [s.Dir] := by unfold needL; rw [if_neg h0, if_neg hd]; rfl
            have l2 : ([] ++ [s.Tickets.Top] : List Int).length + ([s.Dir] : List Int).length ≤ LIM := lim_of' (by simp)
            rw [← hsame, ← fin, hneed]
            simp only [Bool.not_false, if_true, if_pos l2, Option.bind_some]
            rfl
      · rw [decide_eq_false hL, decide_eq_false (fun x : SupOk s => hL x.2.2.2.2.1)]
        rfl
    · rw [decide_eq_false (fun x : SupOk s => hB x.2.1)]
      unfold supB at hB
      by_cases c3 : s.Tickets.High < 0
      · rw [decide_eq_true c3]
        rfl
      · by_cases c4 : s.Tickets.High > s.Tickets.Geometry.Slots
        · rw [decide_eq_false c3, decide_eq_true c4]
          rfl
        · by_cases c5 : s.Tickets.Free < 0
          · rw [decide_eq_false c3, decide_eq_false c4, decide_eq_true c5]
            rfl
          · have c6 : s.Tickets.Free > s.Tickets.High := by omega
            rw [decide_eq_false c3, decide_eq_false c4, decide_eq_false c5, decide_eq_true c6]
            rfl
  · rw [decide_eq_false (fun x : SupOk s => hA x.1)]
    unfold supA at hA
    by_cases c1 : s.Epoch < 1
    · rw [decide_eq_true c1]
      rfl
    · by_cases c2 : s.Epoch > 4611686018427387904
      · rw [decide_eq_false c1, decide_eq_true c2]
        rfl
      · have c3 : ¬ geoOk s.Tickets.Geometry := fun x => hA ⟨by omega, x⟩
        rw [decide_eq_false c1, decide_eq_false c2, decide_eq_false c3]
        rfl
def supH (s : S_api_Super) : List Int := lay (u64n s.Epoch) 8 ++ (lay (u64n s.Tickets.Geometry.Blocks) 4 ++ (lay (u64n s.Tickets.Geometry.Slots) 4 ++ (lay (u64n s.Tickets.Geometry.Gens) 4 ++ (lay (u64n s.Tickets.High) 4 ++ (lay (u64n s.Tickets.Free) 4 ++ (lay (u64n s.Tickets.Top) 2 ++ lay (u64n s.Dir) 2))))))
theorem supH_len (s : S_api_Super) : (supH s).length = 32 := by simp [supH, lay_len]
theorem supH_bytes (s : S_api_Super) : Bytes (supH s) := (lay_bytes _ _).app ((lay_bytes _ _).app ((lay_bytes _ _).app ((lay_bytes _ _).app ((lay_bytes _ _).app ((lay_bytes _ _).app ((lay_bytes _ _).app (lay_bytes _ _)))))))
def supE (s : S_api_Super) : List Int := supH s ++ rowE s.Charts s.Charts.length
theorem supE_len (s : S_api_Super) : (supE s).length = 32 + 2 * s.Charts.length := by simp [supE, supH_len, rowE_len]
theorem supE_bytes (s : S_api_Super) : Bytes (supE s) := (supH_bytes _).app (rowE_bytes _ _)
theorem octets1_eq {fu : Nat} {x : Int} (hf : 100 < fu) : octet_Octets.f fu [(IntKind.u64.wrap x)] = some (lay (u64n x) 8) := by
  unfold octet_Octets.f
  have hl : ∀ z : Int, octet_Lay.f fu (IntKind.u64.wrap z) 8 = some (lay (u64n z) 8) := fun z => olay64 (n := 8) (by decide) (by omega)
  have : loopM (octet_Octets.s0 fu [(IntKind.u64.wrap x)]) fu ([], 0) = some (lay (u64n x) 8) := by
    refine loopM_run (S := fun j => (if j = 0 then [] else lay (u64n x) 8, (j : Int))) 1 rfl ?_ ?_ (by omega)
    · intro j hj
      obtain rfl : j = 0 := by omega
      unfold octet_Octets.s0
      have l0 : (0 : Nat) + 8 ≤ LIM := lim_of' (by decide)
      simp [hl, ix, lay_len, w64, l0]
    · unfold octet_Octets.s0
      simp
  rw [this]
  rfl
def five (s : S_api_Super) (i : Nat) : Int := if i = 0 then s.Tickets.Geometry.Blocks else if i = 1 then s.Tickets.Geometry.Slots else if i = 2 then s.Tickets.Geometry.Gens else if i = 3 then s.Tickets.High else s.Tickets.Free
theorem superPut_eq {fu : Nat} {s : S_api_Super} (hf : 100 < fu) : super_Put.f fu s = some (if SupOk s then (sealed (summed 7 (s.Charts.length : Int) (supE s)), true) else ([], false)) := by
  unfold super_Put.f
  rw [superRight_eq hf]
  by_cases h : SupOk s
  · have k1 := h.len
    have hl4 : ∀ z : Int, octet_Lay.f fu (IntKind.u64.wrap z) 4 = some (lay (u64n z) 4) := fun z => olay64 (n := 4) (by decide) (by omega)
    have hl2 : ∀ z : Int, octet_Lay.f fu (IntKind.u64.wrap z) 2 = some (lay (u64n z) 2) := fun z => olay64 (n := 2) (by decide) (by omega)
    have hg : ∀ j : Nat, j < 5 → Arr.get (Arr.set (Arr.set (Arr.set (Arr.set (Arr.set (Arr.rep 5 (0 : Int)) 0 s.Tickets.Geometry.Blocks) 1 s.Tickets.Geometry.Slots) 2 s.Tickets.Geometry.Gens) 3 s.Tickets.High) 4 s.Tickets.Free) (j : Int) = five s j := by
      intro j hj
      have : j = 0 ∨ j = 1 ∨ j = 2 ∨ j = 3 ∨ j = 4 := by omega
      rcases this with rfl | rfl | rfl | rfl | rfl <;> rfl
    obtain ⟨A, hA⟩ : ∃ A, A = Arr.set (Arr.set (Arr.set (Arr.set (Arr.set (Arr.rep 5 (0 : Int)) 0 s.Tickets.Geometry.Blocks) 1 s.Tickets.Geometry.Slots) 2 s.Tickets.Geometry.Gens) 3 s.Tickets.High) 4 s.Tickets.Free := ⟨_, rfl⟩
    rw [← hA] at hg
    have loop0 : loopM (super_Put.s0 fu s) fu (lay (u64n s.Epoch) 8, 0) = some (lay (u64n s.Epoch) 8 ++ (List.range 5).flatMap fun i => lay (u64n (five s i)) 4) := by
      refine loopM_run (S := fun j => (lay (u64n s.Epoch) 8 ++ (List.range j).flatMap fun i => lay (u64n (five s i)) 4, (j : Int))) 5 (by simp) ?_ ?_ (by omega)
      · intro j hj
        unfold super_Put.s0
        rw [← hA]
        have h1 : (j : Int) < 5 := by omega
        have w3 : IntKind.i64.wrap ((j : Int) + 1) = ((j + 1 : Nat) : Int) := by rw [w64 (by omega) (by omega)]; omega
        have hfl : ((List.range j).flatMap fun i => lay (u64n (five s i)) 4).length = 4 * j := flat_len (fun i => lay_len _ _) j
        have hlim : (lay (u64n s.Epoch) 8 ++ (List.range j).flatMap fun i => lay (u64n (five s i)) 4).length + (lay (u64n (five s j)) 4).length ≤ LIM := lim_of' (by rw [List.length_append, hfl, lay_len, lay_len]; omega)
        simp only [h1, decide_true, if_true, w3, hg j hj, hl4, Option.bind_some]
        rw [if_pos ⟨by omega, trivial⟩, if_pos hlim, flat_succ, List.append_assoc]
      · unfold super_Put.s0
        simp
    have eH : lay (u64n s.Epoch) 8 ++ ((List.range 5).flatMap fun i => lay (u64n (five s i)) 4) ++ rowE ([s.Tickets.Top, s.Dir] ++ s.Charts) (2 + s.Charts.length) = supE s := by
      have e1 : rowE ([s.Tickets.Top, s.Dir] ++ s.Charts) (2 + s.Charts.length) = lay (u64n s.Tickets.Top) 2 ++ (lay (u64n s.Dir) 2 ++ rowE s.Charts s.Charts.length) := by
        unfold rowE
        rw [List.range_add, List.flatMap_append]
        have e0 : (List.range 2).flatMap (fun (i : Nat) => lay (u64n (ix ([s.Tickets.Top, s.Dir] ++ s.Charts) (i : Int))) 2) = lay (u64n s.Tickets.Top) 2 ++ lay (u64n s.Dir) 2 := by
          show lay _ 2 ++ (lay _ 2 ++ []) = _
          rw [List.append_nil]
          rfl
        rw [e0, List.append_assoc]
        congr 2
        rw [List.flatMap_map]
        apply flat_congr
        intro i hi
        congr 2
        unfold ix
        rw [Int.toNat_natCast, Int.toNat_natCast, List.getD_eq_getElem?_getD, List.getD_eq_getElem?_getD, List.getElem?_append_right (by simp)]
        congr 2
        simp
      rw [e1]
      have e2 : (List.range 5).flatMap (fun i => lay (u64n (five s i)) 4) = lay (u64n s.Tickets.Geometry.Blocks) 4 ++ (lay (u64n s.Tickets.Geometry.Slots) 4 ++ (lay (u64n s.Tickets.Geometry.Gens) 4 ++ (lay (u64n s.Tickets.High) 4 ++ lay (u64n s.Tickets.Free) 4))) := by
        show lay _ 4 ++ (lay _ 4 ++ (lay _ 4 ++ (lay _ 4 ++ (lay _ 4 ++ [])))) = _
        rw [List.append_nil]
        rfl
      rw [e2]
      unfold supE supH
      simp only [List.append_assoc]
    have hlen2 : ([s.Tickets.Top, s.Dir] ++ s.Charts).length = 2 + s.Charts.length := by simp; omega
    have h5 : (lay (u64n s.Epoch) 8 ++ (List.range 5).flatMap fun i => lay (u64n (five s i)) 4).length = 28 := by
      rw [List.length_append, lay_len, flat_len (w := 4) (fun i => lay_len _ _)]
    have loop1 : loopM (super_Put.s1 fu s) fu (lay (u64n s.Epoch) 8 ++ (List.range 5).flatMap fun i => lay (u64n (five s i)) 4, 0) = some (supE s) := by
      refine loopM_run (S := fun j => (lay (u64n s.Epoch) 8 ++ ((List.range 5).flatMap fun i => lay (u64n (five s i)) 4) ++ rowE ([s.Tickets.Top, s.Dir] ++ s.Charts) j, (j : Int))) (2 + s.Charts.length) (by simp [rowE]) ?_ ?_ (by omega)
      · intro j hj
        unfold super_Put.s1
        have h1 : (j : Int) < (([s.Tickets.Top, s.Dir] ++ s.Charts).length : Int) := by omega
        have c0 : 0 ≤ (j : Int) := by omega
        have w3 : IntKind.i64.wrap ((j : Int) + 1) = ((j + 1 : Nat) : Int) := by rw [w64 (by omega) (by omega)]; omega
        have hlim : (lay (u64n s.Epoch) 8 ++ ((List.range 5).flatMap fun i => lay (u64n (five s i)) 4) ++ rowE ([s.Tickets.Top, s.Dir] ++ s.Charts) j).length + (lay (u64n (ix ([s.Tickets.Top, s.Dir] ++ s.Charts) (j : Int))) 2).length ≤ LIM := lim_of' (by rw [List.length_append, h5, rowE_len, lay_len]; omega)
        simp only [h1, c0, and_self, decide_true, if_true, w3, hl2, Option.bind_some]
        rw [if_pos hlim, List.append_assoc]
        congr 4
        rw [rowE, rowE, flat_succ]
      · unfold super_Put.s1
        rw [hlen2, eH]
        simp
    have hlim3 : ([s.Tickets.Top, s.Dir] : List Int).length + s.Charts.length ≤ LIM := lim_of' (by simp; omega)
    have hs := seal_eq (fu := fu) (k := 7) (t := (s.Charts.length : Int)) (supE_bytes s) (by omega) (by omega) (by rw [supE_len]; omega) hf
    simp only [h, decide_true, Bool.not_true, Bool.false_eq_true, if_false, octets1_eq hf, Option.bind_some, loop0, if_pos hlim3, loop1, hs, if_true]
  · simp [h]
theorem rsuperPut_eq {fu : Nat} {s : S_api_Super} (hk : s.Charts.length ≤ 8) (hf : 100 < fu) : rickyardref13_Put.f fu s = some ((sealed (summed 7 (s.Charts.length : Int) (supE s))).map toB) := by
  unfold rickyardref13_Put.f
  have hl8 : ∀ z : Int, rickyardref01_Lay.f fu (IntKind.u64.wrap z) 8 = some ((lay (u64n z) 8).map toB) := fun z => rlay64 (n := 8) (by decide) (by omega)
  have hl4 : ∀ z : Int, rickyardref01_Lay.f fu (IntKind.u64.wrap z) 4 = some ((lay (u64n z) 4).map toB) := fun z => rlay64 (n := 4) (by decide) (by omega)
  have hl2 : ∀ z : Int, rickyardref01_Lay.f fu (IntKind.u64.wrap z) 2 = some ((lay (u64n z) 2).map toB) := fun z => rlay64 (n := 2) (by decide) (by omega)
  have e0 : (lay (u64n s.Epoch) 8).map toB ++ (lay (u64n s.Tickets.Geometry.Blocks) 4).map toB ++ (lay (u64n s.Tickets.Geometry.Slots) 4).map toB ++ (lay (u64n s.Tickets.Geometry.Gens) 4).map toB ++ (lay (u64n s.Tickets.High) 4).map toB ++ (lay (u64n s.Tickets.Free) 4).map toB ++ (lay (u64n s.Tickets.Top) 2).map toB ++ (lay (u64n s.Dir) 2).map toB = (supH s).map toB := by simp [supH]
  have lm : ∀ v n, ((lay v n).map toB).length = n := fun v n => by rw [List.length_map, lay_len]
  have lim : ∀ {a : List UInt8} {b : List UInt8}, a.length + b.length ≤ 1000 → a.length + b.length ≤ LIM := fun h => lim_of' h
  have hloop : loopM (rickyardref13_Put.s0 fu s) fu ((supH s).map toB, 0) = some ((supE s).map toB) := by
    refine loopM_run (S := fun j => ((supH s ++ rowE s.Charts j).map toB, (j : Int))) s.Charts.length (by simp [rowE]) ?_ ?_ (by omega)
    · intro j hj
      unfold rickyardref13_Put.s0
      have h1 : (j : Int) < (s.Charts.length : Int) := by omega
      have c0 : 0 ≤ (j : Int) := by omega
      have w3 : IntKind.i64.wrap ((j : Int) + 1) = ((j + 1 : Nat) : Int) := by rw [w64 (by omega) (by omega)]; omega
      have hlim : ((supH s ++ rowE s.Charts j).map toB).length + ((lay (u64n (ix s.Charts (j : Int))) 2).map toB).length ≤ LIM := lim_of' (by rw [List.length_map, List.length_map, List.length_append, supH_len, rowE_len, lay_len]; omega)
      simp only [h1, c0, and_self, decide_true, if_true, w3, hl2, Option.bind_some, hlim]
      rw [← List.map_append, List.append_assoc]
      congr 5
      rw [rowE, rowE, flat_succ]
    · unfold rickyardref13_Put.s0
      simp [supE]
  have hs := rseal_eq (fu := fu) (k := 7) (t := (s.Charts.length : Int)) (supE_bytes s) (by omega) (by omega) (by rw [supE_len]; omega) hf
  simp only [hl8, hl4, hl2, Option.bind_some]
  rw [if_pos (lim (by simp only [List.length_append, lm]; decide)), if_pos (lim (by simp only [List.length_append, lm]; decide)), if_pos (lim (by simp only [List.length_append, lm]; decide)), if_pos (lim (by simp only [List.length_append, lm]; decide)), if_pos (lim (by simp only [List.length_append, lm]; decide)), if_pos (lim (by simp only [List.length_append, lm]; decide)), if_pos (lim (by simp only [List.length_append, lm]; decide)), e0, hloop, Option.bind_some, hs]
  rfl
def chartsOf (body : List Int) (t : Nat) : List Int := (List.range t).map fun i => intAt body (32 + 2 * i) 2
def supOf (body : List Int) (t : Nat) : S_api_Super := ⟨intAt body 0 8, ⟨⟨intAt body 8 4, intAt body 12 4, intAt body 16 4⟩, intAt body 28 2, intAt body 20 4, intAt body 24 4⟩, intAt body 30 2, chartsOf body t⟩
def GetU (b : List Int) : Prop := Is b ∧ ix b 4 = 7 ∧ ix b 5 ≤ 8 ∧ SupOk (supOf (b.drop 8) (ix b 5).toNat) ∧ ∀ y ∈ (b.drop 8).drop (32 + 2 * (ix b 5).toNat), y = 0
instance (b : List Int) : Decidable (GetU b) := inferInstanceAs (Decidable (_ ∧ _))
theorem sup_sealed {s : S_api_Super} (h : SupOk s) : Bytes (sealed (summed 7 (s.Charts.length : Int) (supE s))) ∧ (sealed (summed 7 (s.Charts.length : Int) (supE s))).length = 64 := by
  have k1 := h.len
  have hl := supE_len s
  exact ⟨sealed_bytes (summed_bytes (by omega) (by omega) (supE_bytes s)), sealed_len (summed_len (by omega))⟩
end Go.Proofs.Ytklhbaghbmndeaa.Pure
namespace Go.Proofs.Ytklhbaghbmndeaa
open Go Go.Xw
end Go.Proofs.Ytklhbaghbmndeaa
namespace Go.Proofs.Ytklhbaghbmndeaa.Pure
open Go Go.Xw
end Go.Proofs.Ytklhbaghbmndeaa.Pure
namespace Go.Proofs.Ytklhbaghbmndeaa
open Go Go.Xw
end Go.Proofs.Ytklhbaghbmndeaa
namespace Go.Proofs.Ytklhbaghbmndeaa.Pure
open Go Go.Xw
def andT (r : Int × Dev) (f : Dev → Int × Dev) : Int × Dev := if r.1 = 0 then f r.2 else r
def headD (p w : Int) (d : Dev) : Int × Dev := andT (wordD d p 0 w) fenceD
def tailD (p : Int) (ws : List Int) (d : Dev) : Int × Dev := andT (andT (putAll d (8 * p + 1) (ws.drop 1)) fun d => flushD d p) fenceD
def layW (p : Int) (ws : List Int) (d : Dev) : Int × Dev := andT (andT (headD p 0 d) (tailD p ws)) (headD p (ix ws 0))
def blockS (s : S_api_Super) : List Int := sealed (summed 7 (s.Charts.length : Int) (supE s))
def layD (p : Int) (s : S_api_Super) (d : Dev) : Int × Dev := if d.cells.length / 8 < 2 ∨ ¬ SupOk s ∨ ¬ (0 ≤ p ∧ p < 2) then (2, d) else layW p (wordsU (blockS s) 8) d
theorem andT_ok {n : Nat} {B C : Int} {r : Int × Dev} {f : Dev → Int × Dev} (h : DevOk n B r.2) (hf : ∀ d, DevOk n B d → DevOk n C (f d).2) (hc : B ≤ C) : DevOk n C (andT r f).2 := by
  unfold andT
  split
  · exact hf _ h
  · exact h.up hc
theorem word_ok {n : Nat} {B p i w : Int} {d : Dev} (h : DevOk n B d) (hw : U64 w) : DevOk n (B + 2) (wordD d p i w).2 := by
  unfold wordD
  split
  · exact (send_ok (k := p) (i := i) (ws := [w]) h (fun x hx => by rw [List.mem_singleton.1 hx]; exact hw)).up (by simp only [List.length_cons, List.length_nil]; omega)
  · exact h.up (by omega)
theorem head_ok {n : Nat} {B p w : Int} {d : Dev} (h : DevOk n B d) (hw : U64 w) : DevOk n (B + 3) (headD p w d).2 :=
  andT_ok (word_ok h hw) (fun d hd => (fence_ok hd).up (by omega)) (by omega)
theorem tail_ok {n : Nat} {B p : Int} {ws : List Int} {d : Dev} (h : DevOk n B d) (hw : ∀ w ∈ ws, U64 w) (hl : ws.length = 8) : DevOk n (B + 9) (tailD p ws d).2 := by
  have h1 := put_ok (k := 8 * p + 1) (ws := ws.drop 1) h (fun w hx => hw w (List.mem_of_mem_drop hx))
  rw [List.length_drop, hl] at h1
  exact andT_ok (B := B + 8) (andT_ok (B := B + 7) h1 (fun d hd => (flush_ok hd).up (by omega)) (by omega)) (fun d hd => (fence_ok hd).up (by omega)) (by omega)
theorem layW_ok {n : Nat} {B p : Int} {ws : List Int} {d : Dev} (h : DevOk n B d) (hw : ∀ w ∈ ws, U64 w) (hl : ws.length = 8) : DevOk n (B + 15) (layW p ws d).2 := by
  have h0 : U64 (ix ws 0) := by
    have : (0 : Int) = ((0 : Nat) : Int) := rfl
    rw [this, ix_nat (by omega)]
    exact hw _ (List.getElem_mem _)
  exact andT_ok (B := B + 12) (andT_ok (B := B + 3) (head_ok h (by unfold U64; decide)) (fun d hd => (tail_ok hd hw hl).up (by omega)) (by omega)) (fun d hd => (head_ok hd h0).up (by omega)) (by omega)
theorem blockS_words {s : S_api_Super} (h : SupOk s) : Bytes (blockS s) ∧ (blockS s).length = 64 := sup_sealed h
theorem layD_ok {n : Nat} {B p : Int} {s : S_api_Super} {d : Dev} (h : DevOk n B d) : DevOk n (B + 15) (layD p s d).2 := by
  unfold layD
  split
  · exact h.up (by omega)
  · rename_i q
    have hs : SupOk s := Classical.byContradiction fun z => q (.inr (.inl z))
    exact layW_ok h (words_U64 (blockS_words hs).1) (wordsU_len _ _)
theorem rmay_eq {fu : Nat} {d : Dev} (hl : d.cells.length ≤ 1000000) : root_may.f fu d = some (if d.cells.length / 8 < 2 then 2 else 0) := by
  unfold root_may.f
  rw [lines_eq hl]
  simp only [Option.bind_some]
  by_cases e : d.cells.length / 8 < 2
  · rw [decide_eq_true (show ((d.cells.length / 8 : Nat) : Int) < 2 by omega), if_pos rfl, if_pos e]
  · rw [decide_eq_false (show ¬ ((d.cells.length / 8 : Nat) : Int) < 2 by omega), if_neg (by decide), if_neg e]
theorem head_eq {fu n : Nat} {B p w : Int} {d : Dev} (h : DevOk n B d) (hB : B + 20 < 9223372036854775807) (hn : n ≤ 100000) (hw : U64 w) (hf : n + 2000 < fu) : root_head.f fu d p w = some (headD p w d) := by
  unfold root_head.f headD andT
  have h1 := word_ok (p := p) (i := 0) h hw
  rw [word_eq h (by omega) hn hw (by omega)]
  simp only [Option.bind_some]
  by_cases e : (wordD d p 0 w).1 = 0
  · rw [decide_eq_true e, if_neg (by decide), if_pos e, sure_eq h1 (by omega) hn (by omega)]
    rfl
  · rw [decide_eq_false e, if_pos (by decide), if_neg e]
theorem tail_loop {fu n : Nat} {line : Int} {ws : List Int} (hn : n ≤ 100000) (hw : ∀ w ∈ ws, U64 w) (hl : ws.length ≤ 1000) (hline : 0 ≤ line ∧ line ≤ 100000) : ∀ (r j : Nat) (B : Int) (d : Dev) (k : Nat), j + r = ws.length → DevOk n B d → B + (r : Int) < 9223372036854775807 → r < k →
    loopM (root_tail.s0 fu line ws) k (tup (j : Int) d) = some (if (putAll d (8 * line + (j : Int)) (ws.drop j)).1 = 0 then .inr ((putAll d (8 * line + (j : Int)) (ws.drop j)).2.cells, (putAll d (8 * line + (j : Int)) (ws.drop j)).2.plan.list, (putAll d (8 * line + (j : Int)) (ws.drop j)).2.plan.at_, (putAll d (8 * line + (j : Int)) (ws.drop j)).2.off, (putAll d (8 * line + (j : Int)) (ws.drop j)).2.armed, (putAll d (8 * line + (j : Int)) (ws.drop j)).2.left, (putAll d (8 * line + (j : Int)) (ws.drop j)).2.steps) else .inl (putAll d (8 * line + (j : Int)) (ws.drop j)))
  | r, j, B, d, 0, hj, h, hB, hk => by omega
  | 0, j, B, d, k + 1, hj, h, hB, hk => by
    unfold loopM
    have : j = ws.length := by omega
    subst this
    unfold root_tail.s0 tup
    rw [decide_eq_false (show ¬ ((ws.length : Int) < (ws.length : Int)) by omega), if_neg (by decide), List.drop_of_length_le (Nat.le_refl _)]
    rfl
  | r + 1, j, B, d, k + 1, hj, h, hB, hk => by
    have hjl : j < ws.length := by omega
    have hu := hw _ (List.getElem_mem hjl)
    have hst : pmem_Device_Store.f fu d (8 * line + (j : Int)) ws[j] = some (storeD d (8 * line + (j : Int)) ws[j]) := store_eq h (by omega) hu
    have w1 : IntKind.i64.wrap (line * 8) = 8 * line := by rw [w64 (by omega) (by omega)]; omega
    have w3 : IntKind.i64.wrap (8 * line + (j : Int)) = 8 * line + (j : Int) := w64 (by omega) (by omega)
    have hd : ws.drop j = ws[j] :: ws.drop (j + 1) := List.drop_eq_getElem_cons hjl
    unfold loopM
    have hs : root_tail.s0 fu line ws (tup (j : Int) d) = some (if (storeD d (8 * line + (j : Int)) ws[j]).1 = 0 then .inr (tup ((j + 1 : Nat) : Int) (storeD d (8 * line + (j : Int)) ws[j]).2) else .inl (.inl (storeD d (8 * line + (j : Int)) ws[j]))) := by
      unfold root_tail.s0 tup
      simp only [eta, w1, w3]
      rw [decide_eq_true (show (j : Int) < (ws.length : Int) by omega), if_pos rfl, if_pos (by omega), ix_nat hjl, hst, next64 hjl (by omega)]
      simp only [Option.bind_some]
      by_cases e : (storeD d (8 * line + (j : Int)) ws[j]).1 = 0
      · rw [decide_eq_true e, if_neg (by decide), if_pos e]
      · rw [decide_eq_false e, if_pos (by decide), if_neg e]
    rw [hs, hd]
    unfold putAll
    by_cases e : (storeD d (8 * line + (j : Int)) ws[j]).1 = 0
    · have ih := tail_loop (fu := fu) (n := n) (line := line) hn hw hl hline r (j + 1) (B + 1) (storeD d (8 * line + (j : Int)) ws[j]).2 k (by omega) (store_ok h hu) (by omega) (by omega)
      rw [show 8 * line + ((j + 1 : Nat) : Int) = 8 * line + (j : Int) + 1 from by omega] at ih
      rw [if_pos e, if_pos e]
      exact ih
    · rw [if_neg e, if_neg e]
      simp only [e, if_false]
theorem tail_eq {fu n : Nat} {B p : Int} {ws : List Int} {d : Dev} (h : DevOk n B d) (hB : B + 20 < 9223372036854775807) (hn : n ≤ 100000) (hw : ∀ w ∈ ws, U64 w) (hl : ws.length = 8) (hp : 0 ≤ p ∧ p ≤ 1000) (hf : n + 2000 < fu) : root_tail.f fu d p ws = some (tailD p ws d) := by
  unfold root_tail.f tailD andT
  have h1 := tail_loop (fu := fu) (line := p) hn hw (by omega) (by omega) 7 1 B d fu (by omega) h (by omega) (by omega)
  have h2 := put_ok (k := 8 * p + 1) (ws := ws.drop 1) h (fun w hx => hw w (List.mem_of_mem_drop hx))
  rw [List.length_drop, hl] at h2
  unfold tup at h1
  rw [show (((1 : Nat) : Int)) = 1 from rfl] at h1
  rw [h1]
  by_cases e : (putAll d (8 * p + 1) (ws.drop 1)).1 = 0
  · have h3 := flush_ok (k := p) h2
    rw [if_pos e, if_pos e]
    simp only [Option.bind_some, eta]
    rw [flush_eq h2 (by omega) (by omega) (by omega)]
    simp only [Option.bind_some]
    by_cases e2 : (flushD (putAll d (8 * p + 1) (ws.drop 1)).2 p).1 = 0
    · rw [decide_eq_true e2, if_neg (by decide), if_pos e2, sure_eq h3 (by omega) hn (by omega)]
      rfl
    · rw [decide_eq_false e2, if_pos (by decide), if_neg e2]
  · rw [if_neg e, if_neg e, if_neg e]
    rfl
theorem lay_dev {fu n : Nat} {B p : Int} {s : S_api_Super} {d : Dev} (h : DevOk n B d) (hB : B + 60 < 9223372036854775807) (hn : n ≤ 100000) (hf : n + 2000 < fu) : root_Lay.f fu d p s = some (layD p s d) := by
  unfold root_Lay.f
  have hlen := h.len
  rw [rmay_eq (by omega), superPut_eq (by omega)]
  simp only [Option.bind_some]
  by_cases h1 : d.cells.length / 8 < 2
  · have e1 : layD p s d = (2, d) := if_pos (.inl h1)
    rw [if_pos h1, if_pos (by decide), e1]
  rw [if_neg h1, if_neg (by decide)]
  by_cases h2 : SupOk s
  rotate_left
  · have e1 : layD p s d = (2, d) := if_pos (.inr (.inl h2))
    rw [if_neg h2, e1]
    rfl
  rw [if_pos h2]
  by_cases h3 : 0 ≤ p ∧ p < 2
  rotate_left
  · have : (if (!true) = true then true else (if (decide (p < 0)) = true then true else (decide (p ≥ 2)))) = true := by
      by_cases h0 : p < 0
      · rw [decide_eq_true h0]; rfl
      · rw [decide_eq_false h0, decide_eq_true (show p ≥ 2 by omega)]; rfl
    have e1 : layD p s d = (2, d) := if_pos (.inr (.inr h3))
    rw [if_pos this, e1]
  have : ¬ (if (!true) = true then true else (if (decide (p < 0)) = true then true else (decide (p ≥ 2)))) = true := by
    rw [decide_eq_false (show ¬ p < 0 by omega), decide_eq_false (show ¬ p ≥ 2 by omega)]
    decide
  have e1 : layD p s d = layW p (wordsU (blockS s) 8) d := if_neg (fun q => by
    rcases q with q | q | q
    · exact h1 q
    · exact q h2
    · exact q h3)
  rw [if_neg this, e1]
  obtain ⟨b1, b2⟩ := blockS_words h2
  have hwo : octet_Words.f fu (sealed (summed 7 (s.Charts.length : Int) (supE s))) = some (wordsU (blockS s) 8) := words_eq (n := 8) b1 (by show (blockS s).length = _; omega) (by decide) (by omega)
  have hwu := words_U64 (n := 8) b1
  have hwl : (wordsU (blockS s) 8).length = 8 := wordsU_len _ _
  rw [hwo]
  generalize wordsU (blockS s) 8 = ws at *
  have h0 : U64 (ix ws 0) := by
    have : (0 : Int) = ((0 : Nat) : Int) := rfl
    rw [this, ix_nat (by omega)]
    exact hwu _ (List.getElem_mem _)
  have k1 := head_ok (p := p) (w := 0) h (by unfold U64; decide)
  simp only [Option.bind_some]
  rw [head_eq h (by omega) hn (by unfold U64; decide) hf]
  unfold layW andT
  simp only [Option.bind_some]
  by_cases e1 : (headD p 0 d).1 = 0
  · have k2 := tail_ok (p := p) k1 hwu hwl
    rw [decide_eq_true e1, if_neg (by decide), tail_eq k1 (by omega) hn hwu hwl (by omega) hf, if_pos e1]
    simp only [Option.bind_some]
    by_cases e2 : (tailD p ws (headD p 0 d).2).1 = 0
    · rw [decide_eq_true e2, if_neg (by decide), if_pos (by omega), head_eq k2 (by omega) hn h0 hf, if_pos e2]
      rfl
    · rw [decide_eq_false e2, if_pos (by decide), if_neg e2]
  · rw [decide_eq_false e1, if_pos (by decide)]
    simp only [e1, if_false]
theorem word_len (d : Dev) (p i w : Int) : (wordD d p i w).2.cells.length = d.cells.length := by
  unfold wordD
  split
  · exact send_len _ _ _ _
  · rfl
theorem andT_len {r : Int × Dev} {f : Dev → Int × Dev} {n : Nat} (h : r.2.cells.length = n) (hf : ∀ d : Dev, d.cells.length = n → (f d).2.cells.length = n) : (andT r f).2.cells.length = n := by
  unfold andT
  split
  · exact hf _ h
  · exact h
theorem head_len (d : Dev) (p w : Int) : (headD p w d).2.cells.length = d.cells.length := andT_len (word_len _ _ _ _) fun e he => by rw [fence_len]; exact he
theorem tail_len (d : Dev) (p : Int) (ws : List Int) : (tailD p ws d).2.cells.length = d.cells.length := andT_len (andT_len (put_len _ _ _) fun e he => by rw [flush_len]; exact he) fun e he => by rw [fence_len]; exact he
theorem layW_len (d : Dev) (p : Int) (ws : List Int) : (layW p ws d).2.cells.length = d.cells.length := andT_len (andT_len (head_len _ _ _) fun e he => by rw [tail_len]; exact he) fun e he => by rw [head_len]; exact he
theorem andT_zero {r : Int × Dev} {f : Dev → Int × Dev} (h : (andT r f).1 = 0) : r.1 = 0 ∧ (f r.2).1 = 0 ∧ (andT r f).2 = (f r.2).2 := by
  unfold andT at h ⊢
  by_cases e : r.1 = 0
  · rw [if_pos e] at h
    rw [if_pos e]
    exact ⟨e, h, rfl⟩
  · rw [if_neg e] at h
    exact absurd h e
theorem wordZ {d : Dev} {p i w : Int} (h : (wordD d p i w).1 = 0) : inL d p ∧ (0 ≤ i ∧ i < 8) ∧ (sendD d p i [w]).1 = 0 ∧ wordD d p i w = sendD d p i [w] := by
  unfold wordD at h ⊢
  by_cases e : inL d p ∧ 0 ≤ i ∧ i < 8
  · rw [if_pos e] at h
    exact ⟨e.1, e.2, h, if_pos e⟩
  · rw [if_neg e] at h
    exact absurd (show (2 : Int) = 0 from h) (by decide)
theorem inL_of {d e : Dev} {p : Int} (h : inL d p) (hl : e.cells.length = d.cells.length) : inL e p := by
  unfold inL at h ⊢
  rw [hl]
  exact h
end Go.Proofs.Ytklhbaghbmndeaa.Pure
namespace Go.Proofs.Ytklhbaghbmndeaa
open Go Go.Xw
end Go.Proofs.Ytklhbaghbmndeaa
namespace Go.Proofs.Ytklhbaghbmndeaa.Pure
open Go Go.Xw
end Go.Proofs.Ytklhbaghbmndeaa.Pure
namespace Go.Proofs.Ytklhbaghbmndeaa
open Go Go.Xw
end Go.Proofs.Ytklhbaghbmndeaa
namespace Go.Proofs.Ytklhbaghbmndeaa.Pure
open Go Go.Xw
abbrev Ref := S_rickyardref05_Device
def sentD (d : Dev) : List Int := d.cells.map fun c => c.sent
def flushedD (d : Dev) : List Bool := d.cells.map fun c => c.flushed
def toM (d : Dev) (s : Int) : Ref := ⟨lastsD d, storedD d, sentD d, flushedD d, d.plan.list, s, if d.armed = true then d.left else -1, d.steps⟩
def Since (d : Dev) (s : Int) : Prop := d.plan.list.length ≠ 0 → d.plan.at_ = s % (d.plan.list.length : Int)
theorem set_same {α : Type} [Inhabited α] (l : List α) (k : Nat) (h : k < l.length) : l.set k (ix l (k : Int)) = l := by
  rw [ix_nat h]
  exact List.set_getElem_self h
theorem ix_map' {α β : Type} [Inhabited α] [Inhabited β] (f : α → β) (cs : List α) (k : Nat) (h : k < cs.length) : ix (cs.map f) (k : Int) = f (ix cs (k : Int)) := by
  rw [ix_nat (by simpa using h), ix_nat h, List.getElem_map]
theorem evict_set {cs : List Cell} {p : Int} {k : Nat} (hp : 0 ≤ p) (hk : p % (cs.length : Int) = (k : Int)) (hl : k < cs.length) : evict p cs = cs.set k (keepC (ix cs (k : Int)) (ix cs (k : Int)).stored) := by
  rw [set_upd (fun c => keepC c c.stored) hl]
  apply List.ext_getElem (by simp [evict])
  intro i h1 h2
  simp only [evict, List.getElem_mapIdx, hk]
  by_cases e : i = k
  · rw [if_pos e, if_pos ⟨hp, by omega⟩]
  · rw [if_neg e, if_neg fun z => e (by omega)]
theorem stored_keep {cs : List Cell} {k : Nat} {w : Int} (hl : k < cs.length) : (cs.set k (keepC (ix cs (k : Int)) w)).map (fun c => c.stored) = cs.map fun c => c.stored := by
  rw [List.map_set]
  have : (keepC (ix cs (k : Int)) w).stored = ix (cs.map fun c => c.stored) (k : Int) := by rw [ix_map' _ _ _ hl]; rfl
  rw [this, set_same _ _ (by simpa using hl)]
theorem rlast_eq {fu : Nat} {cs : List Cell} {k : Nat} {w : Int} {pl : List Int} {s le st : Int} (hl : k < cs.length) :
    rickyardref05_Device_last.f fu (⟨cs.map (fun c => c.lasts), cs.map (fun c => c.stored), cs.map (fun c => c.sent), cs.map (fun c => c.flushed), pl, s, le, st⟩ : Ref) (k : Int) w = some (⟨(cs.set k (keepC (ix cs (k : Int)) w)).map (fun c => c.lasts), (cs.set k (keepC (ix cs (k : Int)) w)).map (fun c => c.stored), (cs.set k (keepC (ix cs (k : Int)) w)).map (fun c => c.sent), (cs.set k (keepC (ix cs (k : Int)) w)).map (fun c => c.flushed), pl, s, le, st⟩ : Ref) := by
  unfold rickyardref05_Device_last.f
  simp only [List.length_map]
  rw [if_pos (by omega), if_pos (by omega), if_pos (by omega), Int.toNat_natCast, stored_keep hl, List.map_set, List.map_set, List.map_set]
  rfl
theorem rdstep_eq {fu n : Nat} {B s : Int} {d : Dev} (h : DevOk n B d) (hB : B < 9223372036854775807) (hs : 0 ≤ s ∧ s < 9223372036854775807) (hS : Since d s) (ho : d.off = false) : rickyardref05_Device_step.f fu (toM d s) = some (toM (tick d) (s + 1)) := by
  unfold rickyardref05_Device_step.f toM
  simp only []
  have hst := h.st
  have w1 : IntKind.i64.wrap (d.steps + 1) = d.steps + 1 := w64 (by omega) (by omega)
  have w2 : IntKind.i64.wrap (s + 1) = s + 1 := w64 (by omega) (by omega)
  have hll : (lastsD d).length = d.cells.length := by simp [lastsD]
  have hsl : (storedD d).length = d.cells.length := by simp [storedD]
  -- what is evicted
  have hA : ∀ (E : List Cell), E = evict (pick d.plan) d.cells →
      ((if (if (decide ((List.length d.plan.list : Int) > 0)) = true then (decide ((List.length (lastsD d) : Int) > 0)) else false) = true then (if (List.length d.plan.list : Int) ≠ 0 then (if 0 ≤ (Int.tmod s (List.length d.plan.list : Int)) ∧ (Int.tmod s (List.length d.plan.list : Int)) < (List.length d.plan.list : Int) then (((if (decide ((ix d.plan.list (Int.tmod s (List.length d.plan.list : Int))) ≥ 0)) = true then (if (List.length (lastsD d) : Int) ≠ 0 then (if (List.length (lastsD d) : Int) ≠ 0 then (if 0 ≤ (Int.tmod (ix d.plan.list (Int.tmod s (List.length d.plan.list : Int))) (List.length (lastsD d) : Int)) ∧ (Int.tmod (ix d.plan.list (Int.tmod s (List.length d.plan.list : Int))) (List.length (lastsD d) : Int)) < (List.length (storedD d) : Int) then ((rickyardref05_Device_last.f fu (⟨lastsD d, storedD d, sentD d, flushedD d, d.plan.list, s, if d.armed = true then d.left else -1, d.steps⟩ : Ref) (Int.tmod (ix d.plan.list (Int.tmod s (List.length d.plan.list : Int))) (List.length (lastsD d) : Int)) (ix (storedD d) (Int.tmod (ix d.plan.list (Int.tmod s (List.length d.plan.list : Int))) (List.length (lastsD d) : Int))) : Option S_rickyardref05_Device).bind fun t86 => some (t86.Lasts, t86.Stored, t86.Sent, t86.Flushed, t86.Plan, t86.Since, t86.Left, t86.Steps)) else none) else none) else none) else some (lastsD d, storedD d, sentD d, flushedD d, d.plan.list, s, (if d.armed = true then d.left else -1), d.steps)) : Option ((List Int) × (List Int) × (List Int) × (List Bool) × (List Int) × Int × Int × Int)).bind fun x53 => some (x53.1, x53.2.1, x53.2.2.1, x53.2.2.2.1, x53.2.2.2.2.1, x53.2.2.2.2.2.1, x53.2.2.2.2.2.2.1, x53.2.2.2.2.2.2.2)) else none) else none) else some (lastsD d, storedD d, sentD d, flushedD d, d.plan.list, s, (if d.armed = true then d.left else -1), d.steps)) : Option ((List Int) × (List Int) × (List Int) × (List Bool) × (List Int) × Int × Int × Int))
      = some (E.map (fun c => c.lasts), E.map (fun c => c.stored), E.map (fun c => c.sent), E.map (fun c => c.flushed), d.plan.list, s, (if d.armed = true then d.left else -1), d.steps) := by
    rintro E rfl
    by_cases z : d.plan.list.length = 0
    · have z' : ¬ ((List.length d.plan.list : Int) > 0) := by omega
      rw [decide_eq_false z', if_neg (by simp)]
      have : pick d.plan = -1 := by unfold pick; rw [if_pos z]
      rw [this, evict_no _ (by decide)]
      rfl
    · have z' : (List.length d.plan.list : Int) > 0 := by omega
      have z2 : (List.length d.plan.list : Int) ≠ 0 := by omega
      rw [decide_eq_true z', if_pos rfl]
      by_cases zc : d.cells = []
      · have : ¬ ((List.length (lastsD d) : Int) > 0) := by rw [hll, zc]; decide
        rw [decide_eq_false this, if_neg (by simp), zc, evict_nil]
        simp [lastsD, storedD, sentD, flushedD, zc]
      · have hc0 : 0 < d.cells.length := List.length_pos_iff.2 zc
        have c1 : (List.length (lastsD d) : Int) > 0 := by rw [hll]; omega
        rw [decide_eq_true c1, if_pos rfl, if_pos z2, Int.tmod_eq_emod_of_nonneg hs.1]
        have m0 := Int.emod_nonneg s z2
        have m1 := Int.emod_lt_of_pos s z'
        rw [if_pos ⟨m0, m1⟩]
        have hpk : pick d.plan = ix d.plan.list (s % (d.plan.list.length : Int)) := by
          unfold pick
          rw [if_neg z, hS z]
        rw [← hpk]
        by_cases hp : pick d.plan ≥ 0
        · rw [decide_eq_true hp, if_pos rfl, Int.tmod_eq_emod_of_nonneg hp]
          have c2 : (List.length (lastsD d) : Int) ≠ 0 := by omega
          rw [if_pos c2, if_pos c2, hll, hsl]
          have n0 := Int.emod_nonneg (pick d.plan) (show (d.cells.length : Int) ≠ 0 by omega)
          have n1 := Int.emod_lt_of_pos (pick d.plan) (show (d.cells.length : Int) > 0 by omega)
          rw [if_pos ⟨n0, n1⟩]
          obtain ⟨k, hk⟩ : ∃ k : Nat, pick d.plan % (d.cells.length : Int) = (k : Int) := ⟨(pick d.plan % (d.cells.length : Int)).toNat, by omega⟩
          have hkl : k < d.cells.length := by omega
          have e1 : ix (storedD d) (k : Int) = (ix d.cells (k : Int)).stored := ix_map' _ _ _ hkl
          rw [hk, e1, evict_set hp hk hkl]
          have := rlast_eq (fu := fu) (cs := d.cells) (w := (ix d.cells (k : Int)).stored) (pl := d.plan.list) (s := s) (le := if d.armed = true then d.left else -1) (st := d.steps) hkl
          unfold lastsD storedD sentD flushedD
          rw [this]
          rfl
        · rw [decide_eq_false hp, if_neg (by decide), evict_no _ hp]
          rfl
  rw [hA _ rfl]
  simp only [Option.bind_some, w1, w2]
  have hl : (if d.armed = true then d.left else -1) > 0 ↔ d.armed = true := by
    cases ha : d.armed
    · simp
    · have := h.arm ha
      rw [ho] at this
      have : d.left ≠ 0 := of_decide_eq_false this.2.2.symm
      simp
      omega
  have np : (nextP d.plan).list = d.plan.list := by unfold nextP; split <;> rfl
  cases ha : d.armed
  · simp [tick, lastsD, storedD, sentD, flushedD, ha, np]
  · have h3 := h.arm ha
    have : d.left > 0 := by
      have := hl.2 ha
      rwa [ha, if_pos rfl] at this
    rw [if_pos rfl, decide_eq_true this, if_pos rfl, w64 (by omega) (by omega)]
    simp [tick, lastsD, storedD, sentD, flushedD, ha, np]
theorem rerror_eq {fu n : Nat} {B s k m : Int} {d : Dev} (h : DevOk n B d) : rickyardref05_Device_error.f fu (toM d s) k m = some (mayI d.off k m) := by
  unfold rickyardref05_Device_error.f mayI toM
  have hl : (if d.armed = true then d.left else -1) = 0 ↔ d.off = true := by
    cases ha : d.armed
    · have := h.una ha
      simp [this]
    · have := (h.arm ha).2.2
      rw [this]
      simp
  simp only []
  by_cases e : d.off = true
  · rw [decide_eq_true (hl.2 e), if_pos rfl, if_pos e]
  · rw [decide_eq_false (fun q => e (hl.1 q)), if_neg (by decide), if_neg e]
    by_cases h1 : k < 0
    · simp [h1]
    · by_cases h2 : k ≥ m <;> simp [h1, h2]
theorem eta8 {m : Ref} : (⟨m.Lasts, m.Stored, m.Sent, m.Flushed, m.Plan, m.Since, m.Left, m.Steps⟩ : Ref) = m := rfl
def inc (b : Prop) [Decidable b] (s : Int) : Int := if b then s + 1 else s
theorem with_toM (d : Dev) (cs : List Cell) (s : Int) : toM (withC d cs) s = ⟨cs.map (fun c => c.lasts), cs.map (fun c => c.stored), cs.map (fun c => c.sent), cs.map (fun c => c.flushed), d.plan.list, s, if d.armed = true then d.left else -1, d.steps⟩ := rfl
theorem rstore_eq {fu n : Nat} {B s k w : Int} {d : Dev} (h : DevOk n B d) (hB : B < 9223372036854775807) (hs : 0 ≤ s ∧ s < 9223372036854775807) (hS : Since d s) (hw : U64 w) : rickyardref05_Device_Store.f fu (toM d s) k w = some ((storeD d k w).1, toM (storeD d k w).2 (inc (mayI d.off k (d.cells.length : Int) = 0) s)) := by
  unfold rickyardref05_Device_Store.f storeD inc
  have hll : (toM d s).Lasts.length = d.cells.length := by simp [toM, lastsD]
  rw [hll, rerror_eq h]
  simp only [Option.bind_some]
  by_cases e : mayI d.off k (d.cells.length : Int) = 0
  · obtain ⟨ho, h0, h1⟩ := may_zero.1 e
    have hsl : (toM d s).Stored.length = d.cells.length := by simp [toM, storedD]
    rw [decide_eq_true e, if_pos rfl, hsl, if_pos ⟨h0, h1⟩, if_pos e, if_pos e]
    obtain ⟨j, rfl⟩ : ∃ j : Nat, k = (j : Int) := ⟨k.toNat, by omega⟩
    have hj : j < d.cells.length := by omega
    have hput : putC (j : Int) w d.cells = d.cells.set j ⟨(ix d.cells (j : Int)).lasts, w, (ix d.cells (j : Int)).sent, (ix d.cells (j : Int)).flushed⟩ := by
      rw [set_upd (fun c => ⟨c.lasts, w, c.sent, c.flushed⟩) hj]
      apply List.ext_getElem (by simp [putC])
      intro i h1 h2
      simp only [putC, List.getElem_mapIdx, Int.natCast_inj]
    have e1 : (⟨(toM d s).Lasts, (List.set (toM d s).Stored (Int.toNat (j : Int)) w), (toM d s).Sent, (toM d s).Flushed, (toM d s).Plan, (toM d s).Since, (toM d s).Left, (toM d s).Steps⟩ : Ref) = toM (withC d (putC (j : Int) w d.cells)) s := by
      rw [with_toM, hput, List.map_set, List.map_set, List.map_set, List.map_set]
      have a1 : (ix d.cells (j : Int)).lasts = ix (d.cells.map fun c => c.lasts) (j : Int) := (ix_map' _ _ _ hj).symm
      have a2 : (ix d.cells (j : Int)).sent = ix (d.cells.map fun c => c.sent) (j : Int) := (ix_map' _ _ _ hj).symm
      have a3 : (ix d.cells (j : Int)).flushed = ix (d.cells.map fun c => c.flushed) (j : Int) := (ix_map' (fun c : Cell => c.flushed) _ _ hj).symm
      simp only []
      rw [a1, a2, a3, set_same _ _ (by simpa using hj), set_same _ _ (by simpa using hj), set_same _ _ (by simpa using hj)]
      rfl
    have hok : DevOk n B (withC d (putC (j : Int) w d.cells)) := with_ok h (by simp [putC, h.len]) (mapIdx_ok h.val fun i c hc => by
      split
      · exact ⟨hc.1, hw, hc.2.2⟩
      · exact hc)
    rw [e1, rdstep_eq hok hB hs hS ho]
    simp only [Option.bind_some, e]
  · rw [decide_eq_false e, if_neg (by decide), if_neg e, if_neg e]
    rfl
theorem sendL_lasts (k : Int) (cs : List Cell) : (sendL k cs).map (fun c => c.lasts) = cs.map fun c => c.lasts := by
  apply List.ext_getElem (by simp [sendL])
  intro i h1 h2
  simp only [sendL, List.getElem_map, List.getElem_mapIdx]
  split <;> rfl
theorem sendL_stored (k : Int) (cs : List Cell) : (sendL k cs).map (fun c => c.stored) = cs.map fun c => c.stored := by
  apply List.ext_getElem (by simp [sendL])
  intro i h1 h2
  simp only [sendL, List.getElem_map, List.getElem_mapIdx]
  split <;> rfl
theorem upd_sendL {cs : List Cell} {k : Nat} : upd (fun _ c => sendC c) (8 * k) 8 cs = sendL (k : Int) cs := by
  apply List.ext_getElem (by simp [upd, sendL])
  intro i h1 h2
  simp only [upd, sendL, List.getElem_mapIdx]
  by_cases c : 8 * k ≤ i ∧ i < 8 * k + 8
  · rw [if_pos c, if_pos (by omega)]
  · rw [if_neg c, if_neg (by omega)]
theorem rflush_eq {fu n : Nat} {B s k : Int} {d : Dev} (h : DevOk n B d) (hB : B < 9223372036854775807) (hn : n ≤ 100000) (hf : 8 < fu) (hs : 0 ≤ s ∧ s < 9223372036854775807) (hS : Since d s) : rickyardref05_Device_Flush.f fu (toM d s) k = some ((flushD d k).1, toM (flushD d k).2 (inc (mayI d.off k ((d.cells.length / 8 : Nat) : Int) = 0) s)) := by
  unfold rickyardref05_Device_Flush.f flushD inc
  have hlen := h.len
  have hll : (toM d s).Lasts.length = d.cells.length := by simp [toM, lastsD]
  have e0 : IntKind.i64.wrap (Int.tdiv (d.cells.length : Int) 8) = ((d.cells.length / 8 : Nat) : Int) := by
    rw [Int.tdiv_eq_ediv_of_nonneg (by omega), w64 (by omega) (by omega)]
    omega
  rw [hll, e0, rerror_eq h]
  simp only [Option.bind_some]
  by_cases e : mayI d.off k ((d.cells.length / 8 : Nat) : Int) = 0
  · obtain ⟨ho, h0, h1⟩ := may_zero.1 e
    rw [decide_eq_true e, if_pos rfl, if_pos e, if_pos e]
    obtain ⟨j, rfl⟩ : ∃ j : Nat, k = (j : Int) := ⟨k.toNat, by omega⟩
    have w1 : IntKind.i64.wrap (8 * (j : Int)) = ((8 * j : Nat) : Int) := by rw [w64 (by omega) (by omega)]; omega
    have w2 : IntKind.i64.wrap (((8 * j : Nat) : Int) + 8) = ((8 * j + 8 : Nat) : Int) := by rw [w64 (by omega) (by omega)]; omega
    have loop : loopM (rickyardref05_Device_Flush.s1 fu (toM d s) (j : Int)) fu (((8 * j : Nat) : Int), (toM d s).Sent, (toM d s).Flushed) = some ((sendL (j : Int) d.cells).map (fun c => c.sent), (sendL (j : Int) d.cells).map (fun c => c.flushed)) := by
      refine loopM_run (S := fun i => (((8 * j + i : Nat) : Int), (upd (fun _ c => sendC c) (8 * j) i d.cells).map (fun c => c.sent), (upd (fun _ c => sendC c) (8 * j) i d.cells).map (fun c => c.flushed))) 8 (by rw [upd_zero]; rfl) ?_ ?_ hf
      · intro i hi
        unfold rickyardref05_Device_Flush.s1
        have w3 : IntKind.i64.wrap (((8 * j + i : Nat) : Int) + 1) = ((8 * j + (i + 1) : Nat) : Int) := by rw [w64 (by omega) (by omega)]; omega
        have hsl : (toM d s).Stored.length = d.cells.length := by simp [toM, storedD]
        have e1 : ix (toM d s).Stored ((8 * j + i : Nat) : Int) = (ix d.cells ((8 * j + i : Nat) : Int)).stored := ix_map' _ _ _ (by omega)
        have hu := upd_set (fun _ c => sendC c) (8 * j) i d.cells (by omega)
        simp only [w1, w2, w3, List.length_map, upd_len, hsl, e1]
        rw [decide_eq_true (show ((8 * j + i : Nat) : Int) < ((8 * j + 8 : Nat) : Int) by omega), if_pos rfl, if_pos (by omega), if_pos (by omega), if_pos (by omega), Int.toNat_natCast, ← hu, List.map_set, List.map_set, ix_nat (by omega)]
        rfl
      · unfold rickyardref05_Device_Flush.s1
        simp only [w1, w2]
        rw [decide_eq_false (show ¬ ((8 * j + 8 : Nat) : Int) < ((8 * j + 8 : Nat) : Int) by omega), if_neg (by decide), upd_sendL]
    rw [w1, loop]
    have hok : DevOk n B (withC d (sendL (j : Int) d.cells)) := with_ok h (by simp [sendL, h.len]) (sendL_ok h.val)
    have e1 : (⟨(toM d s).Lasts, (toM d s).Stored, (sendL (j : Int) d.cells).map (fun c => c.sent), (sendL (j : Int) d.cells).map (fun c => c.flushed), (toM d s).Plan, (toM d s).Since, (toM d s).Left, (toM d s).Steps⟩ : Ref) = toM (withC d (sendL (j : Int) d.cells)) s := by
      rw [with_toM, sendL_lasts, sendL_stored]
      rfl
    simp only [Option.bind_some]
    rw [e1, rdstep_eq hok hB hs hS ho]
    simp only [Option.bind_some, e]
  · rw [decide_eq_false e, if_neg (by decide), if_neg e, if_neg e]
    rfl
def tupM (i : Int) (m : Ref) := (i, m.Lasts, m.Stored, m.Sent, m.Flushed, m.Plan, m.Since, m.Left, m.Steps)
theorem rfence_eq {fu n : Nat} {B s : Int} {d : Dev} (h : DevOk n B d) (hB : B < 9223372036854775807) (hn : n ≤ 100000) (hf : n < fu) (hs : 0 ≤ s ∧ s < 9223372036854775807) (hS : Since d s) : rickyardref05_Device_Fence.f fu (toM d s) = some ((fenceD d).1, toM (fenceD d).2 (inc (d.off = false) s)) := by
  unfold rickyardref05_Device_Fence.f fenceD inc
  have hlen := h.len
  rw [rerror_eq h]
  simp only [Option.bind_some]
  cases ho : d.off
  · have e : mayI false 0 1 = 0 := by decide
    rw [e]
    have loop : loopM (rickyardref05_Device_Fence.s1 fu) fu (tupM 0 (toM d s)) = some ((toM (withC d (d.cells.map fenceC)) s).Lasts, (toM (withC d (d.cells.map fenceC)) s).Stored, (toM (withC d (d.cells.map fenceC)) s).Sent, (toM (withC d (d.cells.map fenceC)) s).Flushed, (toM (withC d (d.cells.map fenceC)) s).Plan, (toM (withC d (d.cells.map fenceC)) s).Since, (toM (withC d (d.cells.map fenceC)) s).Left, (toM (withC d (d.cells.map fenceC)) s).Steps) := by
      refine loopM_run (S := fun i => tupM (i : Int) (toM (withC d (upd (fun _ c => fenceC c) 0 i d.cells)) s)) d.cells.length (by rw [upd_zero]; rfl) ?_ ?_ (by omega)
      · intro j hj
        have hlt : j < (upd (fun _ c => fenceC c) 0 j d.cells).length := by rw [upd_len]; omega
        have hnx : ix (upd (fun _ c => fenceC c) 0 j d.cells) (j : Int) = d.cells[j] := by
          rw [ix_nat hlt, upd_get, if_neg (by omega)]
        have hu := upd_set (fun _ c => fenceC c) 0 j d.cells (by omega)
        have hsm := upd_same (fun _ c => fenceC c) 0 j d.cells (by omega)
        simp only [Nat.zero_add] at hu hsm
        have hl := rlast_eq (fu := fu) (cs := upd (fun _ c => fenceC c) 0 j d.cells) (w := d.cells[j].sent) (pl := d.plan.list) (s := s) (le := if d.armed = true then d.left else -1) (st := d.steps) hlt
        rw [hnx] at hl
        have e1 : ix ((upd (fun _ c => fenceC c) 0 j d.cells).map fun c => c.flushed) (j : Int) = d.cells[j].flushed := by rw [ix_map' (fun c : Cell => c.flushed) _ _ hlt, hnx]
        have e2 : ix ((upd (fun _ c => fenceC c) 0 j d.cells).map fun c => c.sent) (j : Int) = d.cells[j].sent := by rw [ix_map' _ _ _ hlt, hnx]
        unfold rickyardref05_Device_Fence.s1 tupM
        rw [with_toM, with_toM]
        generalize hU : upd (fun _ c => fenceC c) 0 j d.cells = U at *
        have hUl : U.length = d.cells.length := by rw [← hU, upd_len]
        simp only [List.length_map, e1, e2, hUl]
        rw [decide_eq_true (show (j : Int) < (d.cells.length : Int) by omega), if_pos rfl, if_pos (by omega), next64 hj (by omega)]
        cases hfl : d.cells[j].flushed
        · have : fenceC d.cells[j] = d.cells[j] := by simp [fenceC, hfl]
          rw [← hsm this]
          simp only [Bool.false_eq_true, if_false, Option.bind_some]
        · have : fenceC d.cells[j] = keepC d.cells[j] d.cells[j].sent := by simp [fenceC, hfl]
          rw [this] at hu
          rw [if_pos rfl, if_pos (by omega), hl, ← hu]
          rfl
      · unfold rickyardref05_Device_Fence.s1 tupM
        have hLL : (toM (withC d (upd (fun _ c => fenceC c) 0 d.cells.length d.cells)) s).Lasts.length = d.cells.length := by simp [toM, lastsD, withC, upd_len]
        simp only [hLL]
        rw [decide_eq_false (show ¬ ((d.cells.length : Int) < (d.cells.length : Int)) by omega), if_neg (by decide), upd_all]
        have : (d.cells.mapIdx fun _ c => fenceC c) = d.cells.map fenceC := by
          apply List.ext_getElem (by simp)
          intro i h1 h2
          simp
        rw [this]
    unfold tupM at loop
    rw [decide_eq_true rfl, if_pos rfl, loop]
    have hok : DevOk n B (withC d (d.cells.map fenceC)) := with_ok h (by simp [h.len]) (fun c hc => by
        obtain ⟨x, hx, rfl⟩ := List.mem_map.1 hc
        exact fence_okC (h.val x hx))
    simp only [Option.bind_some, eta8]
    rw [rdstep_eq hok hB hs hS ho]
    rfl
  · have e : mayI true 0 1 = 3 := by decide
    rw [e]
    rfl
theorem since_tick {d : Dev} {cs : List Cell} {s : Int} (h : Since d s) : Since (tick (withC d cs)) (s + 1) := by
  have hl : (tick (withC d cs)).plan.list = d.plan.list := by
    show (nextP d.plan).list = _
    unfold nextP
    split <;> rfl
  intro e
  rw [hl] at e
  rw [hl]
  show (nextP d.plan).at_ = _
  unfold nextP
  rw [if_neg e]
  show (d.plan.at_ + 1) % (d.plan.list.length : Int) = _
  rw [h e]
  exact Int.emod_add_emod _ _ _
theorem rnew_eq {fu : Nat} {k : Nat} (hk : k ≤ 4096) : rickyardref05_New.f fu (k : Int) = some (toM (newD (8 * k)) 0) := by
  unfold rickyardref05_New.f
  have w : IntKind.i64.wrap (8 * (k : Int)) = ((8 * k : Nat) : Int) := by rw [w64 (by omega) (by omega)]; omega
  have c : 0 ≤ ((8 * k : Nat) : Int) ∧ 8 * k ≤ LIM := ⟨by omega, Nat.le_trans (by omega : _ ≤ 100000) (by decide)⟩
  rw [w, Int.toNat_natCast, if_pos c, if_pos c, if_pos c, if_pos c]
  simp [toM, newD, lastsD, storedD, sentD, flushedD]
def refD (d : Dev) (b : Int) : Ref := toM d (d.steps - b)
structure RefOk (n : Nat) (B : Int) (d : Dev) (b : Int) : Prop where
  ok : DevOk n B d
  b0 : 0 ≤ b
  b1 : b ≤ d.steps
  si : Since d (d.steps - b)
theorem RefOk.up {n : Nat} {B C b : Int} {d : Dev} (h : RefOk n B d b) (hc : B ≤ C) : RefOk n C d b := ⟨h.ok.up hc, h.b0, h.b1, h.si⟩
theorem RefOk.since0 {n : Nat} {B b : Int} {d : Dev} (h : RefOk n B d b) (hB : B < 9223372036854775807) : 0 ≤ d.steps - b ∧ d.steps - b < 9223372036854775807 := by
  have := h.ok.st
  have := h.b0
  have := h.b1
  omega
theorem storeR {fu n : Nat} {B b k w : Int} {d : Dev} (h : RefOk n B d b) (hB : B < 9223372036854775807) (hw : U64 w) : rickyardref05_Device_Store.f fu (refD d b) k w = some ((storeD d k w).1, refD (storeD d k w).2 b) ∧ RefOk n (B + 1) (storeD d k w).2 b := by
  have e : inc (mayI d.off k (d.cells.length : Int) = 0) (d.steps - b) = (storeD d k w).2.steps - b := by
    unfold inc storeD
    split
    · show d.steps - b + 1 = d.steps + 1 - b
      omega
    · rfl
  have hs := h.since0 hB
  refine ⟨?_, store_ok h.ok hw, h.b0, ?_, ?_⟩
  · unfold refD
    rw [rstore_eq h.ok hB hs h.si hw, e]
  · have := h.b1
    unfold storeD
    split
    · show b ≤ d.steps + 1
      omega
    · exact this
  · rw [← e]
    unfold storeD inc
    split
    · exact since_tick h.si
    · exact h.si
theorem flushR {fu n : Nat} {B b k : Int} {d : Dev} (h : RefOk n B d b) (hB : B < 9223372036854775807) (hn : n ≤ 100000) (hf : 8 < fu) : rickyardref05_Device_Flush.f fu (refD d b) k = some ((flushD d k).1, refD (flushD d k).2 b) ∧ RefOk n (B + 1) (flushD d k).2 b := by
  have e : inc (mayI d.off k ((d.cells.length / 8 : Nat) : Int) = 0) (d.steps - b) = (flushD d k).2.steps - b := by
    unfold inc flushD
    split
    · show d.steps - b + 1 = d.steps + 1 - b
      omega
    · rfl
  have hs := h.since0 hB
  refine ⟨?_, flush_ok h.ok, h.b0, ?_, ?_⟩
  · unfold refD
    rw [rflush_eq h.ok hB hn hf hs h.si, e]
  · have := h.b1
    unfold flushD
    split
    · show b ≤ d.steps + 1
      omega
    · exact this
  · rw [← e]
    unfold flushD inc
    split
    · exact since_tick h.si
    · exact h.si
theorem fenceR {fu n : Nat} {B b : Int} {d : Dev} (h : RefOk n B d b) (hB : B < 9223372036854775807) (hn : n ≤ 100000) (hf : n < fu) : rickyardref05_Device_Fence.f fu (refD d b) = some ((fenceD d).1, refD (fenceD d).2 b) ∧ RefOk n (B + 1) (fenceD d).2 b := by
  have e : inc (d.off = false) (d.steps - b) = (fenceD d).2.steps - b := by
    unfold inc fenceD
    cases ho : d.off
    · show d.steps - b + 1 = d.steps + 1 - b
      omega
    · rfl
  have hs := h.since0 hB
  refine ⟨?_, fence_ok h.ok, h.b0, ?_, ?_⟩
  · unfold refD
    rw [rfence_eq h.ok hB hn hf hs h.si, e]
  · have := h.b1
    unfold fenceD
    split
    · exact this
    · show b ≤ d.steps + 1
      omega
  · rw [← e]
    unfold fenceD inc
    cases ho : d.off
    · exact since_tick h.si
    · exact h.si
end Go.Proofs.Ytklhbaghbmndeaa.Pure
namespace Go.Proofs.Ytklhbaghbmndeaa
open Go Go.Xw
end Go.Proofs.Ytklhbaghbmndeaa
namespace Go.Proofs.Ytklhbaghbmndeaa.Pure
open Go Go.Xw
end Go.Proofs.Ytklhbaghbmndeaa.Pure
namespace Go.Proofs.Ytklhbaghbmndeaa
open Go Go.Xw
end Go.Proofs.Ytklhbaghbmndeaa
namespace Go.Proofs.Ytklhbaghbmndeaa.Pure
open Go Go.Xw
theorem putR {n : Nat} {b : Int} : ∀ {ws : List Int} {B k : Int} {d : Dev} (h : RefOk n B d b) (hB : B + (ws.length : Int) < 9223372036854775807) (hw : ∀ w ∈ ws, U64 w), RefOk n (B + (ws.length : Int)) (putAll d k ws).2 b
  | [], B, k, d, h, _, _ => h.up (by simp)
  | w :: ws, B, k, d, h, hB, hw => by
    simp only [List.length_cons] at hB
    have h1 := (storeR (fu := 0) (k := k) h (by omega) (hw w (by simp))).2
    unfold putAll
    split
    · exact (putR h1 (by omega) fun x hx => hw x (by simp [hx])).up (by simp only [List.length_cons]; omega)
    · exact h1.up (by simp only [List.length_cons]; omega)
theorem rlines_eq {fu : Nat} {d : Dev} {b : Int} (hl : d.cells.length ≤ 1000000) : rickyardref15_Lines.f fu (refD d b) = some ((d.cells.length / 8 : Nat) : Int) := by
  unfold rickyardref15_Lines.f
  have : (refD d b).Lasts.length = d.cells.length := by simp [refD, toM, lastsD]
  rw [this, Int.tdiv_eq_ediv_of_nonneg (by omega), w64 (by omega) (by omega)]
  congr 1
theorem rword_eq {fu n : Nat} {B line b i w : Int} {d : Dev} (h : RefOk n B d b) (hB : B + 9 < 9223372036854775807) (hn : n ≤ 100000) (hw : U64 w) (hf : 2000 < fu) : rickyardref15_Word.f fu (refD d b) line i w = some ((wordD d line i w).1, refD (wordD d line i w).2 b) ∧ RefOk n (B + 9) (wordD d line i w).2 b := by
  have hlen := h.ok.len
  have hc : (if (decide (line < 0)) = true then some (true) else ((rickyardref15_Lines.f fu (refD d b) : Option Int).bind fun t22 => (if (decide (line ≥ t22)) = true then some (true) else (if (decide (i < 0)) = true then some (true) else some ((decide (i > 7))))))) = some (decide (¬ (inL d line ∧ 0 ≤ i ∧ i < 8))) := by
    rw [rlines_eq (by omega)]
    by_cases h1 : line < 0
    · rw [decide_eq_true h1, if_pos rfl, decide_eq_true (show ¬ (inL d line ∧ 0 ≤ i ∧ i < 8) from fun q => by have q1 := q.1.1; have q2 := q.1.2; have q3 := q.2; omega)]
    · rw [decide_eq_false h1, if_neg (by decide)]
      simp only [Option.bind_some]
      by_cases h2 : line ≥ ((d.cells.length / 8 : Nat) : Int)
      · rw [decide_eq_true h2, if_pos rfl, decide_eq_true (show ¬ (inL d line ∧ 0 ≤ i ∧ i < 8) from fun q => by have q1 := q.1.1; have q2 := q.1.2; have q3 := q.2; omega)]
      · rw [decide_eq_false h2, if_neg (by decide)]
        by_cases h3 : i < 0
        · rw [decide_eq_true h3, if_pos rfl, decide_eq_true (show ¬ (inL d line ∧ 0 ≤ i ∧ i < 8) from fun q => by have q1 := q.1.1; have q2 := q.1.2; have q3 := q.2; omega)]
        · rw [decide_eq_false h3, if_neg (by decide)]
          by_cases h4 : i > 7
          · rw [decide_eq_true h4, decide_eq_true (show ¬ (inL d line ∧ 0 ≤ i ∧ i < 8) from fun q => by have q1 := q.1.1; have q2 := q.1.2; have q3 := q.2; omega)]
          · rw [decide_eq_false h4, decide_eq_false (show ¬ ¬ (inL d line ∧ 0 ≤ i ∧ i < 8) from fun q => q ⟨⟨by omega, by omega⟩, by omega⟩)]
  unfold rickyardref15_Word.f wordD
  rw [hc]
  simp only [Option.bind_some]
  by_cases hi : inL d line ∧ 0 ≤ i ∧ i < 8
  · rw [decide_eq_false (fun q => q hi), if_neg (by decide), if_pos hi]
    have hin := hi.1
    unfold inL at hin
    have w1 : IntKind.i64.wrap (8 * line) = 8 * line := w64 (by omega) (by omega)
    have w2 : IntKind.i64.wrap (8 * line + i) = 8 * line + i := w64 (by omega) (by omega)
    have h1 := storeR (fu := fu) (k := 8 * line + i) h (by omega) hw
    have h2 := flushR (fu := fu) (k := line) h1.2 (by omega) hn (by omega)
    rw [w1, w2, h1.1]
    unfold sendD putAll putAll
    simp only [Option.bind_some]
    by_cases e : (storeD d (8 * line + i) w).1 = 0
    · rw [decide_eq_true e, if_neg (by decide), if_pos e, if_pos rfl, h2.1]
      exact ⟨rfl, h2.2.up (by omega)⟩
    · rw [decide_eq_false e, if_pos (by decide), if_neg e, if_neg e]
      exact ⟨rfl, h1.2.up (by omega)⟩
  · rw [decide_eq_true hi, if_pos rfl, if_neg hi]
    exact ⟨rfl, h.up (by omega)⟩
def SmallP (acts : List S_rickyardlaw15_Act) (m : Nat) : Prop := acts.length ≤ m ∧ ∀ a ∈ acts, a.B.length ≤ 200 ∧ a.A.L.length ≤ 40
instance (acts : List S_rickyardlaw15_Act) (m : Nat) : Decidable (SmallP acts m) := inferInstanceAs (Decidable (_ ∧ _))
theorem andT_assoc (r : Int × Dev) (f g : Dev → Int × Dev) : andT (andT r f) g = andT r (fun d => andT (f d) g) := by
  unfold andT
  by_cases e : r.1 = 0
  · simp only [e, if_true]
  · simp only [e, if_false]
def Shut (c : Cell) : Prop := c.flushed = false ∧ c.stored = c.lasts
def Pend (c : Cell) : Prop := (c.flushed = true → c.sent = c.stored) ∧ (c.flushed = false → c.lasts = c.stored)
theorem Shut.pend {c : Cell} (h : Shut c) : Pend c := ⟨fun e => (by rw [h.1] at e; cases e), fun _ => h.2.symm⟩
theorem ev_shut : Evic Shut := fun c h => ⟨rfl, rfl⟩
theorem ev_pend : Evic Pend := fun c h => ⟨fun e => (by cases e), fun _ => rfl⟩
theorem pend_send (c : Cell) : Pend (sendC c) := ⟨fun _ => rfl, fun e => (by cases e)⟩
theorem pend_fence {d : Dev} {i : Nat} (hi : i < d.cells.length) (h : Pend (cellA d i)) (ho : d.off = false) : Shut (cellA (fenceD d).2 i) := by
  unfold fenceD
  rw [if_neg (by rw [ho]; decide)]
  refine at_tick ev_shut (by simpa [withC] using hi) ?_
  show Shut (ix (d.cells.map fenceC) (i : Int))
  rw [ix_mapC hi]
  unfold fenceC
  split
  · rename_i e
    exact ⟨rfl, (h.1 e).symm⟩
  · rename_i e
    have e' : (cellA d i).flushed = false := by simpa using (show ¬ (cellA d i).flushed = true from e)
    exact ⟨e', (h.2 e').symm⟩
theorem pend_flush {d : Dev} {p : Int} {i : Nat} (hi : i < d.cells.length) (h : ¬ (8 * p ≤ (i : Int) ∧ (i : Int) < 8 * p + 8) → Pend (cellA d i)) (hz : (flushD d p).1 = 0) : Pend (cellA (flushD d p).2 i) := by
  obtain ⟨ho, h0, h1⟩ := flush_zero hz
  unfold flushD
  rw [if_pos (may_zero.2 ⟨ho, h0, h1⟩)]
  refine at_tick ev_pend (by simpa [withC, sendL] using hi) ?_
  show Pend (ix (sendL p d.cells) (i : Int))
  unfold sendL
  rw [ix_mapIdx hi]
  split
  · exact pend_send _
  · rename_i q
    exact h q
theorem send_shut {d : Dev} {p first : Int} {ws : List Int} (hf : 0 ≤ first ∧ first + (ws.length : Int) ≤ 8) (hz : (sendD d p first ws).1 = 0) (h : ∀ i : Nat, i < d.cells.length → Shut (cellA d i)) (i : Nat) (hi : i < d.cells.length) : Pend (cellA (sendD d p first ws).2 i) := by
  obtain ⟨h1, h2, h3⟩ := send_zero hz
  rw [h3]
  refine pend_flush (by rw [put_len]; exact hi) (fun hno => ?_) h2
  exact (at_put ev_shut (ws := ws) (k := 8 * p + first) hi (h i hi) (by omega)).pend
theorem head_shut {d : Dev} {p w : Int} (hz : (headD p w d).1 = 0) (h : ∀ i : Nat, i < d.cells.length → Shut (cellA d i)) (i : Nat) (hi : i < d.cells.length) : Shut (cellA (headD p w d).2 i) := by
  obtain ⟨h1, h2, h3⟩ := andT_zero hz
  obtain ⟨_, _, h4, h5⟩ := wordZ h1
  rw [show headD p w d = andT (wordD d p 0 w) fenceD from rfl, h3]
  rw [h5] at h2 ⊢
  exact pend_fence (by rw [send_len]; exact hi) (send_shut (by simp) h4 h i hi) (fence_zero h2)
theorem tail_shut {d : Dev} {p : Int} {ws : List Int} (hw : ws.length = 8) (hz : (tailD p ws d).1 = 0) (h : ∀ i : Nat, i < d.cells.length → Shut (cellA d i)) (i : Nat) (hi : i < d.cells.length) : Shut (cellA (tailD p ws d).2 i) := by
  obtain ⟨h1, h2, h3⟩ := andT_zero hz
  obtain ⟨h4, h5, h6⟩ := andT_zero h1
  rw [show tailD p ws d = andT (andT (putAll d (8 * p + 1) (ws.drop 1)) fun d => flushD d p) fenceD from rfl, h3]
  rw [h6] at h2 ⊢
  refine pend_fence (by rw [flush_len, put_len]; exact hi) (pend_flush (by rw [put_len]; exact hi) (fun hno => ?_) h5) (fence_zero h2)
  exact (at_put ev_shut (ws := ws.drop 1) (k := 8 * p + 1) hi (h i hi) (by rw [List.length_drop, hw]; omega)).pend
theorem lay_shut {d : Dev} {p : Int} {ws : List Int} (hw : ws.length = 8) (hz : (layW p ws d).1 = 0) (h : ∀ i : Nat, i < d.cells.length → Shut (cellA d i)) (i : Nat) (hi : i < d.cells.length) : Shut (cellA (layW p ws d).2 i) := by
  obtain ⟨h1, h2, h3⟩ := andT_zero hz
  obtain ⟨h4, h5, h6⟩ := andT_zero h1
  rw [show layW p ws d = andT (andT (headD p 0 d) (tailD p ws)) (headD p (ix ws 0)) from rfl, h3]
  rw [h6] at h2 ⊢
  have s1 := head_shut h4 h
  have l1 := head_len d p 0
  have s2 := tail_shut hw h5 (fun j hj => s1 j (by omega))
  have l2 := tail_len (headD p 0 d).2 p ws
  exact head_shut h2 (fun j hj => s2 j (by omega)) i (by omega)
theorem un_head {d : Dev} {p w : Int} (h : Un d) (hp : inL d p) : (headD p w d).1 = 0 ∧ Un (headD p w d).2 := by
  have h1 := un_send (first := 0) (ws := [w]) h hp (by simp)
  have hwd : wordD d p 0 w = sendD d p 0 [w] := by
    unfold wordD
    rw [if_pos ⟨hp, by decide, by decide⟩]
  have h2 := un_fence h1.2.1
  unfold headD andT
  rw [hwd, if_pos h1.1]
  exact ⟨h2.1, h2.2.1⟩
theorem un_tail {d : Dev} {p : Int} {ws : List Int} (hw : ws.length = 8) (h : Un d) (hp : inL d p) : (tailD p ws d).1 = 0 ∧ Un (tailD p ws d).2 := by
  have hin := hp
  unfold inL at hin
  have hlen : (ws.drop 1).length = 7 := by rw [List.length_drop, hw]
  obtain ⟨a1, a2, _⟩ := un_put (ws := ws.drop 1) (k := 8 * p + 1) h (by omega) (by rw [hlen]; omega)
  obtain ⟨b1, b2, _⟩ := un_flush (k := p) a2 hin.1 (by rw [put_len]; exact hin.2)
  have c := un_fence b2
  unfold tailD andT
  simp only [a1, if_true, b1]
  exact ⟨c.1, c.2.1⟩
theorem un_lay {d : Dev} {p : Int} {ws : List Int} (hw : ws.length = 8) (h : Un d) (hp : inL d p) : (layW p ws d).1 = 0 ∧ Un (layW p ws d).2 := by
  obtain ⟨a1, a2⟩ := un_head (w := 0) h hp
  obtain ⟨b1, b2⟩ := un_tail hw a2 (inL_of hp (head_len _ _ _))
  have c := un_head (w := ix ws 0) b2 (inL_of hp (by rw [tail_len, head_len]))
  unfold layW andT
  simp only [a1, if_true, b1]
  exact c
theorem rfrom_eq {fu : Nat} {l : List Int} (hb : Bytes l) (hl : l.length ≤ 100000) (hf : l.length + 8 < fu) : rickyardref05_From.f fu l = some (refD (fromD l) 0) := by
  unfold rickyardref05_From.f
  have e0 : IntKind.i64.wrap (Int.tdiv (l.length : Int) 64) = ((l.length / 64 : Nat) : Int) := by
    rw [Int.tdiv_eq_ediv_of_nonneg (by omega), w64 (by omega) (by omega)]
    omega
  rw [e0, decide_eq_false (show ¬ ((l.length / 64 : Nat) : Int) > 4096 by omega), if_neg (by decide), Option.bind_some, rnew_eq (by omega), Option.bind_some]
  generalize hn : l.length / 64 = n
  have hwl : (wordsU l (8 * n)).length = 8 * n := wordsU_len _ _
  have w8 : IntKind.i64.wrap (8 * (n : Int)) = ((8 * n : Nat) : Int) := by rw [w64 (by omega) (by omega)]; omega
  have hL : (toM (newD (8 * n)) 0).Lasts = List.replicate (8 * n) (0 : Int) := by simp [toM, lastsD, newD]
  have hS : (toM (newD (8 * n)) 0).Stored = List.replicate (8 * n) (0 : Int) := by simp [toM, storedD, newD]
  have loop : loopM (rickyardref05_From.s0 fu l (n : Int)) fu (0, List.replicate (8 * n) (0 : Int), List.replicate (8 * n) (0 : Int)) = some (wordsU l (8 * n), wordsU l (8 * n)) := by
    refine loopM_run (S := fun j => ((j : Int), (wordsU l (8 * n)).take j ++ List.replicate (8 * n - j) (0 : Int), (wordsU l (8 * n)).take j ++ List.replicate (8 * n - j) (0 : Int))) (8 * n) (by simp) ?_ ?_ (by omega)
    · intro j hj
      unfold rickyardref05_From.s0
      have w1 : IntKind.i64.wrap (8 * (j : Int)) = ((8 * j : Nat) : Int) := by rw [w64 (by omega) (by omega)]; omega
      have w2 : IntKind.i64.wrap (((8 * j : Nat) : Int) + 8) = ((8 * j + 8 : Nat) : Int) := by rw [w64 (by omega) (by omega)]; omega
      have hcut : cut l ((8 * j : Nat) : Int) ((8 * j + 8 : Nat) : Int) = (l.drop (8 * j)).take 8 := by
        unfold cut
        rw [Int.toNat_natCast, Int.toNat_natCast, List.drop_take]
        congr 1
        omega
      have hval : (wordsU l (8 * n))[j]'(by omega) = ((num ((l.drop (8 * j)).take 8) : Nat) : Int) := by simp [wordsU]
      have hnum : rickyardref01_Number.f fu (List.map toB (cut l ((8 * j : Nat) : Int) ((8 * j + 8 : Nat) : Int))) = some ((wordsU l (8 * n))[j]'(by omega)) := by
        rw [hcut, rnumber_eq ((hb.drop _).take _) (by rw [List.length_take]; omega) (by rw [List.length_take]; omega), hval]
      have ht : ((wordsU l (8 * n)).take j).length = j := by rw [List.length_take]; omega
      have hlen : ((wordsU l (8 * n)).take j ++ List.replicate (8 * n - j) (0 : Int)).length = 8 * n := by rw [List.length_append, ht, List.length_replicate]; omega
      have hset : ((wordsU l (8 * n)).take j ++ List.replicate (8 * n - j) (0 : Int)).set j ((wordsU l (8 * n))[j]'(by omega)) = (wordsU l (8 * n)).take (j + 1) ++ List.replicate (8 * n - (j + 1)) (0 : Int) := by
        rw [set_next hj ht, take_next (by omega)]
      simp only [w8, w1, w2]
      rw [decide_eq_true (show (j : Int) < ((8 * n : Nat) : Int) by omega), if_pos rfl, if_pos (by omega), hnum, Option.bind_some, hlen, if_pos (by omega), Int.toNat_natCast, List.length_set, hlen, if_pos (by omega), if_pos (by omega), ix_set (by omega), hset, next64 hj (by omega)]
    · unfold rickyardref05_From.s0
      simp only [w8]
      rw [decide_eq_false (show ¬ ((8 * n : Nat) : Int) < ((8 * n : Nat) : Int) by omega), if_neg (by decide), Nat.sub_self, List.take_of_length_le (by omega)]
      simp
  rw [hL, hS, loop]
  have hcells : (fromD l).cells = (wordsU l (8 * n)).map wordC := by rw [← hn]; rfl
  have e1 : lastsD (fromD l) = wordsU l (8 * n) := by rw [from_lasts, hn]
  have e2 : storedD (fromD l) = wordsU l (8 * n) := by rw [from_stored, hn]
  have e3 : sentD (fromD l) = List.replicate (8 * n) (0 : Int) := by
    unfold sentD
    rw [hcells, List.map_map]
    apply List.ext_getElem (by simp [hwl])
    intro i h1 h2
    simp [wordC]
  have e4 : flushedD (fromD l) = List.replicate (8 * n) false := by
    unfold flushedD
    rw [hcells, List.map_map]
    apply List.ext_getElem (by simp [hwl])
    intro i h1 h2
    simp [wordC]
  simp only [Option.bind_some]
  unfold refD toM
  rw [e1, e2, e3, e4]
  simp [toM, sentD, flushedD, newD, fromD]
theorem fromR_ok {l : List Int} (hb : Bytes l) : RefOk (8 * (l.length / 64)) 0 (fromD l) 0 := ⟨from_ok hb, by decide, by simp [fromD], fun h => absurd rfl h⟩
theorem andR {n : Nat} {B C b : Int} {r : Int × Dev} {f : Dev → Int × Dev} (h : RefOk n B r.2 b) (hf : ∀ d, RefOk n B d b → RefOk n C (f d).2 b) (hc : B ≤ C) : RefOk n C (andT r f).2 b := by
  unfold andT
  split
  · exact hf _ h
  · exact h.up hc
def fields (m : Ref) := (m.Lasts, m.Stored, m.Sent, m.Flushed, m.Plan, m.Since, m.Left, m.Steps)
theorem rlay_loop {fu n : Nat} {p b : Int} {bs : List Int} (hn : n ≤ 100000) (hbs : Bytes bs) (hl : bs.length = 64) (hp : 0 ≤ p ∧ p ≤ 1000) (hf : 2000 < fu) : ∀ (r j : Nat) (B : Int) (d : Dev) (k : Nat), j + r = 8 → RefOk n B d b → B + (r : Int) < 9223372036854775807 → r < k →
    loopM (rickyardref16_Lay.s0 fu p (bs.map toB)) k (0, (j : Int), fields (refD d b)) = some ((putAll d (8 * p + (j : Int)) ((wordsU bs 8).drop j)).1, fields (refD (putAll d (8 * p + (j : Int)) ((wordsU bs 8).drop j)).2 b))
  | r, j, B, d, 0, hj, h, hB, hk => by omega
  | 0, j, B, d, k + 1, hj, h, hB, hk => by
    unfold loopM
    have : j = 8 := by omega
    subst this
    unfold rickyardref16_Lay.s0 fields
    rw [decide_eq_false (show ¬ (((8 : Nat) : Int) < 8) by decide), if_neg (by simp), List.drop_of_length_le (by rw [wordsU_len]; exact Nat.le_refl _)]
    rfl
  | r + 1, j, B, d, k + 1, hj, h, hB, hk => by
    have hjl : j < 8 := by omega
    have hwl : (wordsU bs 8).length = 8 := wordsU_len _ _
    have hu := words_U64 (n := 8) hbs _ (List.getElem_mem (show j < (wordsU bs 8).length by omega))
    have hval : (wordsU bs 8)[j]'(by omega) = ((num ((bs.drop (8 * j)).take 8) : Nat) : Int) := by simp [wordsU]
    have hst := storeR (fu := fu) (k := 8 * p + (j : Int)) h (by omega) hu
    have w1 : IntKind.i64.wrap (8 * (j : Int)) = ((8 * j : Nat) : Int) := by rw [w64 (by omega) (by omega)]; omega
    have w2 : IntKind.i64.wrap (((8 * j : Nat) : Int) + 8) = ((8 * j + 8 : Nat) : Int) := by rw [w64 (by omega) (by omega)]; omega
    have w3 : IntKind.i64.wrap (8 * p) = 8 * p := w64 (by omega) (by omega)
    have w4 : IntKind.i64.wrap (8 * p + (j : Int)) = 8 * p + (j : Int) := w64 (by omega) (by omega)
    have hd : (wordsU bs 8).drop j = (wordsU bs 8)[j]'(by omega) :: (wordsU bs 8).drop (j + 1) := List.drop_eq_getElem_cons (by omega)
    have hcut : cut bs ((8 * j : Nat) : Int) ((8 * j + 8 : Nat) : Int) = (bs.drop (8 * j)).take 8 := by
      unfold cut
      rw [Int.toNat_natCast, Int.toNat_natCast, List.drop_take]
      congr 1
      omega
    have hnum : rickyardref01_Number.f fu (cut (bs.map toB) ((8 * j : Nat) : Int) ((8 * j + 8 : Nat) : Int)) = some ((wordsU bs 8)[j]'(by omega)) := by
      rw [cut_map, hcut, rnumber_eq ((hbs.drop _).take _) (by rw [List.length_take]; omega) (by rw [List.length_take]; omega), hval]
    have hs : rickyardref16_Lay.s0 fu p (bs.map toB) (0, (j : Int), fields (refD d b)) = some (.inr ((storeD d (8 * p + (j : Int)) ((wordsU bs 8)[j]'(by omega))).1, ((j + 1 : Nat) : Int), fields (refD (storeD d (8 * p + (j : Int)) ((wordsU bs 8)[j]'(by omega))).2 b))) := by
      unfold rickyardref16_Lay.s0 fields
      simp only [eta8, w1, w2, w3, w4]
      rw [decide_eq_true (show (j : Int) < 8 by omega), if_pos (by rfl), List.length_map, if_pos (by omega), hnum, next64 hjl (by decide)]
      simp only [Option.bind_some]
      rw [hst.1]
      rfl
    unfold loopM
    rw [hs, hd]
    unfold putAll
    by_cases e : (storeD d (8 * p + (j : Int)) ((wordsU bs 8)[j]'(by omega))).1 = 0
    · have ih := rlay_loop (fu := fu) (n := n) (p := p) (b := b) hn hbs hl hp hf r (j + 1) (B + 1) (storeD d (8 * p + (j : Int)) ((wordsU bs 8)[j]'(by omega))).2 k (by omega) hst.2 (by omega) (by omega)
      rw [show 8 * p + ((j + 1 : Nat) : Int) = 8 * p + (j : Int) + 1 from by omega] at ih
      rw [if_pos e, e]
      exact ih
    · rw [if_neg e]
      obtain ⟨k', rfl⟩ : ∃ k', k = k' + 1 := ⟨k - 1, by omega⟩
      simp only []
      unfold loopM rickyardref16_Lay.s0 fields
      have : ∀ x : Bool, ¬ (if x = true then decide ((storeD d (8 * p + (j : Int)) ((wordsU bs 8)[j]'(by omega))).1 = 0) else false) = true := by
        intro x
        rw [decide_eq_false e]
        cases x <;> decide
      rw [if_neg (this _)]
theorem rlay_dev {fu n : Nat} {B b : Int} {p : Int} {s : S_api_Super} {d : Dev} (h : RefOk n B d b) (hB : B + 60 < 9223372036854775807) (hn : n ≤ 100000) (hs : SupOk s) (hp : 0 ≤ p ∧ p < 2) (hf : n + 2000 < fu) : rickyardref16_Lay.f fu (refD d b) p s = some ((layW p (wordsU (blockS s) 8) d).1, refD (layW p (wordsU (blockS s) 8) d).2 b) := by
  obtain ⟨b1, b2⟩ := blockS_words hs
  have hz : U64 0 := by unfold U64; decide
  have hwl : (wordsU (blockS s) 8).length = 8 := wordsU_len _ _
  have hwu := words_U64 (n := 8) b1
  have h0 : U64 (ix (wordsU (blockS s) 8) 0) := by
    have : (0 : Int) = ((0 : Nat) : Int) := rfl
    rw [this, ix_nat (by omega)]
    exact hwu _ (List.getElem_mem _)
  have hput : rickyardref13_Put.f fu s = some ((blockS s).map toB) := rsuperPut_eq hs.len.1 (by omega)
  have hnum : rickyardref01_Number.f fu (cut ((blockS s).map toB) 0 8) = some (ix (wordsU (blockS s) 8) 0) := by
    have hc : cut (blockS s) 0 8 = (blockS s).take 8 := rfl
    rw [cut_map, hc, rnumber_eq (b1.take _) (by rw [List.length_take]; omega) (by rw [List.length_take]; omega)]
    have : (0 : Int) = ((0 : Nat) : Int) := rfl
    rw [this, ix_nat (by omega)]
    simp [wordsU]
  -- the steps, one behind the other
  have A1 := rword_eq (fu := fu) (line := p) (i := 0) h (by omega) hn hz (by omega)
  have B1 := fun d (hd : RefOk n (B + 9) d b) => fenceR (fu := fu) hd (by omega) hn (by omega)
  have k1 : RefOk n (B + 10) (headD p 0 d).2 b := andR (B := B + 9) A1.2 (fun d hd => ((B1 d hd).2).up (by omega)) (by omega)
  have e1 : (((if (decide ((wordD d p 0 0).1 = 0)) = true then ((rickyardref05_Device_Fence.f fu (refD (wordD d p 0 0).2 b) : Option (Int × S_rickyardref05_Device)).bind fun t86 => some (t86.1, t86.2.Lasts, t86.2.Stored, t86.2.Sent, t86.2.Flushed, t86.2.Plan, t86.2.Since, t86.2.Left, t86.2.Steps)) else some ((wordD d p 0 0).1, (refD (wordD d p 0 0).2 b).Lasts, (refD (wordD d p 0 0).2 b).Stored, (refD (wordD d p 0 0).2 b).Sent, (refD (wordD d p 0 0).2 b).Flushed, (refD (wordD d p 0 0).2 b).Plan, (refD (wordD d p 0 0).2 b).Since, (refD (wordD d p 0 0).2 b).Left, (refD (wordD d p 0 0).2 b).Steps)) : Option (Int × (List Int) × (List Int) × (List Int) × (List Bool) × (List Int) × Int × Int × Int))) = some ((headD p 0 d).1, fields (refD (headD p 0 d).2 b)) := by
    unfold headD andT
    by_cases e : (wordD d p 0 0).1 = 0
    · rw [decide_eq_true e, if_pos rfl, if_pos e, (B1 _ A1.2).1]
      rfl
    · rw [decide_eq_false e, if_neg (by decide), if_neg e]
      rfl
  have e2 : loopM (rickyardref16_Lay.s0 fu p ((blockS s).map toB)) fu ((headD p 0 d).1, 1, fields (refD (headD p 0 d).2 b)) = some ((andT (headD p 0 d) fun d => putAll d (8 * p + 1) ((wordsU (blockS s) 8).drop 1)).1, fields (refD (andT (headD p 0 d) fun d => putAll d (8 * p + 1) ((wordsU (blockS s) 8).drop 1)).2 b)) := by
    unfold andT
    by_cases e : (headD p 0 d).1 = 0
    · rw [if_pos e, e]
      exact rlay_loop hn b1 b2 (by omega) (by omega) 7 1 (B + 10) _ fu rfl k1 (by omega) (by omega)
    · rw [if_neg e]
      obtain ⟨k', rfl⟩ : ∃ k', fu = k' + 1 := ⟨fu - 1, by omega⟩
      unfold loopM
      have : ∀ x : Bool, ¬ (if x = true then decide ((headD p 0 d).1 = 0) else false) = true := by
        intro x
        rw [decide_eq_false e]
        cases x <;> decide
      unfold rickyardref16_Lay.s0 fields
      rw [if_neg (this _)]
  have k2 : RefOk n (B + 17) (andT (headD p 0 d) fun d => putAll d (8 * p + 1) ((wordsU (blockS s) 8).drop 1)).2 b := andR (B := B + 10) k1 (fun d hd => by
    have := putR (k := 8 * p + 1) (ws := (wordsU (blockS s) 8).drop 1) hd (by rw [List.length_drop, hwl]; omega) (fun w hx => hwu w (List.mem_of_mem_drop hx))
    rw [List.length_drop, hwl] at this
    exact this.up (by omega)) (by omega)
  generalize hX : (andT (headD p 0 d) fun d => putAll d (8 * p + 1) ((wordsU (blockS s) 8).drop 1)) = X at *
  have k3 : RefOk n (B + 18) (andT X fun d => flushD d p).2 b := andR (B := B + 17) k2 (fun d hd => ((flushR (fu := fu) (k := p) hd (by omega) hn (by omega)).2).up (by omega)) (by omega)
  generalize hY : (andT X fun d => flushD d p) = Y at *
  have k4 : RefOk n (B + 19) (andT Y fenceD).2 b := andR (B := B + 18) k3 (fun d hd => ((fenceR (fu := fu) hd (by omega) hn (by omega)).2).up (by omega)) (by omega)
  generalize hZ : andT Y fenceD = Z at *
  have k5 : RefOk n (B + 28) (andT Z fun d => wordD d p 0 (ix (wordsU (blockS s) 8) 0)).2 b := andR (B := B + 19) k4 (fun d hd => ((rword_eq (fu := fu) (line := p) (i := 0) hd (by omega) hn h0 (by omega)).2).up (by omega)) (by omega)
  generalize hV : (andT Z fun d => wordD d p 0 (ix (wordsU (blockS s) 8) 0)) = V at *
  have hlay : layW p (wordsU (blockS s) 8) d = andT V fenceD := by
    rw [← hV, ← hZ, ← hY, ← hX]
    unfold layW tailD
    rw [andT_assoc, andT_assoc, andT_assoc, andT_assoc, andT_assoc]
    congr 1
    funext e
    rw [andT_assoc, andT_assoc]
    rfl
  unfold rickyardref16_Lay.f
  rw [hput, Option.bind_some, A1.1, Option.bind_some, e1, Option.bind_some]
  unfold fields at e2 ⊢
  simp only []
  rw [e2]
  simp only [Option.bind_some, eta8, List.length_map, b2]
  have f3 : ∀ (W : Int × Dev), (if (decide (X.1 = 0)) = true then ((rickyardref05_Device_Flush.f fu (refD X.2 b) p : Option (Int × S_rickyardref05_Device)).bind fun t234 => some (t234.1, t234.2.Lasts, t234.2.Stored, t234.2.Sent, t234.2.Flushed, t234.2.Plan, t234.2.Since, t234.2.Left, t234.2.Steps)) else some (X.1, (refD X.2 b).Lasts, (refD X.2 b).Stored, (refD X.2 b).Sent, (refD X.2 b).Flushed, (refD X.2 b).Plan, (refD X.2 b).Since, (refD X.2 b).Left, (refD X.2 b).Steps)) = some (Y.1, (refD Y.2 b).Lasts, (refD Y.2 b).Stored, (refD Y.2 b).Sent, (refD Y.2 b).Flushed, (refD Y.2 b).Plan, (refD Y.2 b).Since, (refD Y.2 b).Left, (refD Y.2 b).Steps) := by
    intro _
    rw [← hY]
    unfold andT
    by_cases e : X.1 = 0
    · rw [decide_eq_true e, if_pos rfl, if_pos e, (flushR (fu := fu) (k := p) k2 (by omega) hn (by omega)).1]
      rfl
    · rw [decide_eq_false e, if_neg (by decide), if_neg e]
  rw [f3 X]
  simp only [Option.bind_some, eta8]
  have f4 : (if (decide (Y.1 = 0)) = true then ((rickyardref05_Device_Fence.f fu (refD Y.2 b) : Option (Int × S_rickyardref05_Device)).bind fun t234 => some (t234.1, t234.2.Lasts, t234.2.Stored, t234.2.Sent, t234.2.Flushed, t234.2.Plan, t234.2.Since, t234.2.Left, t234.2.Steps)) else some (Y.1, (refD Y.2 b).Lasts, (refD Y.2 b).Stored, (refD Y.2 b).Sent, (refD Y.2 b).Flushed, (refD Y.2 b).Plan, (refD Y.2 b).Since, (refD Y.2 b).Left, (refD Y.2 b).Steps)) = some (Z.1, (refD Z.2 b).Lasts, (refD Z.2 b).Stored, (refD Z.2 b).Sent, (refD Z.2 b).Flushed, (refD Z.2 b).Plan, (refD Z.2 b).Since, (refD Z.2 b).Left, (refD Z.2 b).Steps) := by
    rw [← hZ]
    unfold andT
    by_cases e : Y.1 = 0
    · rw [decide_eq_true e, if_pos rfl, if_pos e, (fenceR (fu := fu) k3 (by omega) hn (by omega)).1]
      rfl
    · rw [decide_eq_false e, if_neg (by decide), if_neg e]
  rw [f4]
  simp only [Option.bind_some, eta8]
  rw [if_pos (show (8 : Int) ≤ ((64 : Nat) : Int) by decide), hnum]
  have f5 : (if (decide (Z.1 = 0)) = true then ((some (ix (wordsU (blockS s) 8) 0) : Option Int).bind fun t349 => ((rickyardref15_Word.f fu (refD Z.2 b) p 0 t349 : Option (Int × S_rickyardref05_Device)).bind fun t234 => some (t234.1, t234.2.Lasts, t234.2.Stored, t234.2.Sent, t234.2.Flushed, t234.2.Plan, t234.2.Since, t234.2.Left, t234.2.Steps))) else some (Z.1, (refD Z.2 b).Lasts, (refD Z.2 b).Stored, (refD Z.2 b).Sent, (refD Z.2 b).Flushed, (refD Z.2 b).Plan, (refD Z.2 b).Since, (refD Z.2 b).Left, (refD Z.2 b).Steps)) = some (V.1, (refD V.2 b).Lasts, (refD V.2 b).Stored, (refD V.2 b).Sent, (refD V.2 b).Flushed, (refD V.2 b).Plan, (refD V.2 b).Since, (refD V.2 b).Left, (refD V.2 b).Steps) := by
    rw [← hV]
    unfold andT
    by_cases e : Z.1 = 0
    · rw [decide_eq_true e, if_pos rfl, if_pos e, Option.bind_some, (rword_eq (fu := fu) (line := p) (i := 0) k4 (by omega) hn h0 (by omega)).1]
      rfl
    · rw [decide_eq_false e, if_neg (by decide), if_neg e]
  rw [f5]
  simp only [Option.bind_some, eta8]
  rw [hlay]
  unfold andT
  by_cases e : V.1 = 0
  · rw [decide_eq_true e, if_pos rfl, if_pos e, (fenceR (fu := fu) k5 (by omega) hn (by omega)).1]
    rfl
  · rw [decide_eq_false e, if_neg (by decide), if_neg e]
    rfl
theorem awake16 : rickyardlaw16_awake.f FU = some true := by decide +kernel
theorem RootLays : ∀ (a0 : List Int) (a1 : Int) (a2 : S_api_Super), ((∀ x ∈ a0, (Lit.int .u8 x).wf = true) ∧ List.length a0 ≤ maxLen) → (Lit.int .i64 a1).wf = true → ok_api_Super a2 → ∃ fu, rickyardlaw16_RootLays.f fu a0 a1 a2 = some true := by
  intro l p s hl hpp hs
  refine ⟨FU, ?_⟩
  unfold rickyardlaw16_RootLays.f
  rw [awake16, Option.bind_some, if_neg (show ¬ (!true) = true by decide)]
  by_cases hL : (l.length : Int) > 500
  · rw [decide_eq_true hL]
    rfl
  rw [decide_eq_false hL, if_neg (show ¬ false = true by decide)]
  by_cases h60 : (s.Charts.length : Int) > 60
  · rw [decide_eq_true h60]
    rfl
  rw [decide_eq_false h60, Option.bind_some, if_neg (show ¬ false = true by decide)]
  have hb : Bytes l := fun x hx => wf8.1 (hl.1 x hx)
  have hf : pmem_From.f FU l = some (fromD l) := from_eq hb (by omega) (by show _ < 200000; omega)
  have hr := fromR_ok hb
  have hd := hr.ok
  have hdl := hd.len
  have hle : root_Lay.f FU (fromD l) p s = some (layD p s (fromD l)) := lay_dev hd (by decide) (by omega) (by show _ < 200000; omega)
  rw [hf, Option.bind_some, hle, Option.bind_some, rsuperRight_eq (by decide)]
  have hcond : (if (decide (p < 0)) = true then some (true) else (if (decide (p > 1)) = true then some (true) else (if (decide ((List.length l : Int) < 128)) = true then some (true) else ((some (decide (SupOk s)) : Option Bool).bind fun t59 => some ((!t59)))))) = some (!decide ((0 ≤ p ∧ p < 2) ∧ 128 ≤ l.length ∧ SupOk s)) := by
    by_cases h1 : p < 0
    · rw [decide_eq_true h1, if_pos rfl, decide_eq_false (show ¬ ((0 ≤ p ∧ p < 2) ∧ 128 ≤ l.length ∧ SupOk s) from fun q => by have := q.1.1; omega)]
      rfl
    · rw [decide_eq_false h1, if_neg (by decide)]
      by_cases h2 : p > 1
      · rw [decide_eq_true h2, if_pos rfl, decide_eq_false (show ¬ ((0 ≤ p ∧ p < 2) ∧ 128 ≤ l.length ∧ SupOk s) from fun q => by have := q.1.2; omega)]
        rfl
      · rw [decide_eq_false h2, if_neg (by decide)]
        by_cases h3 : l.length < 128
        · rw [decide_eq_true (show (l.length : Int) < 128 by omega), if_pos rfl, decide_eq_false (show ¬ ((0 ≤ p ∧ p < 2) ∧ 128 ≤ l.length ∧ SupOk s) from fun q => by have := q.2.1; omega)]
          rfl
        · rw [decide_eq_false (show ¬ (l.length : Int) < 128 by omega), if_neg (by decide)]
          by_cases h4 : SupOk s
          · rw [decide_eq_true h4, decide_eq_true (show ((0 ≤ p ∧ p < 2) ∧ 128 ≤ l.length ∧ SupOk s) from ⟨by omega, by omega, h4⟩)]
            rfl
          · rw [decide_eq_false h4, decide_eq_false (show ¬ ((0 ≤ p ∧ p < 2) ∧ 128 ≤ l.length ∧ SupOk s) from fun q => h4 q.2.2)]
            rfl
  rw [hcond, Option.bind_some]
  by_cases hok : (0 ≤ p ∧ p < 2) ∧ 128 ≤ l.length ∧ SupOk s
  rotate_left
  · have el : layD p s (fromD l) = (2, fromD l) := if_pos (by
      by_cases h1 : (fromD l).cells.length / 8 < 2
      · exact .inl h1
      · right
        by_cases h2 : SupOk s
        · right
          exact fun h3 => hok ⟨h3, by omega, h2⟩
        · exact .inl h2)
    rw [decide_eq_false hok, if_pos (by rfl), el]
    rfl
  obtain ⟨hp, h128, hS⟩ := hok
  rw [decide_eq_true (show ((0 ≤ p ∧ p < 2) ∧ 128 ≤ l.length ∧ SupOk s) from ⟨hp, h128, hS⟩), if_neg (by decide)]
  have el : layD p s (fromD l) = layW p (wordsU (blockS s) 8) (fromD l) := if_neg (fun q => by
    rcases q with q | q | q
    · omega
    · exact q hS
    · exact q hp)
  have hwl : (wordsU (blockS s) 8).length = 8 := wordsU_len _ _
  have hrf : rickyardref05_From.f FU l = some (refD (fromD l) 0) := rfrom_eq hb (by omega) (by show _ < 200000; omega)
  have hrl : rickyardref16_Lay.f FU (refD (fromD l) 0) p s = some ((layW p (wordsU (blockS s) 8) (fromD l)).1, refD (layW p (wordsU (blockS s) 8) (fromD l)).2 0) := rlay_dev hr (by decide) (by omega) hS hp (by show _ < 200000; omega)
  have hun : Un (fromD l) := ⟨rfl, rfl⟩
  have hz := un_lay (ws := wordsU (blockS s) 8) hwl hun (p := p) ⟨hp.1, by omega⟩
  have hsh := lay_shut hwl hz.1 (fun i hi => by
    have : cellA (fromD l) i = wordC (ix (wordsU l (8 * (l.length / 64))) (i : Int)) := by
      unfold cellA
      have hc : (fromD l).cells = (wordsU l (8 * (l.length / 64))).map wordC := rfl
      rw [hc] at hi ⊢
      exact ix_map' wordC _ _ (by simpa using hi)
    rw [this]
    exact ⟨rfl, rfl⟩)
  have hdD := layD_ok (p := p) (s := s) hd
  rw [el] at hdD ⊢
  rw [hrf, Option.bind_some, hrl, Option.bind_some]
  have hll := layW_len (fromD l) p (wordsU (blockS s) 8)
  generalize hE : layW p (wordsU (blockS s) 8) (fromD l) = E at *
  have hn16 : 8 * (l.length / 64) ≤ 100 := by omega
  have i1 : pmem_Device_Image.f FU E.2 = some (octs (lastsD E.2)) := image_eq hdD (by omega) (by show _ < 200000; omega)
  have i2 : pmem_Device_View.f FU E.2 = some (octs (storedD E.2)) := view_eq hdD (by omega) (by show _ < 200000; omega)
  have hlen := hdD.len
  have i3 : pmem_Device_Fates.f FU E.2 = some [] := by
    have : pmem_Device_Fates.f FU E.2 = some (fatesD E.2) := fates_eq hdD (by omega) (by show _ < 200000; omega)
    rw [this, fates_none fun i hi => by
      have hs := hsh i (by omega)
      unfold cellA at hs
      unfold openC
      rw [hs.1, hs.2]
      simp]
  have i6 : rickyardref05_Text.f FU (refD E.2 0).Lasts = some ((octs (lastsD E.2)).map toB) := text_eq (fun w hw => by
    obtain ⟨c, hc, rfl⟩ := List.mem_map.1 hw
    exact (hdD.val c hc).1) (by simp [refD, toM, lastsD, hlen]; omega) (by simp only [refD, toM, lastsD, List.length_map, hlen]; show _ < 200000; omega)
  have i7 : rickyardref05_Text.f FU (refD E.2 0).Stored = some ((octs (storedD E.2)).map toB) := text_eq (fun w hw => by
    obtain ⟨c, hc, rfl⟩ := List.mem_map.1 hw
    exact (hdD.val c hc).2.1) (by simp [refD, toM, storedD, hlen]; omega) (by simp only [refD, toM, storedD, List.length_map, hlen]; show _ < 200000; omega)
  have i9 : (refD E.2 0).Steps = E.2.steps := rfl
  rw [decide_eq_true rfl, if_pos rfl, steps_eq, Option.bind_some, i9, decide_eq_true rfl, if_pos rfl, i1, Option.bind_some, i6, Option.bind_some, decide_eq_true rfl, if_pos rfl, i2, Option.bind_some, i7, Option.bind_some, decide_eq_true rfl, if_pos rfl, i3]
  rfl
end Go.Proofs.Ytklhbaghbmndeaa.Pure
namespace Go.Proofs.Ytklhbaghbmndeaa.rootLays
open Go.ChangeShapes Go.WideShapes Go.ChangeAt Go.RowKit
open Go.ChangeMaps (open_string shut_string)
open Go Go.Xw
theorem own : ownKnob Try.prog.godebug = none := Facts.own
theorem laidOut : laidOutB Try.prog = true := Facts.laid
theorem closed : joinedFacts Try.pinned.checked.prog 20 Try.f20 Rows.rootLaysSpec Rows.rootLaysRow = true := by
  unfold joinedFacts
  rw [Facts.enter, Facts.lifts, Facts.make, Facts.laid, Facts.rowed, Facts.plain, Facts.heard]
  kernel_rfl
theorem enc_seg {α : Type} (K : Kd α) (a : α) : K.enc a = cellsOf [Kd.seg K a] := by simp [cellsOf, Kd.seg]
def start : Input := ⟨#[], #[.slice none 0 0, .int .i64 0, .agg #[.int .i64 0, .int .i64 0, .int .i64 0, .int .i64 0, .int .i64 0, .int .i64 0, .int .i64 0, .int .i64 0, .slice none 0 0]], []⟩
set_option maxRecDepth 100000 in
set_option maxHeartbeats 1000000 in
theorem lifted (os : Os) (started : os.Started) (H : Type) (enc : TypeId × Value → H) :
    ReturnsInHanded {} Try.checked os 20 .any (Rows.rootLaysSpec.pre6 enc Try.prog Try.f20 Rows.rootLaysRow.domain false) (Rows.rootLaysSpec.post enc Try.prog Try.f20 false true false false) := by
  refine returnsInHanded_of_change_sized (C := Try.checked) own started (by kernel_rfl) Try.func20
    (ChangeSpec.witness6 (enc := enc) (C := Try.checked) false start 8 (by kernel_rfl) (by kernel_rfl) (by kernel_rfl) (by kernel_rfl)) ?_
  intro W base args ds gs before hval0 hW hcnd hsz0 _
  have hval : ∀ (j : Nat) t v, Try.f20.params[j]? = some t → args[j]? = some v → Value.okWide Try.prog W .any base t v := hval0
  have hW' := hW
  obtain ⟨p, q, hA0, hV, rfl, hfz, hnd⟩ := hW
  have hA : DataW.TrodAll enc Try.prog W 0 (fun _ => true) true Try.f20.params.toList args.toList ds p := hA0
  rw [Try.params20] at hA hval
  obtain ⟨v0, vs0, d0, ds0, p0, q0, hargs, rfl, rfl, h0, r0⟩ := trodAll_cons hA
  obtain ⟨v1, vs1, d1, ds1, p1, q1, rfl, rfl, rfl, h1, r1⟩ := trodAll_cons r0
  obtain ⟨v2, vs2, d2, ds2, p2, q2, rfl, rfl, rfl, h2, r2⟩ := trodAll_cons r1
  obtain ⟨rfl, rfl, rfl⟩ := trodAll_nil r2
  obtain rfl : args = #[v0, v1, v2] := by cases args; simp_all
  obtain ⟨rfl, rfl⟩ := trodVars_none hV
  have k0 := h0
  have lt0 : ∀ x ∈ p0, x.block < W.heap.size := by obtain ⟨m, hm⟩ := k0; exact DataW.trod_lt m _ _ _ hm
  obtain ⟨fu0, hf0⟩ := h0
  obtain ⟨aa0, len0, cap0, rfl⟩ := okWide_slice Try.underlying43 (hval 0 43 v0 rfl rfl)
  obtain ⟨a0, V0_0, e0, R0_0, o0, l0, _⟩ := (opn_slice (K := (kI .u8)) Try.underlying43 (by kernel_rfl) (by decide) (opn_int Try.underlying5)) enc _ _ _ _ _ _ hf0
  obtain rfl : Value.slice aa0 len0 cap0 = V0_0 := by simpa [Value.cells] using e0
  obtain ⟨a1, rfl, rfl, rfl, w1⟩ := open_int Try.underlying3 (hval 1 3 v1 rfl rfl) h1
  have k2 := h2
  have lt2 : ∀ x ∈ p2, x.block < W.heap.size := by obtain ⟨m, hm⟩ := k2; exact DataW.trod_lt m _ _ _ hm
  obtain ⟨fu2, hf2⟩ := h2
  obtain ⟨a2, V2_0, R2_0, e2, o2⟩ := opn_api_Super enc _ _ _ _ _ _ hf2
  obtain rfl := agg_of (by kernel_rfl) (hval 2 110 v2 rfl rfl) e2
  obtain ⟨fu, hfu⟩ := Pure.RootLays a0 a1 a2 ⟨o0, l0⟩ w1 o2
  refine Calls.mono (rickyardlaw16_RootLays.ok fu W a0 _ R0_0 a1 a2 _ R2_0 true hfu) fun e W' hr => ?_
  obtain ⟨v, rfl, rfl, gr⟩ := hr
  have bel := Fr.below gr
  exact ⟨_, rfl, _, _, _, [], _, [], hW', trodAll_mk1 (shut_bool Try.underlying4 _), (trodAll_cons_mk (Below.trod laidOut (by kernel_rfl) (of_decide_eq_true (by kernel_rfl)) k0 bel lt0) (trodAll_cons_mk (shut_int Try.underlying3 w1) (trodAll_cons_mk (Below.trod laidOut (by kernel_rfl) (of_decide_eq_true (by kernel_rfl)) k2 bel lt2) trodAll_mk0))), rfl, bel.frame _, fun h => by cases h⟩
theorem over : Rows.rootLaysRow.holds Try.pinned (OpenSpec.ofChange Rows.rootLaysSpec) :=
  OpenClaim.holds_of_wide 20 Try.f20 rfl rfl rfl rfl rfl rfl rfl ⟨rfl, rfl, rfl, rfl, rfl⟩ rfl rfl rfl rfl rfl (by kernel_rfl) Try.func20 closed
    (of_decide_eq_true (by kernel_rfl)) (by unfold Func.isWrapper; first | (rw [if_pos (by decide +kernel)]; kernel_rfl) | (rw [if_neg (by decide +kernel)]; exact ⟨rfl, rfl⟩))
    (fun os started H enc _ => lifted os started H enc)
theorem proved : Rows.RootLaysSaid := over
end Go.Proofs.Ytklhbaghbmndeaa.rootLays
namespace Go.Proofs.Ytklhbaghbmndeaa
theorem rootLays_holds : Rows.RootLaysSaid := rootLays.proved
#print axioms rootLays_holds
end Go.Proofs.Ytklhbaghbmndeaa
