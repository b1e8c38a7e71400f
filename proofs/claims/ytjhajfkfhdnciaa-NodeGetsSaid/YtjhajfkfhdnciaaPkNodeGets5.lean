/- NodeGets: texts merged, part 5 of 5. The last part proves that the law NodeGets holds for every input. -/
import Derived.Test.YtjhajfkfhdnciaaPkNodeGets4
/- Nodes in plain words. -/
set_option linter.unusedVariables false
set_option linter.unusedSimpArgs false
namespace Go.Proofs.Ytjhajfkfhdnciaa.Pure
open Go Go.Xw
theorem ix_ext {a b : List Int} (hl : a.length = b.length) (h : ∀ j, j < a.length → ix a (j : Int) = ix b (j : Int)) : a = b := by
  apply List.ext_getElem hl
  intro i h1 h2
  rw [← ix_nat h1, ← ix_nat h2]
  exact h i h1
theorem ints2_eq {fu : Nat} {a b : List Int} (ha : a.length ≤ 9000000000000000000) (hf : a.length < fu) : rickyardref01_Ints.f fu a b = some (decide (a = b)) := by
  unfold rickyardref01_Ints.f
  by_cases hl : a.length = b.length
  · have hL : (a.length : Int) = (b.length : Int) := by omega
    rw [decide_eq_true hL]
    simp only [Bool.not_true, Bool.false_eq_true, if_false]
    have hs : ∀ j : Nat, j < a.length → rickyardref01_Ints.s0 fu a b (j : Int) = some (if ix a (j : Int) = ix b (j : Int) then .inr ((j + 1 : Nat) : Int) else .inl (.inl false)) := by
      intro j hj
      unfold rickyardref01_Ints.s0
      have h1 : (j : Int) < (a.length : Int) := by omega
      have h2 : (j : Int) < (b.length : Int) := by omega
      have c0 : 0 ≤ (j : Int) := by omega
      have w3 : IntKind.i64.wrap ((j : Int) + 1) = ((j + 1 : Nat) : Int) := by rw [w64 (by omega) (by omega)]; omega
      simp only [h1, h2, c0, and_self, decide_true, if_true, w3]
      by_cases e : ix a (j : Int) = ix b (j : Int) <;> simp [e]
    by_cases h : a = b
    · have : loopM (rickyardref01_Ints.s0 fu a b) fu 0 = some (.inr ()) := by
        refine loopM_run (S := fun j => (j : Int)) a.length rfl (fun j hj => by rw [hs j hj, if_pos (by rw [h])]) ?_ hf
        unfold rickyardref01_Ints.s0
        simp
      rw [this]
      simp [h]
    · have : loopM (rickyardref01_Ints.s0 fu a b) fu 0 = some (.inl false) := by
        refine loopM_bad (S := fun j => (j : Int)) a.length (fun j => ix a (j : Int) = ix b (j : Int)) rfl ?_ (fun j hj _ hg => by rw [hs j hj, if_pos hg]) (fun j hj _ hg => by rw [hs j hj, if_neg hg]) hf
        apply Classical.byContradiction
        intro hx
        exact h (ix_ext hl fun i hi => Classical.byContradiction fun hg => hx ⟨i, hi, hg⟩)
      rw [this]
      simp [h]
  · have hL : ¬ (a.length : Int) = (b.length : Int) := by omega
    have h : ¬ a = b := fun e => hl (by rw [e])
    rw [decide_eq_false hL, decide_eq_false h]
    rfl
theorem equal_eq {fu : Nat} {a b : List Int} (ha : a.length ≤ 9000000000000000000) (hf : a.length < fu) : slices_Equal.f fu a b = some (decide (a = b)) := by
  unfold slices_Equal.f
  by_cases hl : a.length = b.length
  · have hL : (a.length : Int) = (b.length : Int) := by omega
    rw [decide_eq_true hL]
    simp only [Bool.not_true, Bool.false_eq_true, if_false]
    have hs : ∀ j : Nat, j < a.length → slices_Equal.s0 fu a b (j : Int) = some (if ix a (j : Int) = ix b (j : Int) then .inr ((j + 1 : Nat) : Int) else .inl (.inl false)) := by
      intro j hj
      unfold slices_Equal.s0
      have h1 : (j : Int) < (a.length : Int) := by omega
      have h2 : (j : Int) < (b.length : Int) := by omega
      have c0 : 0 ≤ (j : Int) := by omega
      have w3 : IntKind.i64.wrap ((j : Int) + 1) = ((j + 1 : Nat) : Int) := by rw [w64 (by omega) (by omega)]; omega
      simp only [h1, h2, c0, and_self, decide_true, if_true, w3]
      by_cases e : ix a (j : Int) = ix b (j : Int) <;> simp [e]
    by_cases h : a = b
    · have : loopM (slices_Equal.s0 fu a b) fu 0 = some (.inr ()) := by
        refine loopM_run (S := fun j => (j : Int)) a.length rfl (fun j hj => by rw [hs j hj, if_pos (by rw [h])]) ?_ hf
        unfold slices_Equal.s0
        simp
      rw [this]
      simp [h]
    · have : loopM (slices_Equal.s0 fu a b) fu 0 = some (.inl false) := by
        refine loopM_bad (S := fun j => (j : Int)) a.length (fun j => ix a (j : Int) = ix b (j : Int)) rfl ?_ (fun j hj _ hg => by rw [hs j hj, if_pos hg]) (fun j hj _ hg => by rw [hs j hj, if_neg hg]) hf
        apply Classical.byContradiction
        intro hx
        exact h (ix_ext hl fun i hi => Classical.byContradiction fun hg => hx ⟨i, hi, hg⟩)
      rw [this]
      simp [h]
  · have hL : ¬ (a.length : Int) = (b.length : Int) := by omega
    have h : ¬ a = b := fun e => hl (by rw [e])
    rw [decide_eq_false hL, decide_eq_false h]
    rfl
/-! ### Right nodes -/
def blockOk (x : Int) : Prop := 2 ≤ x ∧ x ≤ 3071
instance (x : Int) : Decidable (blockOk x) := inferInstanceAs (Decidable (_ ∧ _))
def kidsOk (l : List Int) : Prop := ∀ j, j < l.length → blockOk (ix l (j : Int))
instance (l : List Int) : Decidable (kidsOk l) := inferInstanceAs (Decidable (∀ j, j < l.length → _))
def headOk (n : S_api_Node) : Prop := (0 ≤ n.Entry.Handle.Slot ∧ n.Entry.Handle.Slot ≤ 1791) ∧ (1 ≤ n.Entry.Handle.Gen ∧ n.Entry.Handle.Gen ≤ 4294967295) ∧ n.Kids.length ≤ 12
instance (n : S_api_Node) : Decidable (headOk n) := inferInstanceAs (Decidable (_ ∧ _))
def NodeR (n : S_api_Node) : Prop := headOk n ∧ kidsOk n.Kids
instance (n : S_api_Node) : Decidable (NodeR n) := inferInstanceAs (Decidable (_ ∧ _))
theorem rblock8_eq (fu : Nat) (a : Int) : rickyardref08_Block.f fu a = some (decide (blockOk a)) := by
  unfold rickyardref08_Block.f blockOk
  by_cases h : 2 ≤ a <;> simp [h]
theorem nodeRight_eq {fu : Nat} {n : S_api_Node} (hf : 100 < fu) : node_Right.f fu n = some (decide (NodeR n)) := by
  unfold node_Right.f
  by_cases hh : headOk n
  · have hh' := hh
    unfold headOk at hh'
    obtain ⟨⟨s0, s1⟩, ⟨g0, g1⟩, k1⟩ := hh'
    have c1 : ¬ n.Entry.Handle.Slot < 0 := by omega
    have c2 : ¬ n.Entry.Handle.Slot ≥ 1792 := by omega
    have c3 : ¬ n.Entry.Handle.Gen < 1 := by omega
    have c4 : ¬ n.Entry.Handle.Gen > 4294967295 := by omega
    have c5 : ¬ (n.Kids.length : Int) > 12 := by omega
    have hs : ∀ j : Nat, j < n.Kids.length → slices_IndexFunc__node_Right_1.s0 fu n.Kids (j : Int) = some (if blockOk (ix n.Kids (j : Int)) then .inr ((j + 1 : Nat) : Int) else .inl (.inl (j : Int))) := by
      intro j hj
      unfold slices_IndexFunc__node_Right_1.s0 node_Right_1.f
      have h1 : (j : Int) < (n.Kids.length : Int) := by omega
      have c0 : 0 ≤ (j : Int) := by omega
      have w3 : IntKind.i64.wrap ((j : Int) + 1) = ((j + 1 : Nat) : Int) := by rw [w64 (by omega) (by omega)]; omega
      simp only [h1, c0, and_self, decide_true, if_true, w3, Option.bind_some]
      unfold blockOk
      by_cases h2 : ix n.Kids (j : Int) < 2
      · have h3 : ¬ (2 ≤ ix n.Kids (j : Int) ∧ ix n.Kids (j : Int) ≤ 3071) := by omega
        simp [h2, h3]
      · by_cases h4 : ix n.Kids (j : Int) ≥ 3072
        · have h3 : ¬ (2 ≤ ix n.Kids (j : Int) ∧ ix n.Kids (j : Int) ≤ 3071) := by omega
          simp only [h2, h4, h3, decide_true, decide_false, if_true, if_false, Bool.false_eq_true]
        · have h3 : 2 ≤ ix n.Kids (j : Int) ∧ ix n.Kids (j : Int) ≤ 3071 := by omega
          simp only [h2, h4, h3, decide_true, decide_false, if_true, if_false, Bool.false_eq_true, and_self]
    have hi : ∃ r : Int, slices_IndexFunc__node_Right_1.f fu n.Kids = some r ∧ (r ≥ 0 ↔ ¬ kidsOk n.Kids) := by
      unfold slices_IndexFunc__node_Right_1.f
      by_cases hk : kidsOk n.Kids
      · have : loopM (slices_IndexFunc__node_Right_1.s0 fu n.Kids) fu 0 = some (.inr ()) := by
          refine loopM_run (S := fun j => (j : Int)) n.Kids.length rfl (fun j hj => by rw [hs j hj, if_pos (hk j hj)]) ?_ (by omega)
          unfold slices_IndexFunc__node_Right_1.s0
          simp
        rw [this]
        exact ⟨-1, rfl, by simp [hk]⟩
      · have hmin : ∀ m j, j ≤ m → (j < n.Kids.length ∧ ¬ blockOk (ix n.Kids (j : Int))) → ∃ q, (q < n.Kids.length ∧ ¬ blockOk (ix n.Kids (q : Int))) ∧ ∀ i, i < q → blockOk (ix n.Kids (i : Int)) := by
          intro m
          induction m with
          | zero =>
            intro j hj hjj
            exact ⟨j, hjj, fun i hi => by omega⟩
          | succ m ih =>
            intro j hj hjj
            by_cases hx : ∃ i, i < j ∧ ¬ blockOk (ix n.Kids (i : Int))
            · obtain ⟨i, hi, hgi⟩ := hx
              exact ih i (by omega) ⟨by omega, hgi⟩
            · exact ⟨j, hjj, fun i hi => Classical.byContradiction fun hg => hx ⟨i, hi, hg⟩⟩
        have hex : ∃ j, j < n.Kids.length ∧ ¬ blockOk (ix n.Kids (j : Int)) := by
          apply Classical.byContradiction
          intro hx
          exact hk fun i hi => Classical.byContradiction fun hg => hx ⟨i, hi, hg⟩
        obtain ⟨j, hj⟩ := hex
        obtain ⟨q, ⟨hq, hg⟩, hall⟩ := hmin j j (Nat.le_refl _) hj
        have : loopM (slices_IndexFunc__node_Right_1.s0 fu n.Kids) fu 0 = some (.inl (q : Int)) :=
          loopM_run (S := fun j => (j : Int)) q rfl (fun i hi => by rw [hs i (by omega), if_pos (hall i hi)]) (by rw [hs q hq, if_neg hg]) (by omega)
        rw [this]
        refine ⟨(q : Int), rfl, ?_⟩
        simp only [hk, not_false_eq_true, iff_true]
        omega
    obtain ⟨r, hr, hrk⟩ := hi
    unfold slices_ContainsFunc__node_Right_1.f
    rw [hr]
    simp only [c1, c2, c3, c4, c5, decide_false, Bool.false_eq_true, if_false, Option.bind_some]
    by_cases hk : kidsOk n.Kids
    · have h1 : ¬ r ≥ 0 := fun x => (hrk.1 x) hk
      have hn : NodeR n := ⟨hh, hk⟩
      rw [decide_eq_false h1, decide_eq_true hn]
      rfl
    · have h1 : r ≥ 0 := hrk.2 hk
      have hn : ¬ NodeR n := fun x => hk x.2
      rw [decide_eq_true h1, decide_eq_false hn]
      rfl
  · have hn : ¬ NodeR n := fun x => hh x.1
    have c0 : (if (decide (n.Entry.Handle.Slot < 0)) = true then true else (if (decide (n.Entry.Handle.Slot ≥ 1792)) = true then true else (if (decide (n.Entry.Handle.Gen < 1)) = true then true else (if (decide (n.Entry.Handle.Gen > 4294967295)) = true then true else (decide ((List.length n.Kids : Int) > 12)))))) = true := by
      unfold headOk at hh
      by_cases c1 : n.Entry.Handle.Slot < 0
      · simp [c1]
      · by_cases c2 : n.Entry.Handle.Slot ≥ 1792
        · simp [c2]
        · by_cases c3 : n.Entry.Handle.Gen < 1
          · simp [c3]
          · by_cases c4 : n.Entry.Handle.Gen > 4294967295
            · simp [c4]
            · have c5 : (n.Kids.length : Int) > 12 := by omega
              simp [c5]
    rw [c0, decide_eq_false hn]
    rfl
theorem rnodeRight_eq {fu : Nat} {n : S_api_Node} (hl : n.Kids.length ≤ 9000000000000000000) (hf : 100 < fu) : rickyardref08_Right.f fu n = some (decide (NodeR n)) := by
  unfold rickyardref08_Right.f
  have c0 : (if (decide (n.Entry.Handle.Slot ≥ 0)) = true then (if (decide (n.Entry.Handle.Slot ≤ 1791)) = true then (if (decide (n.Entry.Handle.Gen ≥ 1)) = true then (if (decide (n.Entry.Handle.Gen ≤ 4294967295)) = true then (decide ((List.length n.Kids : Int) ≤ 12)) else false) else false) else false) else false) = decide (headOk n) := by
    by_cases hh : headOk n
    · have hh' := hh
      unfold headOk at hh'
      have c1 : n.Entry.Handle.Slot ≥ 0 := by omega
      have c2 : n.Entry.Handle.Slot ≤ 1791 := by omega
      have c3 : n.Entry.Handle.Gen ≥ 1 := by omega
      have c4 : n.Entry.Handle.Gen ≤ 4294967295 := by omega
      have c5 : (n.Kids.length : Int) ≤ 12 := by omega
      rw [decide_eq_true hh, decide_eq_true c1, decide_eq_true c2, decide_eq_true c3, decide_eq_true c4, decide_eq_true c5]
      rfl
    · rw [decide_eq_false hh]
      unfold headOk at hh
      by_cases c1 : n.Entry.Handle.Slot ≥ 0
      · by_cases c2 : n.Entry.Handle.Slot ≤ 1791
        · by_cases c3 : n.Entry.Handle.Gen ≥ 1
          · by_cases c4 : n.Entry.Handle.Gen ≤ 4294967295
            · have c5 : ¬ (n.Kids.length : Int) ≤ 12 := by omega
              rw [decide_eq_true c1, decide_eq_true c2, decide_eq_true c3, decide_eq_true c4, decide_eq_false c5]
              rfl
            · rw [decide_eq_true c1, decide_eq_true c2, decide_eq_true c3, decide_eq_false c4]
              rfl
          · rw [decide_eq_true c1, decide_eq_true c2, decide_eq_false c3]
            rfl
        · rw [decide_eq_true c1, decide_eq_false c2]
          rfl
      · rw [decide_eq_false c1]
        rfl
  rw [c0]
  by_cases hh : headOk n
  · have k1 := hh.2.2
    rw [decide_eq_true hh]
    have hs : ∀ j : Nat, j < n.Kids.length → rickyardref08_Right.s0 fu n (true, (j : Int)) = some (.inr (decide (blockOk (ix n.Kids (j : Int))), ((j + 1 : Nat) : Int))) := by
      intro j hj
      unfold rickyardref08_Right.s0
      have h1 : (j : Int) < (n.Kids.length : Int) := by omega
      have c0 : 0 ≤ (j : Int) := by omega
      have w3 : IntKind.i64.wrap ((j : Int) + 1) = ((j + 1 : Nat) : Int) := by rw [w64 (by omega) (by omega)]; omega
      simp only [h1, c0, and_self, decide_true, if_true, w3, Option.bind_some, rblock8_eq]
    by_cases hk : kidsOk n.Kids
    · have : loopM (rickyardref08_Right.s0 fu n) fu (true, 0) = some true := by
        refine loopM_run (S := fun j => (true, (j : Int))) n.Kids.length rfl (fun j hj => by rw [hs j hj, decide_eq_true (hk j hj)]) ?_ (by omega)
        unfold rickyardref08_Right.s0
        simp
      have hn : NodeR n := ⟨hh, hk⟩
      rw [this, decide_eq_true hn]
      rfl
    · have hmin : ∀ m j, j ≤ m → (j < n.Kids.length ∧ ¬ blockOk (ix n.Kids (j : Int))) → ∃ q, (q < n.Kids.length ∧ ¬ blockOk (ix n.Kids (q : Int))) ∧ ∀ i, i < q → blockOk (ix n.Kids (i : Int)) := by
        intro m
        induction m with
        | zero =>
          intro j hj hjj
          exact ⟨j, hjj, fun i hi => by omega⟩
        | succ m ih =>
          intro j hj hjj
          by_cases hx : ∃ i, i < j ∧ ¬ blockOk (ix n.Kids (i : Int))
          · obtain ⟨i, hi, hgi⟩ := hx
            exact ih i (by omega) ⟨by omega, hgi⟩
          · exact ⟨j, hjj, fun i hi => Classical.byContradiction fun hg => hx ⟨i, hi, hg⟩⟩
      have hex : ∃ j, j < n.Kids.length ∧ ¬ blockOk (ix n.Kids (j : Int)) := by
        apply Classical.byContradiction
        intro hx
        exact hk fun i hi => Classical.byContradiction fun hg => hx ⟨i, hi, hg⟩
      obtain ⟨j, hj⟩ := hex
      obtain ⟨q, ⟨hq, hg⟩, hall⟩ := hmin j j (Nat.le_refl _) hj
      have : loopM (rickyardref08_Right.s0 fu n) fu (true, 0) = some false := by
        refine loopM_run (S := fun j => (decide (j ≤ q), (j : Int))) (q + 1) (by simp) (fun j hj => ?_) ?_ (by omega)
        · rw [decide_eq_true (show j ≤ q by omega), hs j (by omega)]
          congr 3
          by_cases e : j = q
          · subst e
            rw [decide_eq_false hg, decide_eq_false (by omega)]
          · rw [decide_eq_true (hall j (by omega)), decide_eq_true (by omega)]
        · rw [decide_eq_false (by omega)]
          unfold rickyardref08_Right.s0
          by_cases e : ((q + 1 : Nat) : Int) < (n.Kids.length : Int)
          · rw [decide_eq_true e]
            rfl
          · rw [decide_eq_false e]
            rfl
      have hn : ¬ NodeR n := fun x => hk x.2
      rw [this, decide_eq_false hn]
      rfl
  · have hn : ¬ NodeR n := fun x => hh x.1
    rw [decide_eq_false hh, decide_eq_false hn]
    have : loopM (rickyardref08_Right.s0 fu n) fu (false, 0) = some false := by
      refine loopM_run (S := fun j => (false, (j : Int))) 0 rfl (fun j hj => by omega) ?_ (by omega)
      unfold rickyardref08_Right.s0
      by_cases e : ((0 : Nat) : Int) < (n.Kids.length : Int)
      · rw [decide_eq_true e]
        rfl
      · rw [decide_eq_false e]
        rfl
    rw [this]
    rfl
/-! ### A node's octets -/
def rowE (l : List Int) (n : Nat) : List Int := (List.range n).flatMap fun (i : Nat) => lay (u64n (ix l (i : Int))) 2
theorem rowE_len (l : List Int) (n : Nat) : (rowE l n).length = 2 * n := flat_len (fun i => lay_len _ _) n
theorem rowE_bytes (l : List Int) (n : Nat) : Bytes (rowE l n) := flat_bytes (fun i => lay_bytes _ _) n
def entryE (e : S_api_Entry) : List Int := lay (u64n e.Key) 8 ++ (lay (u64n e.Value) 8 ++ (lay (u64n e.Handle.Slot) 4 ++ lay (u64n e.Handle.Gen) 4))
theorem entryE_len (e : S_api_Entry) : (entryE e).length = 24 := by simp [entryE, lay_len]
theorem entryE_bytes (e : S_api_Entry) : Bytes (entryE e) := (lay_bytes _ _).app ((lay_bytes _ _).app ((lay_bytes _ _).app (lay_bytes _ _)))
def nodeE (n : S_api_Node) : List Int := entryE n.Entry ++ rowE n.Kids n.Kids.length
theorem nodeE_len (n : S_api_Node) : (nodeE n).length = 24 + 2 * n.Kids.length := by simp [nodeE, entryE_len, rowE_len]
theorem nodeE_bytes (n : S_api_Node) : Bytes (nodeE n) := (entryE_bytes _).app (rowE_bytes _ _)
theorem lim_of' {a b : Nat} (h : a + b ≤ 1000) : a + b ≤ LIM := by
  have : (1000 : Nat) ≤ LIM := by decide
  omega
theorem octets2_eq {fu : Nat} {x y : Int} (hf : 100 < fu) : octet_Octets.f fu [(IntKind.u64.wrap x), (IntKind.u64.wrap y)] = some (lay (u64n x) 8 ++ lay (u64n y) 8) := by
  unfold octet_Octets.f
  have hl : ∀ z : Int, octet_Lay.f fu (IntKind.u64.wrap z) 8 = some (lay (u64n z) 8) := fun z => olay64 (n := 8) (by decide) (by omega)
  have : loopM (octet_Octets.s0 fu [(IntKind.u64.wrap x), (IntKind.u64.wrap y)]) fu ([], 0) = some (lay (u64n x) 8 ++ lay (u64n y) 8) := by
    refine loopM_run (S := fun j => (if j = 0 then [] else if j = 1 then lay (u64n x) 8 else lay (u64n x) 8 ++ lay (u64n y) 8, (j : Int))) 2 rfl ?_ ?_ (by omega)
    · intro j hj
      unfold octet_Octets.s0
      have : j = 0 ∨ j = 1 := by omega
      have l0 : (0 : Nat) + 8 ≤ LIM := lim_of' (by decide)
      have l1 : (8 : Nat) + 8 ≤ LIM := lim_of' (by decide)
      rcases this with rfl | rfl
      · simp [hl, ix, lay_len, w64, l0]
      · simp [hl, ix, lay_len, w64, l1]
    · unfold octet_Octets.s0
      simp
  rw [this]
  rfl
theorem nodePut_eq {fu : Nat} {n : S_api_Node} (hf : 100 < fu) : node_Put.f fu n = some (if NodeR n then (sealed (summed 1 (n.Kids.length : Int) (nodeE n)), true) else ([], false)) := by
  unfold node_Put.f
  rw [nodeRight_eq hf]
  by_cases h : NodeR n
  · have k1 := h.1.2.2
    have hl1 : octet_Lay.f fu (IntKind.u64.wrap n.Entry.Handle.Slot) 4 = some (lay (u64n n.Entry.Handle.Slot) 4) := olay64 (n := 4) (by decide) (by omega)
    have hl2 : octet_Lay.f fu (IntKind.u64.wrap n.Entry.Handle.Gen) 4 = some (lay (u64n n.Entry.Handle.Gen) 4) := olay64 (n := 4) (by decide) (by omega)
    have e0 : lay (u64n n.Entry.Key) 8 ++ lay (u64n n.Entry.Value) 8 ++ lay (u64n n.Entry.Handle.Slot) 4 ++ lay (u64n n.Entry.Handle.Gen) 4 = entryE n.Entry := by simp [entryE]
    have hlim1 : (lay (u64n n.Entry.Key) 8 ++ lay (u64n n.Entry.Value) 8).length + (lay (u64n n.Entry.Handle.Slot) 4).length ≤ LIM := lim_of' (by simp [lay_len])
    have hlim2 : (lay (u64n n.Entry.Key) 8 ++ lay (u64n n.Entry.Value) 8 ++ lay (u64n n.Entry.Handle.Slot) 4).length + (lay (u64n n.Entry.Handle.Gen) 4).length ≤ LIM := lim_of' (by simp [lay_len])
    have hloop : loopM (node_Put.s0 fu n) fu (entryE n.Entry, 0) = some (nodeE n) := by
      refine loopM_run (S := fun j => (entryE n.Entry ++ rowE n.Kids j, (j : Int))) n.Kids.length (by simp [rowE]) ?_ ?_ (by omega)
      · intro j hj
        unfold node_Put.s0
        have h1 : (j : Int) < (n.Kids.length : Int) := by omega
        have c0 : 0 ≤ (j : Int) := by omega
        have w3 : IntKind.i64.wrap ((j : Int) + 1) = ((j + 1 : Nat) : Int) := by rw [w64 (by omega) (by omega)]; omega
        have hl : octet_Lay.f fu (IntKind.u64.wrap (ix n.Kids (j : Int))) 2 = some (lay (u64n (ix n.Kids (j : Int))) 2) := olay64 (n := 2) (by decide) (by omega)
        have hlim : (entryE n.Entry ++ rowE n.Kids j).length + (lay (u64n (ix n.Kids (j : Int))) 2).length ≤ LIM := lim_of' (by rw [List.length_append, entryE_len, rowE_len, lay_len]; omega)
        simp only [h1, c0, and_self, decide_true, if_true, w3, hl, Option.bind_some, hlim]
        rw [List.append_assoc]
        congr 4
        rw [rowE, rowE, flat_succ]
      · unfold node_Put.s0
        simp [nodeE]
    have hs := seal_eq (fu := fu) (k := 1) (t := (n.Kids.length : Int)) (nodeE_bytes n) (by omega) (by omega) (by rw [nodeE_len]; omega) hf
    simp only [h, decide_true, Bool.not_true, Bool.false_eq_true, if_false, octets2_eq hf, Option.bind_some, hl1, hl2, hlim1, hlim2, if_true, e0, hloop, hs]
  · simp [h]
theorem rnodePut_eq {fu : Nat} {n : S_api_Node} (hk : n.Kids.length ≤ 12) (hf : 100 < fu) : rickyardref08_Put.f fu n = some ((sealed (summed 1 (n.Kids.length : Int) (nodeE n))).map toB) := by
  unfold rickyardref08_Put.f
  have hl0 : rickyardref01_Lay.f fu (IntKind.u64.wrap n.Entry.Key) 8 = some ((lay (u64n n.Entry.Key) 8).map toB) := rlay64 (n := 8) (by decide) (by omega)
  have hl9 : rickyardref01_Lay.f fu (IntKind.u64.wrap n.Entry.Value) 8 = some ((lay (u64n n.Entry.Value) 8).map toB) := rlay64 (n := 8) (by decide) (by omega)
  have hl1 : rickyardref01_Lay.f fu (IntKind.u64.wrap n.Entry.Handle.Slot) 4 = some ((lay (u64n n.Entry.Handle.Slot) 4).map toB) := rlay64 (n := 4) (by decide) (by omega)
  have hl2 : rickyardref01_Lay.f fu (IntKind.u64.wrap n.Entry.Handle.Gen) 4 = some ((lay (u64n n.Entry.Handle.Gen) 4).map toB) := rlay64 (n := 4) (by decide) (by omega)
  have e0 : (lay (u64n n.Entry.Key) 8).map toB ++ (lay (u64n n.Entry.Value) 8).map toB ++ (lay (u64n n.Entry.Handle.Slot) 4).map toB ++ (lay (u64n n.Entry.Handle.Gen) 4).map toB = (entryE n.Entry).map toB := by simp [entryE]
  have hlim0 : ((lay (u64n n.Entry.Key) 8).map toB).length + ((lay (u64n n.Entry.Value) 8).map toB).length ≤ LIM := lim_of' (by simp [lay_len])
  have hlim1 : ((lay (u64n n.Entry.Key) 8).map toB ++ (lay (u64n n.Entry.Value) 8).map toB).length + ((lay (u64n n.Entry.Handle.Slot) 4).map toB).length ≤ LIM := lim_of' (by simp [lay_len])
  have hlim2 : ((lay (u64n n.Entry.Key) 8).map toB ++ (lay (u64n n.Entry.Value) 8).map toB ++ (lay (u64n n.Entry.Handle.Slot) 4).map toB).length + ((lay (u64n n.Entry.Handle.Gen) 4).map toB).length ≤ LIM := lim_of' (by simp [lay_len])
  have hloop : loopM (rickyardref08_Put.s0 fu n) fu ((entryE n.Entry).map toB, 0) = some ((nodeE n).map toB) := by
    refine loopM_run (S := fun j => ((entryE n.Entry ++ rowE n.Kids j).map toB, (j : Int))) n.Kids.length (by simp [rowE]) ?_ ?_ (by omega)
    · intro j hj
      unfold rickyardref08_Put.s0
      have h1 : (j : Int) < (n.Kids.length : Int) := by omega
      have c0 : 0 ≤ (j : Int) := by omega
      have w3 : IntKind.i64.wrap ((j : Int) + 1) = ((j + 1 : Nat) : Int) := by rw [w64 (by omega) (by omega)]; omega
      have hl : rickyardref01_Lay.f fu (IntKind.u64.wrap (ix n.Kids (j : Int))) 2 = some ((lay (u64n (ix n.Kids (j : Int))) 2).map toB) := rlay64 (n := 2) (by decide) (by omega)
      have hlim : ((entryE n.Entry ++ rowE n.Kids j).map toB).length + ((lay (u64n (ix n.Kids (j : Int))) 2).map toB).length ≤ LIM := lim_of' (by rw [List.length_map, List.length_map, List.length_append, entryE_len, rowE_len, lay_len]; omega)
      simp only [h1, c0, and_self, decide_true, if_true, w3, hl, Option.bind_some, hlim]
      rw [← List.map_append, List.append_assoc]
      congr 5
      rw [rowE, rowE, flat_succ]
    · unfold rickyardref08_Put.s0
      simp [nodeE]
  have hs := rseal_eq (fu := fu) (k := 1) (t := (n.Kids.length : Int)) (nodeE_bytes n) (by omega) (by omega) (by rw [nodeE_len]; omega) hf
  simp only [hl0, hl9, hl1, hl2, Option.bind_some, hlim0, hlim1, hlim2, if_true, e0, hloop, hs]
/-! ### What octets tell -/
def part (l : List Int) (i n : Nat) : List Int := (l.drop i).take n
theorem part_len {l : List Int} {i n : Nat} (h : i + n ≤ l.length) : (part l i n).length = n := by
  unfold part
  rw [List.length_take, List.length_drop]
  omega
theorem part_bytes {l : List Int} (hb : Bytes l) (i n : Nat) : Bytes (part l i n) := (hb.drop i).take n
def intAt (l : List Int) (i n : Nat) : Int := IntKind.i64.wrap ((num (part l i n) : Nat) : Int)
theorem number_eq {fu : Nat} {b : List Int} {i n : Nat} (hb : Bytes b) (hl : b.length ≤ 9000000000000000000) (h : i + n ≤ b.length) (hn : 1 ≤ n ∧ n ≤ 8) (hf : 100 < fu) : node_number.f fu b (i : Int) (n : Int) = some (intAt b i n) := by
  unfold node_number.f octet_Get.f
  have h1 : ¬ (n : Int) < 1 := by omega
  have h2 : ¬ (n : Int) > 8 := by omega
  have w1 : IntKind.i64.wrap ((i : Int) + (n : Int)) = ((i + n : Nat) : Int) := by rw [w64 (by omega) (by omega)]; omega
  have hr : octet_Read.f fu (cut b (i : Int) ((i + n : Nat) : Int)) = some ((num (part b i n) : Nat) : Int) := by
    rw [cut_eq]
    have := read_eq (fu := fu) (part_bytes hb i n) (by rw [part_len h]; omega) (by rw [part_len h]; omega)
    exact this
  have c1 : (0 : Int) ≤ (i : Int) ∧ (i : Int) ≤ ((i + n : Nat) : Int) ∧ ((i + n : Nat) : Int) ≤ (b.length : Int) := by omega
  simp only [h1, h2, decide_false, Bool.false_eq_true, if_false, there_eq hl h, Option.bind_some, Bool.not_true, w1, hr, if_pos c1]
  rfl
theorem rintAt_eq {fu : Nat} {b : List Int} {i n : Nat} (hb : Bytes b) (h : i + n ≤ b.length) (hn : n ≤ 8) (hf : 100 < fu) : rickyardref01_Int.f fu (cut (b.map toB) (i : Int) ((i + n : Nat) : Int)) = some (intAt b i n) := by
  have e : cut (b.map toB) (i : Int) ((i + n : Nat) : Int) = (part b i n).map toB := by
    unfold cut part
    rw [Int.toNat_natCast, Int.toNat_natCast, List.drop_take, ← List.map_drop, ← List.map_take]
    congr 2
    omega
  rw [e, rint_eq (part_bytes hb i n) (by rw [part_len h]; exact hn) (by rw [part_len h]; omega)]
  rfl
theorem u64n_i64 {n : Nat} (h : n < 18446744073709551616) : u64n (IntKind.i64.wrap (n : Int)) = n := by
  unfold u64n IntKind.wrap
  simp only [IntKind.signed, IntKind.bits]
  simp
  split <;> omega
theorem lay_part {l : List Int} {i n : Nat} (hb : Bytes l) (h : i + n ≤ l.length) (hn : n ≤ 8) : lay (u64n (intAt l i n)) n = part l i n := by
  have hpl := part_len h
  have hpb := part_bytes hb i n
  unfold intAt
  rw [u64n_i64 (num_lt8 hpb (by omega))]
  have := lay_num hpb
  rwa [hpl] at this
theorem intAt_small {l : List Int} {i n : Nat} (hb : Bytes l) (h : i + n ≤ l.length) (hn : n ≤ 7) : intAt l i n = ((num (part l i n) : Nat) : Int) := num_small (part_bytes hb i n) (by rw [part_len h]; exact hn)
def kidsOf (body : List Int) (t : Nat) : List Int := (List.range t).map fun i => intAt body (24 + 2 * i) 2
def nodeOf (body : List Int) (t : Nat) : S_api_Node := ⟨⟨⟨intAt body 16 4, intAt body 20 4⟩, intAt body 0 8, intAt body 8 8⟩, kidsOf body t⟩
theorem ix_map {f : Nat → Int} {t i : Nat} (h : i < t) : ix ((List.range t).map f) (i : Int) = f i := by
  rw [ix_nat (by simpa using h)]
  simp
theorem nodeE_of {body : List Int} (hb : Bytes body) {t : Nat} (h : 24 + 2 * t ≤ body.length) : nodeE (nodeOf body t) = body.take (24 + 2 * t) := by
  have e1 : rowE (kidsOf body t) t = (body.drop 24).take (2 * t) := by
    rw [← field_flat (w := 2) t (by rw [List.length_drop]; omega)]
    apply flat_congr
    intro i hi
    unfold kidsOf
    rw [ix_map hi, lay_part hb (by omega) (by decide)]
    unfold part fieldAt
    rw [List.drop_drop]
  have hk : (kidsOf body t).length = t := by simp [kidsOf]
  have e2 : entryE (nodeOf body t).Entry = body.take 24 := by
    unfold entryE nodeOf
    simp only
    rw [lay_part hb (by omega) (by decide), lay_part hb (by omega) (by decide), lay_part hb (by omega) (by decide), lay_part hb (by omega) (by decide)]
    unfold part
    rw [show (24 : Nat) = 0 + 8 + 8 + 4 + 4 from rfl, List.take_add, List.take_add, List.take_add, List.take_add]
    simp
  unfold nodeE
  have hk2 : (nodeOf body t).Kids = kidsOf body t := rfl
  rw [hk2, hk, e1, e2, List.take_add]
theorem nodeOf_E {n : S_api_Node} (hn : ok_api_Node n) (h : NodeR n) (t : List Int) : nodeOf (nodeE n ++ t) n.Kids.length = n := by
  obtain ⟨⟨⟨s0, s1⟩, ⟨g0, g1⟩, k1⟩, hk⟩ := h
  have hK := wf64.1 hn.1.2.1
  have hV := wf64.1 hn.1.2.2
  obtain ⟨R, hR⟩ : ∃ R, R = rowE n.Kids n.Kids.length ++ t := ⟨_, rfl⟩
  have e : nodeE n ++ t = lay (u64n n.Entry.Key) 8 ++ (lay (u64n n.Entry.Value) 8 ++ (lay (u64n n.Entry.Handle.Slot) 4 ++ (lay (u64n n.Entry.Handle.Gen) 4 ++ R))) := by
    rw [hR]
    simp [nodeE, entryE]
  have l8 : ∀ v, (lay v 8).length = 8 := fun v => lay_len v 8
  have l4 : ∀ v, (lay v 4).length = 4 := fun v => lay_len v 4
  have d8 : (nodeE n ++ t).drop 8 = lay (u64n n.Entry.Value) 8 ++ (lay (u64n n.Entry.Handle.Slot) 4 ++ (lay (u64n n.Entry.Handle.Gen) 4 ++ R)) := by rw [e, List.drop_left' (l8 _)]
  have d16 : (nodeE n ++ t).drop 16 = lay (u64n n.Entry.Handle.Slot) 4 ++ (lay (u64n n.Entry.Handle.Gen) 4 ++ R) := by rw [show (16 : Nat) = 8 + 8 from rfl, ← List.drop_drop, d8, List.drop_left' (l8 _)]
  have d20 : (nodeE n ++ t).drop 20 = lay (u64n n.Entry.Handle.Gen) 4 ++ R := by rw [show (20 : Nat) = 16 + 4 from rfl, ← List.drop_drop, d16, List.drop_left' (l4 _)]
  have d24 : (nodeE n ++ t).drop 24 = R := by rw [show (24 : Nat) = 20 + 4 from rfl, ← List.drop_drop, d20, List.drop_left' (l4 _)]
  have p0 : part (nodeE n ++ t) 0 8 = lay (u64n n.Entry.Key) 8 := by unfold part; rw [List.drop_zero, e, List.take_left' (l8 _)]
  have p8 : part (nodeE n ++ t) 8 8 = lay (u64n n.Entry.Value) 8 := by unfold part; rw [d8, List.take_left' (l8 _)]
  have p16 : part (nodeE n ++ t) 16 4 = lay (u64n n.Entry.Handle.Slot) 4 := by unfold part; rw [d16, List.take_left' (l4 _)]
  have p20 : part (nodeE n ++ t) 20 4 = lay (u64n n.Entry.Handle.Gen) 4 := by unfold part; rw [d20, List.take_left' (l4 _)]
  have q8 : (256 : Nat) ^ 8 = 18446744073709551616 := by decide
  have q4 : (256 : Nat) ^ 4 = 4294967296 := by decide
  have i0 : intAt (nodeE n ++ t) 0 8 = n.Entry.Key := by
    unfold intAt
    rw [p0, num_lay, q8, Nat.mod_eq_of_lt (u64n_lt _), i64_u64 hK.1 hK.2]
  have i8 : intAt (nodeE n ++ t) 8 8 = n.Entry.Value := by
    unfold intAt
    rw [p8, num_lay, q8, Nat.mod_eq_of_lt (u64n_lt _), i64_u64 hV.1 hV.2]
  have i16 : intAt (nodeE n ++ t) 16 4 = n.Entry.Handle.Slot := by
    unfold intAt
    rw [p16, num_lay, q4, u64n_of (by omega) (by omega), Nat.mod_eq_of_lt (by omega), Int.toNat_of_nonneg s0, w64 (by omega) (by omega)]
  have i20 : intAt (nodeE n ++ t) 20 4 = n.Entry.Handle.Gen := by
    unfold intAt
    rw [p20, num_lay, q4, u64n_of (by omega) (by omega), Nat.mod_eq_of_lt (by omega), Int.toNat_of_nonneg (by omega), w64 (by omega) (by omega)]
  have ik : kidsOf (nodeE n ++ t) n.Kids.length = n.Kids := by
    apply ix_ext (by simp [kidsOf])
    intro i hi
    have hi' : i < n.Kids.length := by simpa [kidsOf] using hi
    unfold kidsOf
    rw [ix_map hi']
    have hp : part (nodeE n ++ t) (24 + 2 * i) 2 = lay (u64n (ix n.Kids (i : Int))) 2 := by
      unfold part
      rw [← List.drop_drop, d24, hR]
      exact flat_field (fun i => lay_len _ _) hi' t
    have := hk i hi'
    unfold blockOk at this
    unfold intAt
    rw [hp, num_lay, u64n_of (by omega) (by omega), show (256 : Nat) ^ 2 = 65536 from rfl, Nat.mod_eq_of_lt (by omega), Int.toNat_of_nonneg (by omega), w64 (by omega) (by omega)]
  unfold nodeOf
  rw [i0, i8, i16, i20, ik]
def noN : S_api_Node := ⟨⟨⟨0, 0⟩, 0, 0⟩, []⟩
def GetN (b : List Int) : Prop := Is b ∧ ix b 4 = 1 ∧ ix b 5 ≤ 12 ∧ NodeR (nodeOf (b.drop 8) (ix b 5).toNat) ∧ ∀ y ∈ (b.drop 8).drop (24 + 2 * (ix b 5).toNat), y = 0
instance (b : List Int) : Decidable (GetN b) := inferInstanceAs (Decidable (_ ∧ _))
theorem nodeGet_eq {fu : Nat} {b : List Int} (hb : Bytes b) (hl : b.length ≤ 9000000000000000000) (hf : 100 < fu) : node_Get.f fu b = some (if GetN b then (nodeOf (b.drop 8) (ix b 5).toNat, true) else (noN, false)) := by
  unfold node_Get.f
  rw [open_eq hb hl hf]
  by_cases hi : Is b
  · have h8 := is_body hi
    obtain ⟨b4, b5⟩ := is_tag hb hi
    rw [if_pos hi]
    simp only [Option.bind_some, Bool.not_true, Bool.false_eq_true, if_false]
    by_cases h4 : ix b 4 = 1
    · by_cases h5 : ix b 5 ≤ 12
      · have h5' : ¬ ix b 5 > 12 := by omega
        obtain ⟨t, ht⟩ : ∃ t : Nat, ix b 5 = (t : Int) := ⟨(ix b 5).toNat, by omega⟩
        have hbd := hb.drop 8
        obtain ⟨body, hbody⟩ : ∃ body, body = b.drop 8 := ⟨_, rfl⟩
        rw [← hbody] at h8 hbd
        have n16 : node_number.f fu body 16 4 = some (intAt body 16 4) := number_eq (i := 16) (n := 4) hbd (by omega) (by omega) (by decide) hf
        have n20 : node_number.f fu body 20 4 = some (intAt body 20 4) := number_eq (i := 20) (n := 4) hbd (by omega) (by omega) (by decide) hf
        have n0 : node_number.f fu body 0 8 = some (intAt body 0 8) := number_eq (i := 0) (n := 8) hbd (by omega) (by omega) (by decide) hf
        have n8 : node_number.f fu body 8 8 = some (intAt body 8 8) := number_eq (i := 8) (n := 8) hbd (by omega) (by omega) (by decide) hf
        have hloop : loopM (node_Get.s0 fu (ix b 4, ix b 5, body, true)) fu (0, []) = some (kidsOf body t) := by
          refine loopM_run (S := fun j => ((j : Int), kidsOf body j)) t (by simp [kidsOf]) ?_ ?_ (by omega)
          · intro j hj
            unfold node_Get.s0
            have h1 : (j : Int) < ix b 5 := by omega
            have w3 : IntKind.i64.wrap ((j : Int) + 1) = ((j + 1 : Nat) : Int) := by rw [w64 (by omega) (by omega)]; omega
            have w4 : IntKind.i64.wrap (2 * (j : Int)) = ((2 * j : Nat) : Int) := by rw [w64 (by omega) (by omega)]; omega
            have w5 : IntKind.i64.wrap (24 + ((2 * j : Nat) : Int)) = ((24 + 2 * j : Nat) : Int) := by rw [w64 (by omega) (by omega)]; omega
            have hn : node_number.f fu body ((24 + 2 * j : Nat) : Int) 2 = some (intAt body (24 + 2 * j) 2) := number_eq (n := 2) hbd (by omega) (by omega) (by decide) hf
            have hlim : (kidsOf body j).length + ([intAt body (24 + 2 * j) 2] : List Int).length ≤ LIM := lim_of' (by simp [kidsOf]; omega)
            simp only [h1, decide_true, if_true, w3, w4, w5, hn, Option.bind_some, hlim]
            simp [kidsOf, List.range_succ]
          · unfold node_Get.s0
            simp [ht]
        have w1 : IntKind.i64.wrap (2 * (t : Int)) = ((2 * t : Nat) : Int) := by rw [w64 (by omega) (by omega)]; omega
        have w2 : IntKind.i64.wrap (24 + ((2 * t : Nat) : Int)) = ((24 + 2 * t : Nat) : Int) := by rw [w64 (by omega) (by omega)]; omega
        have w6 : IntKind.i64.wrap ((body.length : Int) - ((24 + 2 * t : Nat) : Int)) = ((56 - (24 + 2 * t) : Nat) : Int) := by rw [w64 (by omega) (by omega)]; omega
        have hn := noughts_eq (fu := fu) (b := body) (i := 24 + 2 * t) (n := 56 - (24 + 2 * t)) (by omega) (by omega) (by omega)
        have e8 : (body.drop (24 + 2 * t)).take (56 - (24 + 2 * t)) = body.drop (24 + 2 * t) := List.take_of_length_le (by rw [List.length_drop, h8]; omega)
        rw [e8] at hn
        have hN : (⟨⟨⟨intAt body 16 4, intAt body 20 4⟩, intAt body 0 8, intAt body 8 8⟩, kidsOf body t⟩ : S_api_Node) = nodeOf body t := rfl
        rw [← hbody]
        simp only [h4, h5', decide_true, decide_false, Bool.not_true, Bool.false_eq_true, if_false] at hloop ⊢
        simp only [n16, n20, n0, n8, Option.bind_some, hloop]
        simp only [ht, w1, w2, w6, hn, hN, nodeRight_eq hf, Option.bind_some]
        have hgi : GetN b ↔ (NodeR (nodeOf body t) ∧ ∀ y ∈ body.drop (24 + 2 * t), y = 0) := by
          unfold GetN
          rw [ht, ← hbody, Int.toNat_natCast]
          exact ⟨fun x => x.2.2.2, fun x => ⟨hi, h4, by omega, x⟩⟩
        rw [Int.toNat_natCast]
        by_cases hr : NodeR (nodeOf body t)
        · by_cases hz : ∀ y ∈ body.drop (24 + 2 * t), y = 0
          · rw [if_pos (hgi.2 ⟨hr, hz⟩), decide_eq_true hr, decide_eq_true hz]
            rfl
          · rw [if_neg (fun x => hz (hgi.1 x).2), decide_eq_true hr, decide_eq_false hz]
            rfl
        · rw [if_neg (fun x => hr (hgi.1 x).1), decide_eq_false hr]
          rfl
      · have h5' : ix b 5 > 12 := by omega
        have hg : ¬ GetN b := fun x => h5 x.2.2.1
        rw [if_neg hg, decide_eq_true h4, decide_eq_true h5']
        rfl
    · have hg : ¬ GetN b := fun x => h4 x.2.1
      rw [if_neg hg, decide_eq_false h4]
      rfl
  · have hg : ¬ GetN b := fun x => hi x.1
    rw [if_neg hi, if_neg hg]
    rfl
theorem rnodeGet_eq {fu : Nat} {b : List Int} (hb : Bytes b) (hf : 100 < fu) : rickyardref08_Get.f fu b = some (if GetN b then (nodeOf (b.drop 8) (ix b 5).toNat, true) else (noN, false)) := by
  unfold rickyardref08_Get.f
  rw [ropen_eq hb hf]
  by_cases hi : Is b
  · have h8 := is_body hi
    obtain ⟨b4, b5⟩ := is_tag hb hi
    rw [if_pos hi]
    simp only [Option.bind_some, Bool.not_true, Bool.false_eq_true, if_false]
    by_cases h4 : ix b 4 = 1
    · by_cases h5 : ix b 5 ≤ 12
      · have h5' : ¬ ix b 5 > 12 := by omega
        obtain ⟨t, ht⟩ : ∃ t : Nat, ix b 5 = (t : Int) := ⟨(ix b 5).toNat, by omega⟩
        have hbd := hb.drop 8
        obtain ⟨body, hbody⟩ : ∃ body, body = b.drop 8 := ⟨_, rfl⟩
        have hq0 : ∀ {k tg : Int} {bd : List Int}, (0 ≤ k ∧ k ≤ 255) → (0 ≤ tg ∧ tg ≤ 255) → Bytes bd → bd.length ≤ 56 → ((sealed (summed k tg bd)).map toB = b.map toB ↔ k = ix b 4 ∧ tg = ix b 5 ∧ bd ++ List.replicate (56 - bd.length) 0 = b.drop 8) := fun h1 h2 h3 h4 => sealed_map_iff hb hi h1 h2 h3 h4
        rw [← hbody] at h8 hbd
        have n16 : rickyardref01_Int.f fu (cut (body.map toB) 16 20) = some (intAt body 16 4) := rintAt_eq (i := 16) (n := 4) hbd (by omega) (by decide) hf
        have n20 : rickyardref01_Int.f fu (cut (body.map toB) 20 24) = some (intAt body 20 4) := rintAt_eq (i := 20) (n := 4) hbd (by omega) (by decide) hf
        have n0 : rickyardref01_Int.f fu (cut (body.map toB) 0 8) = some (intAt body 0 8) := rintAt_eq (i := 0) (n := 8) hbd (by omega) (by decide) hf
        have n8 : rickyardref01_Int.f fu (cut (body.map toB) 8 16) = some (intAt body 8 8) := rintAt_eq (i := 8) (n := 8) hbd (by omega) (by decide) hf
        have hloop : loopM (rickyardref08_Get.s0 fu (ix b 4, ix b 5, body.map toB, true)) fu (0, []) = some (kidsOf body t) := by
          refine loopM_run (S := fun j => ((j : Int), kidsOf body j)) t (by simp [kidsOf]) ?_ ?_ (by omega)
          · intro j hj
            unfold rickyardref08_Get.s0
            have h1 : (j : Int) < ix b 5 := by omega
            have w3 : IntKind.i64.wrap ((j : Int) + 1) = ((j + 1 : Nat) : Int) := by rw [w64 (by omega) (by omega)]; omega
            have w4 : IntKind.i64.wrap (2 * (j : Int)) = ((2 * j : Nat) : Int) := by rw [w64 (by omega) (by omega)]; omega
            have w5 : IntKind.i64.wrap (24 + ((2 * j : Nat) : Int)) = ((24 + 2 * j : Nat) : Int) := by rw [w64 (by omega) (by omega)]; omega
            have w6 : IntKind.i64.wrap (26 + ((2 * j : Nat) : Int)) = ((24 + 2 * j + 2 : Nat) : Int) := by rw [w64 (by omega) (by omega)]; omega
            have hn : rickyardref01_Int.f fu (cut (body.map toB) ((24 + 2 * j : Nat) : Int) ((24 + 2 * j + 2 : Nat) : Int)) = some (intAt body (24 + 2 * j) 2) := rintAt_eq (n := 2) hbd (by omega) (by decide) hf
            have hlim : (kidsOf body j).length + ([intAt body (24 + 2 * j) 2] : List Int).length ≤ LIM := lim_of' (by simp [kidsOf]; omega)
            have c1 : (0 : Int) ≤ ((24 + 2 * j : Nat) : Int) ∧ ((24 + 2 * j : Nat) : Int) ≤ ((24 + 2 * j + 2 : Nat) : Int) ∧ ((24 + 2 * j + 2 : Nat) : Int) ≤ ((body.map toB).length : Int) := by rw [List.length_map]; omega
            simp only [h1, decide_true, if_true, w3, w4, w5, w6, hn, Option.bind_some, hlim, if_pos c1]
            simp [kidsOf, List.range_succ]
          · unfold rickyardref08_Get.s0
            simp [ht]
        have hN : (⟨⟨⟨intAt body 16 4, intAt body 20 4⟩, intAt body 0 8, intAt body 8 8⟩, kidsOf body t⟩ : S_api_Node) = nodeOf body t := rfl
        have hkl : (nodeOf body t).Kids.length = t := by simp [nodeOf, kidsOf]
        have hgi : GetN b ↔ (NodeR (nodeOf body t) ∧ ∀ y ∈ body.drop (24 + 2 * t), y = 0) := by
          unfold GetN
          rw [ht, ← hbody, Int.toNat_natCast]
          exact ⟨fun x => x.2.2.2, fun x => ⟨hi, h4, by omega, x⟩⟩
        have c20 : (20 : Int) ≤ ((body.map toB).length : Int) := by rw [List.length_map]; omega
        have c24 : (24 : Int) ≤ ((body.map toB).length : Int) := by rw [List.length_map]; omega
        have c8 : (8 : Int) ≤ ((body.map toB).length : Int) := by rw [List.length_map]; omega
        have c16 : (16 : Int) ≤ ((body.map toB).length : Int) := by rw [List.length_map]; omega
        rw [← hbody]
        simp only [h4, h5', decide_true, decide_false, Bool.not_true, Bool.false_eq_true, if_false] at hloop ⊢
        simp only [n16, n20, n0, n8, Option.bind_some, hloop, if_pos c20, if_pos c24, if_pos c8, if_pos c16]
        have hput := rnodePut_eq (fu := fu) (n := nodeOf body t) (by rw [hkl]; omega) hf
        simp only [hN, rnodeRight_eq (fu := fu) (n := nodeOf body t) (by rw [hkl]; omega) hf, hput, Option.bind_some]
        have hel := nodeE_len (nodeOf body t)
        rw [hkl] at hel
        have hq := hq0 (k := 1) (tg := (t : Int)) (bd := nodeE (nodeOf body t)) (by omega) (by omega) (nodeE_bytes _) (by omega)
        have hfl := full_iff (body := nodeE (nodeOf body t)) (full := body) (by omega) h8
        rw [← hbody] at hq
        rw [hel, nodeE_of hbd (show 24 + 2 * t ≤ body.length by omega)] at hfl
        rw [hel, nodeE_of hbd (show 24 + 2 * t ≤ body.length by omega)] at hq
        rw [hkl, nodeE_of hbd (show 24 + 2 * t ≤ body.length by omega), ht, Int.toNat_natCast]
        by_cases hr : NodeR (nodeOf body t)
        · by_cases hz : ∀ y ∈ body.drop (24 + 2 * t), y = 0
          · rw [if_pos (hgi.2 ⟨hr, hz⟩), decide_eq_true hr, decide_eq_true (hq.2 ⟨h4.symm, ht.symm, hfl.2 ⟨rfl, hz⟩⟩)]
            rfl
          · rw [if_neg (fun x => hz (hgi.1 x).2), decide_eq_true hr, decide_eq_false (fun x => hz (hfl.1 (hq.1 x).2.2).2)]
            rfl
        · rw [if_neg (fun x => hr (hgi.1 x).1), decide_eq_false hr]
          rfl
      · have h5' : ix b 5 > 12 := by omega
        have hg : ¬ GetN b := fun x => h5 x.2.2.1
        rw [if_neg hg, decide_eq_true h4, decide_eq_true h5']
        rfl
    · have hg : ¬ GetN b := fun x => h4 x.2.1
      rw [if_neg hg, decide_eq_false h4]
      rfl
  · have hg : ¬ GetN b := fun x => hi x.1
    rw [if_neg hi, if_neg hg]
    rfl
theorem nodeGet_put {fu : Nat} {n : S_api_Node} (hn : ok_api_Node n) (h : NodeR n) (hf : 100 < fu) : node_Get.f fu (sealed (summed 1 (n.Kids.length : Int) (nodeE n))) = some (n, true) := by
  have k1 := h.1.2.2
  have hl := nodeE_len n
  obtain ⟨p4, p5, p8⟩ := sealed_parts 1 (n.Kids.length : Int) (nodeE n)
  have hsl := sealed_len (summed_len (k := 1) (t := (n.Kids.length : Int)) (body := nodeE n) (by omega))
  have hno := nodeOf_E hn h (List.replicate (56 - (nodeE n).length) 0)
  have hg : GetN (sealed (summed 1 (n.Kids.length : Int) (nodeE n))) := by
    refine ⟨is_sealed (by decide) (by omega), p4, by rw [p5]; omega, ?_, ?_⟩
    · rw [p8, p5, Int.toNat_natCast, hno]
      exact h
    · rw [p8, p5, Int.toNat_natCast, ← hl, List.drop_left' rfl]
      intro y hy
      exact List.eq_of_mem_replicate hy
  rw [nodeGet_eq (sealed_bytes (summed_bytes (by omega) (by omega) (nodeE_bytes n))) (by omega) hf, if_pos hg, p8, p5, Int.toNat_natCast, hno]
theorem same_node {n m : S_api_Node} : (n = m) ↔ n.Entry = m.Entry ∧ n.Kids = m.Kids := by
  cases n
  cases m
  simp
theorem nodeSame_eq {fu : Nat} {n m : S_api_Node} (hl : n.Kids.length ≤ 9000000000000000000) (hf : n.Kids.length < fu) : node_Same.f fu n m = some (decide (n = m)) := by
  unfold node_Same.f
  rw [equal_eq hl hf]
  by_cases h1 : n.Entry = m.Entry
  · by_cases h2 : n.Kids = m.Kids
    · have : n = m := same_node.2 ⟨h1, h2⟩
      simp [this]
    · have : ¬ n = m := fun x => h2 (same_node.1 x).2
      simp [h1, h2, this]
  · have : ¬ n = m := fun x => h1 (same_node.1 x).1
    simp [h1, this]
theorem rnodeSame_eq {fu : Nat} {n m : S_api_Node} (hl : n.Kids.length ≤ 9000000000000000000) (hf : n.Kids.length < fu) : rickyardref08_Same.f fu n m = some (decide (n = m)) := by
  unfold rickyardref08_Same.f
  rw [ints2_eq hl hf]
  by_cases h1 : n.Entry = m.Entry
  · by_cases h2 : n.Kids = m.Kids
    · have : n = m := same_node.2 ⟨h1, h2⟩
      simp [this]
    · have : ¬ n = m := fun x => h2 (same_node.1 x).2
      simp [h1, h2, this]
  · have : ¬ n = m := fun x => h1 (same_node.1 x).1
    simp [h1, this]
/-! ### The order -/
def cmpI (a b : Int) : Int := if a < b then -1 else if a > b then 1 else 0
theorem cmp_eq (fu : Nat) (a b : Int) : cmp_Compare.f fu a b = some (cmpI a b) := by
  unfold cmp_Compare.f cmp_isNaN.f cmpI
  by_cases h1 : a < b
  · simp [h1]
  · by_cases h2 : a > b
    · simp [h1, h2]
    · simp [h1, h2]
theorem or3_eq {fu : Nat} (x y z : Int) (hf : 100 < fu) : cmp_Or.f fu [x, y, z] = some (if x ≠ 0 then x else if y ≠ 0 then y else z) := by
  unfold cmp_Or.f
  have hs : ∀ j : Nat, j < 3 → cmp_Or.s0 fu [x, y, z] (j : Int) = some (if ix [x, y, z] (j : Int) = 0 then .inr ((j + 1 : Nat) : Int) else .inl (.inl (ix [x, y, z] (j : Int)))) := by
    intro j hj
    unfold cmp_Or.s0
    have h1 : (j : Int) < (([x, y, z] : List Int).length : Int) := by simp; omega
    have c0 : 0 ≤ (j : Int) := by omega
    have w3 : IntKind.i64.wrap ((j : Int) + 1) = ((j + 1 : Nat) : Int) := by rw [w64 (by omega) (by omega)]; omega
    simp only [h1, c0, and_self, decide_true, if_true, w3]
    by_cases e : ix [x, y, z] (j : Int) = 0 <;> simp [e]
  have i0 : ix [x, y, z] ((0 : Nat) : Int) = x := rfl
  have i1 : ix [x, y, z] ((1 : Nat) : Int) = y := rfl
  have i2 : ix [x, y, z] ((2 : Nat) : Int) = z := rfl
  by_cases hx : x = 0
  · by_cases hy : y = 0
    · by_cases hz : z = 0
      · have : loopM (cmp_Or.s0 fu [x, y, z]) fu 0 = some (.inr ()) := by
          refine loopM_run (S := fun j => (j : Int)) 3 rfl (fun j hj => ?_) ?_ (by omega)
          · rw [hs j hj, if_pos]
            have : j = 0 ∨ j = 1 ∨ j = 2 := by omega
            rcases this with rfl | rfl | rfl
            · rw [i0, hx]
            · rw [i1, hy]
            · rw [i2, hz]
          · unfold cmp_Or.s0
            simp
        rw [this]
        simp [hx, hy, hz]
      · have : loopM (cmp_Or.s0 fu [x, y, z]) fu 0 = some (.inl z) := by
          refine loopM_run (S := fun j => (j : Int)) 2 rfl (fun j hj => ?_) ?_ (by omega)
          · rw [hs j (by omega), if_pos]
            have : j = 0 ∨ j = 1 := by omega
            rcases this with rfl | rfl
            · rw [i0, hx]
            · rw [i1, hy]
          · rw [hs 2 (by omega), i2, if_neg hz]
        rw [this]
        simp [hx, hy]
    · have : loopM (cmp_Or.s0 fu [x, y, z]) fu 0 = some (.inl y) := by
        refine loopM_run (S := fun j => (j : Int)) 1 rfl (fun j hj => ?_) ?_ (by omega)
        · rw [hs j (by omega), if_pos]
          obtain rfl : j = 0 := by omega
          rw [i0, hx]
        · rw [hs 1 (by omega), i1, if_neg hy]
      rw [this]
      simp [hx, hy]
  · have : loopM (cmp_Or.s0 fu [x, y, z]) fu 0 = some (.inl x) := by
      refine loopM_run (S := fun j => (j : Int)) 0 rfl (fun j hj => by omega) ?_ (by omega)
      rw [hs 0 (by omega), i0, if_neg hx]
    rw [this]
    simp [hx]
def lexc (a b : S_api_Entry) : Int := if cmpI a.Key b.Key ≠ 0 then cmpI a.Key b.Key else if cmpI a.Handle.Slot b.Handle.Slot ≠ 0 then cmpI a.Handle.Slot b.Handle.Slot else cmpI a.Handle.Gen b.Handle.Gen
theorem compare_eq {fu : Nat} (a b : S_api_Entry) (hf : 100 < fu) : node_Compare.f fu a b = some (lexc a b) := by
  unfold node_Compare.f
  simp only [cmp_eq, Option.bind_some, or3_eq _ _ _ hf]
  rfl
theorem ex08 : NodeR ⟨⟨⟨3, 1⟩, -5, 7⟩, [9]⟩ := by decide
theorem ok08 : ok_api_Node ⟨⟨⟨3, 1⟩, -5, 7⟩, [9]⟩ := by
  refine ⟨⟨⟨by decide, by decide⟩, by decide, by decide⟩, ?_, by decide⟩
  intro x hx
  obtain rfl := List.mem_singleton.1 hx
  decide
theorem awake08 {fu : Nat} (hf : 100 < fu) : rickyardlaw08_awake.f fu = some true := by
  unfold rickyardlaw08_awake.f
  have h1 := nodePut_eq (fu := fu) (n := ⟨⟨⟨3, 1⟩, -5, 7⟩, [9]⟩) hf
  have h2 := nodeGet_put (fu := fu) ok08 ex08 hf
  rw [if_pos ex08] at h1
  have l1 := sealed_len (summed_len (k := 1) (t := ((([9] : List Int).length : Nat) : Int)) (body := nodeE ⟨⟨⟨3, 1⟩, -5, 7⟩, [9]⟩) (by rw [nodeE_len]; decide))
  have h3 := compare_eq (fu := fu) ⟨⟨3, 1⟩, -5, 7⟩ ⟨⟨0, 0⟩, 0, 0⟩ hf
  have e3 : lexc ⟨⟨3, 1⟩, -5, 7⟩ ⟨⟨0, 0⟩, 0, 0⟩ = -1 := by decide
  rw [e3] at h3
  rw [h1]
  simp only [Option.bind_some, h2, h3, l1]
  simp
end Go.Proofs.Ytjhajfkfhdnciaa.Pure

/- The pure statement of NodeGets. -/
set_option linter.unusedVariables false
set_option linter.unusedSimpArgs false
namespace Go.Proofs.Ytjhajfkfhdnciaa.Pure
open Go Go.Xw
theorem NodeGets : ∀ (a0 : List Int), ((∀ x ∈ a0, (Lit.int .u8 x).wf = true) ∧ List.length a0 ≤ maxLen) → ∃ fu, rickyardlaw08_NodeGets.f fu a0 = some true := by
  intro b hbody
  refine ⟨400, ?_⟩
  have hb := bytes_of hbody.1
  unfold rickyardlaw08_NodeGets.f
  rw [awake08 (by decide)]
  by_cases h2 : (b.length : Int) > 200
  · simp [h2]
  · have h2' : ¬ 200 < b.length := by omega
    rw [nodeGet_eq hb (by omega) (by decide), rnodeGet_eq hb (by decide)]
    by_cases hg : GetN b
    · obtain ⟨hi, h4, h5, hr, hz⟩ := hg
      have h8 := is_body hi
      obtain ⟨b4, b5⟩ := is_tag hb hi
      have hkl : (nodeOf (b.drop 8) (ix b 5).toNat).Kids.length = (ix b 5).toNat := by simp [nodeOf, kidsOf]
      have hs := rnodeSame_eq (fu := 400) (n := nodeOf (b.drop 8) (ix b 5).toNat) (m := nodeOf (b.drop 8) (ix b 5).toNat) (by omega) (by omega)
      have hp := nodePut_eq (fu := 400) (n := nodeOf (b.drop 8) (ix b 5).toNat) (by decide)
      have hel := nodeE_len (nodeOf (b.drop 8) (ix b 5).toNat)
      have hne : nodeE (nodeOf (b.drop 8) (ix b 5).toNat) = (b.drop 8).take (24 + 2 * (ix b 5).toNat) := nodeE_of (hb.drop 8) (by omega)
      rw [hkl] at hel
      have heq : sealed (summed 1 ((nodeOf (b.drop 8) (ix b 5).toNat).Kids.length : Int) (nodeE (nodeOf (b.drop 8) (ix b 5).toNat))) = b := by
        rw [sealed_iff hi (by omega)]
        refine ⟨h4.symm, by rw [hkl]; omega, ?_⟩
        rw [full_iff (by omega) h8, hel]
        exact ⟨hne, hz⟩
      rw [if_pos hr, heq] at hp
      have hg : GetN b := ⟨hi, h4, h5, hr, hz⟩
      simp only [hg, if_true, Option.bind_some, hs, hp]
      simp [h2']
    · have hs := rnodeSame_eq (fu := 400) (n := noN) (m := noN) (by decide) (by decide)
      have hp := nodePut_eq (fu := 400) (n := noN) (by decide)
      have hno : ¬ NodeR noN := by decide
      rw [if_neg hno] at hp
      simp only [hg, if_false, Option.bind_some, hs, hp]
      simp [h2']
end Go.Proofs.Ytjhajfkfhdnciaa.Pure

/- The law NodeGets holds for every input: the row, out of the walk of the law's function and of its pure statement. Written by rows.py. -/
namespace Go.Proofs.Ytjhajfkfhdnciaa.nodeGets
open Go.ChangeShapes Go.WideShapes Go.ChangeAt Go.RowKit
open Go.ChangeMaps (open_string shut_string)
open Go Go.Xw
set_option linter.unusedVariables false
theorem own : ownKnob Try.prog.godebug = none := Facts.own
theorem laidOut : laidOutB Try.prog = true := Facts.laid
theorem closed : joinedFacts Try.pinned.checked.prog 7 Try.f7 Rows.nodeGetsSpec Rows.nodeGetsRow = true := by
  unfold joinedFacts
  rw [Facts.enter, Facts.lifts, Facts.make, Facts.laid, Facts.rowed, Facts.plain, Facts.heard]
  kernel_rfl
theorem enc_seg {α : Type} (K : Kd α) (a : α) : K.enc a = cellsOf [Kd.seg K a] := by simp [cellsOf, Kd.seg]
def start : Input := ⟨#[], #[.slice none 0 0], []⟩
set_option maxRecDepth 100000 in
set_option maxHeartbeats 1000000 in
theorem lifted (os : Os) (started : os.Started) (H : Type) (enc : TypeId × Value → H) :
    ReturnsInHanded {} Try.checked os 7 .any (Rows.nodeGetsSpec.pre6 enc Try.prog Try.f7 Rows.nodeGetsRow.domain false) (Rows.nodeGetsSpec.post enc Try.prog Try.f7 false true false false) := by
  refine returnsInHanded_of_change_sized (C := Try.checked) own started (by kernel_rfl) Try.func7
    (ChangeSpec.witness6 (enc := enc) (C := Try.checked) false start 8 (by kernel_rfl) (by kernel_rfl) (by kernel_rfl) (by kernel_rfl)) ?_
  intro W base args ds gs before hval0 hW hcnd hsz0 _
  have hval : ∀ (j : Nat) t v, Try.f7.params[j]? = some t → args[j]? = some v → Value.okWide Try.prog W .any base t v := hval0
  have hW' := hW
  obtain ⟨p, q, hA0, hV, rfl, hfz, hnd⟩ := hW
  have hA : DataW.TrodAll enc Try.prog W 0 (fun _ => true) true Try.f7.params.toList args.toList ds p := hA0
  rw [Try.params7] at hA hval
  obtain ⟨v0, vs0, d0, ds0, p0, q0, hargs, rfl, rfl, h0, r0⟩ := trodAll_cons hA
  obtain ⟨rfl, rfl, rfl⟩ := trodAll_nil r0
  obtain rfl : args = #[v0] := by cases args; simp_all
  obtain ⟨rfl, rfl⟩ := trodVars_none hV
  have k0 := h0
  have lt0 : ∀ x ∈ p0, x.block < W.heap.size := by obtain ⟨m, hm⟩ := k0; exact DataW.trod_lt m _ _ _ hm
  obtain ⟨fu0, hf0⟩ := h0
  obtain ⟨aa0, len0, cap0, rfl⟩ := okWide_slice Try.underlying22 (hval 0 22 v0 rfl rfl)
  obtain ⟨a0, V0_0, e0, R0_0, o0, l0, _⟩ := (opn_slice (K := (kI .u8)) Try.underlying22 (by kernel_rfl) (by decide) (opn_int Try.underlying5)) enc _ _ _ _ _ _ hf0
  obtain rfl : Value.slice aa0 len0 cap0 = V0_0 := by simpa [Value.cells] using e0
  obtain ⟨fu, hfu⟩ := Pure.NodeGets a0 ⟨o0, l0⟩
  refine Calls.mono (rickyardlaw08_NodeGets.ok fu W a0 _ R0_0 true hfu) fun e W' hr => ?_
  obtain ⟨v, rfl, rfl, gr⟩ := hr
  have bel := Fr.below gr
  exact ⟨_, rfl, _, _, _, [], _, [], hW', trodAll_mk1 (shut_bool Try.underlying4 _), (trodAll_cons_mk (Below.trod laidOut (by kernel_rfl) (of_decide_eq_true (by kernel_rfl)) k0 bel lt0) trodAll_mk0), rfl, bel.frame _, fun h => by cases h⟩
theorem over : Rows.nodeGetsRow.holds Try.pinned (OpenSpec.ofChange Rows.nodeGetsSpec) :=
  OpenClaim.holds_of_wide 7 Try.f7 rfl rfl rfl rfl rfl rfl rfl ⟨rfl, rfl, rfl, rfl, rfl⟩ rfl rfl rfl rfl rfl (by kernel_rfl) Try.func7 closed
    (of_decide_eq_true (by kernel_rfl)) (by unfold Func.isWrapper; first | (rw [if_pos (by decide +kernel)]; kernel_rfl) | (rw [if_neg (by decide +kernel)]; exact ⟨rfl, rfl⟩))
    (fun os started H enc _ => lifted os started H enc)
theorem proved : Rows.NodeGetsSaid := over
end Go.Proofs.Ytjhajfkfhdnciaa.nodeGets
namespace Go.Proofs.Ytjhajfkfhdnciaa
/-- The law holds. -/
theorem nodeGets_holds : Rows.NodeGetsSaid := nodeGets.proved
#print axioms nodeGets_holds
end Go.Proofs.Ytjhajfkfhdnciaa
