/- CellTurns: texts merged, part 7 of 8. The last part proves that the law CellTurns holds for every input. -/
import Derived.Test.YtdifnahlheogdaaGreatPkCellTurns6
set_option maxRecDepth 100000
set_option maxHeartbeats 4000000
set_option linter.unusedVariables false
set_option linter.unusedSimpArgs false
namespace Go.Proofs.YtdifnahlheogdaaGreat.Pure
open Go Go.Xw Go.Yw
def blockOk (x : Int) : Prop := 2 ≤ x ∧ x ≤ 3071
instance (x : Int) : Decidable (blockOk x) := inferInstanceAs (Decidable (_ ∧ _))
def kidsOk (l : List Int) : Prop := ∀ j, j < l.length → blockOk (ix l (j : Int))
instance (l : List Int) : Decidable (kidsOk l) := inferInstanceAs (Decidable (∀ j, j < l.length → _))
def headOk (n : S_api_Node) : Prop := (0 ≤ n.Entry.Handle.Slot ∧ n.Entry.Handle.Slot ≤ 1791) ∧ (1 ≤ n.Entry.Handle.Gen ∧ n.Entry.Handle.Gen ≤ 4294967295) ∧ n.Kids.length ≤ 12
instance (n : S_api_Node) : Decidable (headOk n) := inferInstanceAs (Decidable (_ ∧ _))
def NodeR (n : S_api_Node) : Prop := headOk n ∧ kidsOk n.Kids
instance (n : S_api_Node) : Decidable (NodeR n) := inferInstanceAs (Decidable (_ ∧ _))
theorem rblock8_eq (fu : Nat) (a : Int) : rickyardref08_Block.f fu a = some (decide (blockOk a)) := by
  unfold rickyardref08_Block.f blockOk
  by_cases h : 2 ≤ a <;> simp [h]
theorem nodeRight_eq {fu : Nat} {n : S_api_Node} (hf : 100 < fu) : node_Right.f fu n = some (decide (NodeR n)) := by
  unfold node_Right.f
  by_cases hh : headOk n
  · have hh' := hh
    unfold headOk at hh'
    obtain ⟨⟨s0, s1⟩, ⟨g0, g1⟩, k1⟩ := hh'
    have c1 : ¬ n.Entry.Handle.Slot < 0 := by omega
    have c2 : ¬ n.Entry.Handle.Slot ≥ 1792 := by omega
    have c3 : ¬ n.Entry.Handle.Gen < 1 := by omega
    have c4 : ¬ n.Entry.Handle.Gen > 4294967295 := by omega
    have c5 : ¬ (n.Kids.length : Int) > 12 := by omega
    have hs : ∀ j : Nat, j < n.Kids.length → slices_IndexFunc_node_Right_1.s0 fu n.Kids (j : Int) = some (if blockOk (ix n.Kids (j : Int)) then .inr ((j + 1 : Nat) : Int) else .inl (.inl (j : Int))) := by
      intro j hj
      unfold slices_IndexFunc_node_Right_1.s0 node_Right_1.f
      have h1 : (j : Int) < (n.Kids.length : Int) := by omega
      have c0 : 0 ≤ (j : Int) := by omega
      have w3 : IntKind.i64.wrap ((j : Int) + 1) = ((j + 1 : Nat) : Int) := by rw [w64 (by omega) (by omega)]; omega
      simp only [h1, c0, and_self, decide_true, if_true, w3, Option.bind_some]
      unfold blockOk
      by_cases h2 : ix n.Kids (j : Int) < 2
      · have h3 : ¬ (2 ≤ ix n.Kids (j : Int) ∧ ix n.Kids (j : Int) ≤ 3071) := by omega
        simp [h2, h3]
      · by_cases h4 : ix n.Kids (j : Int) ≥ 3072
        · have h3 : ¬ (2 ≤ ix n.Kids (j : Int) ∧ ix n.Kids (j : Int) ≤ 3071) := by omega
          simp only [h2, h4, h3, decide_true, decide_false, if_true, if_false, Bool.false_eq_true, Option.bind_some]
        · have h3 : 2 ≤ ix n.Kids (j : Int) ∧ ix n.Kids (j : Int) ≤ 3071 := by omega
          simp only [h2, h4, h3, decide_true, decide_false, if_true, if_false, Bool.false_eq_true, and_self, Option.bind_some]
    have hi : ∃ r : Int, slices_IndexFunc_node_Right_1.f fu n.Kids = some r ∧ (r ≥ 0 ↔ ¬ kidsOk n.Kids) := by
      unfold slices_IndexFunc_node_Right_1.f
      by_cases hk : kidsOk n.Kids
      · have : loopM (slices_IndexFunc_node_Right_1.s0 fu n.Kids) fu 0 = some (.inr ()) := by
          refine loopM_run (S := fun j => (j : Int)) n.Kids.length rfl (fun j hj => by rw [hs j hj, if_pos (hk j hj)]) ?_ (by omega)
          unfold slices_IndexFunc_node_Right_1.s0
          simp
        rw [this]
        exact ⟨-1, rfl, by simp [hk]⟩
      · have hmin : ∀ m j, j ≤ m → (j < n.Kids.length ∧ ¬ blockOk (ix n.Kids (j : Int))) → ∃ q, (q < n.Kids.length ∧ ¬ blockOk (ix n.Kids (q : Int))) ∧ ∀ i, i < q → blockOk (ix n.Kids (i : Int)) := by
          intro m
          induction m with
          | zero =>
            intro j hj hjj
            exact ⟨j, hjj, fun i hi => by omega⟩
          | succ m ih =>
            intro j hj hjj
            by_cases hx : ∃ i, i < j ∧ ¬ blockOk (ix n.Kids (i : Int))
            · obtain ⟨i, hi, hgi⟩ := hx
              exact ih i (by omega) ⟨by omega, hgi⟩
            · exact ⟨j, hjj, fun i hi => Classical.byContradiction fun hg => hx ⟨i, hi, hg⟩⟩
        have hex : ∃ j, j < n.Kids.length ∧ ¬ blockOk (ix n.Kids (j : Int)) := by
          apply Classical.byContradiction
          intro hx
          exact hk fun i hi => Classical.byContradiction fun hg => hx ⟨i, hi, hg⟩
        obtain ⟨j, hj⟩ := hex
        obtain ⟨q, ⟨hq, hg⟩, hall⟩ := hmin j j (Nat.le_refl _) hj
        have : loopM (slices_IndexFunc_node_Right_1.s0 fu n.Kids) fu 0 = some (.inl (q : Int)) :=
          loopM_run (S := fun j => (j : Int)) q rfl (fun i hi => by rw [hs i (by omega), if_pos (hall i hi)]) (by rw [hs q hq, if_neg hg]) (by omega)
        rw [this]
        refine ⟨(q : Int), rfl, ?_⟩
        simp only [hk, not_false_eq_true, iff_true]
        omega
    obtain ⟨r, hr, hrk⟩ := hi
    unfold slices_ContainsFunc_node_Right_1.f
    rw [hr]
    simp only [c1, c2, c3, c4, c5, decide_false, Bool.false_eq_true, if_false, Option.bind_some]
    by_cases hk : kidsOk n.Kids
    · have h1 : ¬ r ≥ 0 := fun x => (hrk.1 x) hk
      have hn : NodeR n := ⟨hh, hk⟩
      rw [decide_eq_false h1, decide_eq_true hn]
      rfl
    · have h1 : r ≥ 0 := hrk.2 hk
      have hn : ¬ NodeR n := fun x => hk x.2
      rw [decide_eq_true h1, decide_eq_false hn]
      rfl
  · have hn : ¬ NodeR n := fun x => hh x.1
    rw [decide_eq_false hn]
    unfold headOk at hh
    by_cases c1 : n.Entry.Handle.Slot < 0
    · rw [decide_eq_true c1, if_pos rfl]
    · rw [decide_eq_false c1, if_neg (by decide)]
      by_cases c2 : n.Entry.Handle.Slot ≥ 1792
      · rw [decide_eq_true c2, if_pos rfl]
      · rw [decide_eq_false c2, if_neg (by decide)]
        by_cases c3 : n.Entry.Handle.Gen < 1
        · rw [decide_eq_true c3, if_pos rfl]
        · rw [decide_eq_false c3, if_neg (by decide)]
          by_cases c4 : n.Entry.Handle.Gen > 4294967295
          · rw [decide_eq_true c4, if_pos rfl]
          · have c5 : (n.Kids.length : Int) > 12 := by omega
            rw [decide_eq_false c4, if_neg (by decide), decide_eq_true c5, if_pos rfl]
theorem rnodeRight_eq {fu : Nat} {n : S_api_Node} (hl : n.Kids.length ≤ 9000000000000000000) (hf : 100 < fu) : rickyardref08_Right.f fu n = some (decide (NodeR n)) := by
  have cut0 : rickyardref08_Right.f fu n = (loopM (rickyardref08_Right.s0 fu n) fu ((if (decide (n.Entry.Handle.Slot ≥ 0)) = true then (if (decide (n.Entry.Handle.Slot ≤ 1791)) = true then (if (decide (n.Entry.Handle.Gen ≥ 1)) = true then (if (decide (n.Entry.Handle.Gen ≤ 4294967295)) = true then (decide ((List.length n.Kids : Int) ≤ 12)) else false) else false) else false) else false), 0)).bind fun e => some e := by
    unfold rickyardref08_Right.f
    generalize decide (n.Entry.Handle.Slot ≥ 0) = b1
    generalize decide (n.Entry.Handle.Slot ≤ 1791) = b2
    generalize decide (n.Entry.Handle.Gen ≥ 1) = b3
    generalize decide (n.Entry.Handle.Gen ≤ 4294967295) = b4
    cases b1 <;> cases b2 <;> cases b3 <;> cases b4 <;> rfl
  rw [cut0]
  have c0 : (if (decide (n.Entry.Handle.Slot ≥ 0)) = true then (if (decide (n.Entry.Handle.Slot ≤ 1791)) = true then (if (decide (n.Entry.Handle.Gen ≥ 1)) = true then (if (decide (n.Entry.Handle.Gen ≤ 4294967295)) = true then (decide ((List.length n.Kids : Int) ≤ 12)) else false) else false) else false) else false) = decide (headOk n) := by
    by_cases hh : headOk n
    · have hh' := hh
      unfold headOk at hh'
      have c1 : n.Entry.Handle.Slot ≥ 0 := by omega
      have c2 : n.Entry.Handle.Slot ≤ 1791 := by omega
      have c3 : n.Entry.Handle.Gen ≥ 1 := by omega
      have c4 : n.Entry.Handle.Gen ≤ 4294967295 := by omega
      have c5 : (n.Kids.length : Int) ≤ 12 := by omega
      rw [decide_eq_true hh, decide_eq_true c1, decide_eq_true c2, decide_eq_true c3, decide_eq_true c4, decide_eq_true c5]
      rfl
    · rw [decide_eq_false hh]
      unfold headOk at hh
      by_cases c1 : n.Entry.Handle.Slot ≥ 0
      · by_cases c2 : n.Entry.Handle.Slot ≤ 1791
        · by_cases c3 : n.Entry.Handle.Gen ≥ 1
          · by_cases c4 : n.Entry.Handle.Gen ≤ 4294967295
            · have c5 : ¬ (n.Kids.length : Int) ≤ 12 := by omega
              rw [decide_eq_true c1, decide_eq_true c2, decide_eq_true c3, decide_eq_true c4, decide_eq_false c5]
              rfl
            · rw [decide_eq_true c1, decide_eq_true c2, decide_eq_true c3, decide_eq_false c4]
              rfl
          · rw [decide_eq_true c1, decide_eq_true c2, decide_eq_false c3]
            rfl
        · rw [decide_eq_true c1, decide_eq_false c2]
          rfl
      · rw [decide_eq_false c1]
        rfl
  rw [c0]
  by_cases hh : headOk n
  · have k1 := hh.2.2
    rw [decide_eq_true hh]
    have hs : ∀ j : Nat, j < n.Kids.length → rickyardref08_Right.s0 fu n (true, (j : Int)) = some (.inr (decide (blockOk (ix n.Kids (j : Int))), ((j + 1 : Nat) : Int))) := by
      intro j hj
      unfold rickyardref08_Right.s0
      have h1 : (j : Int) < (n.Kids.length : Int) := by omega
      have c0 : 0 ≤ (j : Int) := by omega
      have w3 : IntKind.i64.wrap ((j : Int) + 1) = ((j + 1 : Nat) : Int) := by rw [w64 (by omega) (by omega)]; omega
      simp only [h1, c0, and_self, decide_true, if_true, w3, Option.bind_some, rblock8_eq]
    by_cases hk : kidsOk n.Kids
    · have : loopM (rickyardref08_Right.s0 fu n) fu (true, 0) = some true := by
        refine loopM_run (S := fun j => (true, (j : Int))) n.Kids.length rfl (fun j hj => by rw [hs j hj, decide_eq_true (hk j hj)]) ?_ (by omega)
        unfold rickyardref08_Right.s0
        simp
      have hn : NodeR n := ⟨hh, hk⟩
      rw [this, decide_eq_true hn]
      rfl
    · have hmin : ∀ m j, j ≤ m → (j < n.Kids.length ∧ ¬ blockOk (ix n.Kids (j : Int))) → ∃ q, (q < n.Kids.length ∧ ¬ blockOk (ix n.Kids (q : Int))) ∧ ∀ i, i < q → blockOk (ix n.Kids (i : Int)) := by
        intro m
        induction m with
        | zero =>
          intro j hj hjj
          exact ⟨j, hjj, fun i hi => by omega⟩
        | succ m ih =>
          intro j hj hjj
          by_cases hx : ∃ i, i < j ∧ ¬ blockOk (ix n.Kids (i : Int))
          · obtain ⟨i, hi, hgi⟩ := hx
            exact ih i (by omega) ⟨by omega, hgi⟩
          · exact ⟨j, hjj, fun i hi => Classical.byContradiction fun hg => hx ⟨i, hi, hg⟩⟩
      have hex : ∃ j, j < n.Kids.length ∧ ¬ blockOk (ix n.Kids (j : Int)) := by
        apply Classical.byContradiction
        intro hx
        exact hk fun i hi => Classical.byContradiction fun hg => hx ⟨i, hi, hg⟩
      obtain ⟨j, hj⟩ := hex
      obtain ⟨q, ⟨hq, hg⟩, hall⟩ := hmin j j (Nat.le_refl _) hj
      have : loopM (rickyardref08_Right.s0 fu n) fu (true, 0) = some false := by
        refine loopM_run (S := fun j => (decide (j ≤ q), (j : Int))) (q + 1) (by simp) (fun j hj => ?_) ?_ (by omega)
        · rw [decide_eq_true (show j ≤ q by omega), hs j (by omega)]
          congr 3
          by_cases e : j = q
          · subst e
            rw [decide_eq_false hg, decide_eq_false (by omega)]
          · rw [decide_eq_true (hall j (by omega)), decide_eq_true (by omega)]
        · rw [decide_eq_false (by omega)]
          unfold rickyardref08_Right.s0
          by_cases e : ((q + 1 : Nat) : Int) < (n.Kids.length : Int)
          · rw [decide_eq_true e]
            rfl
          · rw [decide_eq_false e]
            rfl
      have hn : ¬ NodeR n := fun x => hk x.2
      rw [this, decide_eq_false hn]
      rfl
  · have hn : ¬ NodeR n := fun x => hh x.1
    rw [decide_eq_false hh, decide_eq_false hn]
    have : loopM (rickyardref08_Right.s0 fu n) fu (false, 0) = some false := by
      refine loopM_run (S := fun j => (false, (j : Int))) 0 rfl (fun j hj => by omega) ?_ (by omega)
      unfold rickyardref08_Right.s0
      by_cases e : ((0 : Nat) : Int) < (n.Kids.length : Int)
      · rw [decide_eq_true e]
        rfl
      · rw [decide_eq_false e]
        rfl
    rw [this]
    rfl
def entryE (e : S_api_Entry) : List Int := lay (u64n e.Key) 8 ++ (lay (u64n e.Value) 8 ++ (lay (u64n e.Handle.Slot) 4 ++ lay (u64n e.Handle.Gen) 4))
theorem entryE_len (e : S_api_Entry) : (entryE e).length = 24 := by simp [entryE, lay_len]
theorem entryE_bytes (e : S_api_Entry) : Bytes (entryE e) := (lay_bytes _ _).app ((lay_bytes _ _).app ((lay_bytes _ _).app (lay_bytes _ _)))
def nodeE (n : S_api_Node) : List Int := entryE n.Entry ++ rowE n.Kids n.Kids.length
theorem nodeE_len (n : S_api_Node) : (nodeE n).length = 24 + 2 * n.Kids.length := by simp [nodeE, entryE_len, rowE_len]
theorem nodeE_bytes (n : S_api_Node) : Bytes (nodeE n) := (entryE_bytes _).app (rowE_bytes _ _)
theorem octets2_eq {fu : Nat} {x y : Int} (hf : 100 < fu) : octet_Octets.f fu [(IntKind.u64.wrap x), (IntKind.u64.wrap y)] = some (lay (u64n x) 8 ++ lay (u64n y) 8) := by
  unfold octet_Octets.f
  have hl : ∀ z : Int, octet_Lay.f fu (IntKind.u64.wrap z) 8 = some (lay (u64n z) 8) := fun z => olay64 (n := 8) (by decide) (by omega)
  have : loopM (octet_Octets.s0 fu [(IntKind.u64.wrap x), (IntKind.u64.wrap y)]) fu ([], 0) = some (lay (u64n x) 8 ++ lay (u64n y) 8) := by
    refine loopM_run (S := fun j => (if j = 0 then [] else if j = 1 then lay (u64n x) 8 else lay (u64n x) 8 ++ lay (u64n y) 8, (j : Int))) 2 rfl ?_ ?_ (by omega)
    · intro j hj
      unfold octet_Octets.s0
      have : j = 0 ∨ j = 1 := by omega
      have l0 : (0 : Nat) + 8 ≤ LIM := lim_of' (by decide)
      have l1 : (8 : Nat) + 8 ≤ LIM := lim_of' (by decide)
      rcases this with rfl | rfl
      · simp [hl, ix, lay_len, w64, l0]
      · simp [hl, ix, lay_len, w64, l1]
    · unfold octet_Octets.s0
      simp
  rw [this]
  rfl
theorem nodePut_eq {fu : Nat} {n : S_api_Node} (hf : 100 < fu) : node_Put.f fu n = some (if NodeR n then (sealed (summed 1 (n.Kids.length : Int) (nodeE n)), true) else ([], false)) := by
  unfold node_Put.f
  rw [nodeRight_eq hf]
  by_cases h : NodeR n
  · have k1 := h.1.2.2
    have hl1 : octet_Lay.f fu (IntKind.u64.wrap n.Entry.Handle.Slot) 4 = some (lay (u64n n.Entry.Handle.Slot) 4) := olay64 (n := 4) (by decide) (by omega)
    have hl2 : octet_Lay.f fu (IntKind.u64.wrap n.Entry.Handle.Gen) 4 = some (lay (u64n n.Entry.Handle.Gen) 4) := olay64 (n := 4) (by decide) (by omega)
    have e0 : lay (u64n n.Entry.Key) 8 ++ lay (u64n n.Entry.Value) 8 ++ lay (u64n n.Entry.Handle.Slot) 4 ++ lay (u64n n.Entry.Handle.Gen) 4 = entryE n.Entry := by simp [entryE]
    have hlim1 : (lay (u64n n.Entry.Key) 8 ++ lay (u64n n.Entry.Value) 8).length + (lay (u64n n.Entry.Handle.Slot) 4).length ≤ LIM := lim_of' (by simp [lay_len])
    have hlim2 : (lay (u64n n.Entry.Key) 8 ++ lay (u64n n.Entry.Value) 8 ++ lay (u64n n.Entry.Handle.Slot) 4).length + (lay (u64n n.Entry.Handle.Gen) 4).length ≤ LIM := lim_of' (by simp [lay_len])
    have hloop : loopM (node_Put.s0 fu n) fu (entryE n.Entry, 0) = some (nodeE n) := by
      refine loopM_run (S := fun j => (entryE n.Entry ++ rowE n.Kids j, (j : Int))) n.Kids.length (by simp [rowE]) ?_ ?_ (by omega)
      · intro j hj
        unfold node_Put.s0
        have h1 : (j : Int) < (n.Kids.length : Int) := by omega
        have c0 : 0 ≤ (j : Int) := by omega
        have w3 : IntKind.i64.wrap ((j : Int) + 1) = ((j + 1 : Nat) : Int) := by rw [w64 (by omega) (by omega)]; omega
        have hl : octet_Lay.f fu (IntKind.u64.wrap (ix n.Kids (j : Int))) 2 = some (lay (u64n (ix n.Kids (j : Int))) 2) := olay64 (n := 2) (by decide) (by omega)
        have hlim : (entryE n.Entry ++ rowE n.Kids j).length + (lay (u64n (ix n.Kids (j : Int))) 2).length ≤ LIM := lim_of' (by rw [List.length_append, entryE_len, rowE_len, lay_len]; omega)
        simp only [h1, c0, and_self, decide_true, if_true, w3, hl, Option.bind_some, hlim]
        rw [List.append_assoc]
        congr 4
        rw [rowE, rowE, flat_succ]
      · unfold node_Put.s0
        simp [nodeE]
    have hs := seal_eq (fu := fu) (k := 1) (t := (n.Kids.length : Int)) (nodeE_bytes n) (by omega) (by omega) (by rw [nodeE_len]; omega) hf
    simp only [h, decide_true, Bool.not_true, Bool.false_eq_true, if_false, octets2_eq hf, Option.bind_some, hl1, hl2, hlim1, hlim2, if_true, e0, hloop, hs]
  · simp [h]
theorem rnodePut_eq {fu : Nat} {n : S_api_Node} (hk : n.Kids.length ≤ 12) (hf : 100 < fu) : rickyardref08_Put.f fu n = some ((sealed (summed 1 (n.Kids.length : Int) (nodeE n))).map toB) := by
  unfold rickyardref08_Put.f
  have hl0 : rickyardref01_Lay.f fu (IntKind.u64.wrap n.Entry.Key) 8 = some ((lay (u64n n.Entry.Key) 8).map toB) := rlay64 (n := 8) (by decide) (by omega)
  have hl9 : rickyardref01_Lay.f fu (IntKind.u64.wrap n.Entry.Value) 8 = some ((lay (u64n n.Entry.Value) 8).map toB) := rlay64 (n := 8) (by decide) (by omega)
  have hl1 : rickyardref01_Lay.f fu (IntKind.u64.wrap n.Entry.Handle.Slot) 4 = some ((lay (u64n n.Entry.Handle.Slot) 4).map toB) := rlay64 (n := 4) (by decide) (by omega)
  have hl2 : rickyardref01_Lay.f fu (IntKind.u64.wrap n.Entry.Handle.Gen) 4 = some ((lay (u64n n.Entry.Handle.Gen) 4).map toB) := rlay64 (n := 4) (by decide) (by omega)
  have e0 : (lay (u64n n.Entry.Key) 8).map toB ++ (lay (u64n n.Entry.Value) 8).map toB ++ (lay (u64n n.Entry.Handle.Slot) 4).map toB ++ (lay (u64n n.Entry.Handle.Gen) 4).map toB = (entryE n.Entry).map toB := by simp [entryE]
  have hlim0 : ((lay (u64n n.Entry.Key) 8).map toB).length + ((lay (u64n n.Entry.Value) 8).map toB).length ≤ LIM := lim_of' (by simp [lay_len])
  have hlim1 : ((lay (u64n n.Entry.Key) 8).map toB ++ (lay (u64n n.Entry.Value) 8).map toB).length + ((lay (u64n n.Entry.Handle.Slot) 4).map toB).length ≤ LIM := lim_of' (by simp [lay_len])
  have hlim2 : ((lay (u64n n.Entry.Key) 8).map toB ++ (lay (u64n n.Entry.Value) 8).map toB ++ (lay (u64n n.Entry.Handle.Slot) 4).map toB).length + ((lay (u64n n.Entry.Handle.Gen) 4).map toB).length ≤ LIM := lim_of' (by simp [lay_len])
  have hloop : loopM (rickyardref08_Put.s0 fu n) fu ((entryE n.Entry).map toB, 0) = some ((nodeE n).map toB) := by
    refine loopM_run (S := fun j => ((entryE n.Entry ++ rowE n.Kids j).map toB, (j : Int))) n.Kids.length (by simp [rowE]) ?_ ?_ (by omega)
    · intro j hj
      unfold rickyardref08_Put.s0
      have h1 : (j : Int) < (n.Kids.length : Int) := by omega
      have c0 : 0 ≤ (j : Int) := by omega
      have w3 : IntKind.i64.wrap ((j : Int) + 1) = ((j + 1 : Nat) : Int) := by rw [w64 (by omega) (by omega)]; omega
      have hl : rickyardref01_Lay.f fu (IntKind.u64.wrap (ix n.Kids (j : Int))) 2 = some ((lay (u64n (ix n.Kids (j : Int))) 2).map toB) := rlay64 (n := 2) (by decide) (by omega)
      have hlim : ((entryE n.Entry ++ rowE n.Kids j).map toB).length + ((lay (u64n (ix n.Kids (j : Int))) 2).map toB).length ≤ LIM := lim_of' (by rw [List.length_map, List.length_map, List.length_append, entryE_len, rowE_len, lay_len]; omega)
      simp only [h1, c0, and_self, decide_true, if_true, w3, hl, Option.bind_some, hlim]
      rw [← List.map_append, List.append_assoc]
      congr 5
      rw [rowE, rowE, flat_succ]
    · unfold rickyardref08_Put.s0
      simp [nodeE]
  have hs := rseal_eq (fu := fu) (k := 1) (t := (n.Kids.length : Int)) (nodeE_bytes n) (by omega) (by omega) (by rw [nodeE_len]; omega) hf
  simp only [hl0, hl9, hl1, hl2, Option.bind_some, hlim0, hlim1, hlim2, if_true, e0, hloop, hs]
theorem number_eq {fu : Nat} {b : List Int} {i n : Nat} (hb : Bytes b) (hl : b.length ≤ 9000000000000000000) (h : i + n ≤ b.length) (hn : 1 ≤ n ∧ n ≤ 8) (hf : 100 < fu) : node_number.f fu b (i : Int) (n : Int) = some (intAt b i n) := by
  unfold node_number.f octet_Get.f
  have h1 : ¬ (n : Int) < 1 := by omega
  have h2 : ¬ (n : Int) > 8 := by omega
  have w1 : IntKind.i64.wrap ((i : Int) + (n : Int)) = ((i + n : Nat) : Int) := by rw [w64 (by omega) (by omega)]; omega
  have hr : octet_Read.f fu (cut b (i : Int) ((i + n : Nat) : Int)) = some ((num (part b i n) : Nat) : Int) := by
    rw [cut_eq]
    have := read_eq (fu := fu) (part_bytes hb i n) (by rw [part_len h]; omega) (by rw [part_len h]; omega)
    exact this
  have c1 : (0 : Int) ≤ (i : Int) ∧ (i : Int) ≤ ((i + n : Nat) : Int) ∧ ((i + n : Nat) : Int) ≤ (b.length : Int) := by omega
  simp only [h1, h2, decide_false, Bool.false_eq_true, if_false, there_eq hl h, Option.bind_some, Bool.not_true, w1, hr, if_pos c1]
  rfl
def kidsOf (body : List Int) (t : Nat) : List Int := (List.range t).map fun i => intAt body (24 + 2 * i) 2
def nodeOf (body : List Int) (t : Nat) : S_api_Node := ⟨⟨⟨intAt body 16 4, intAt body 20 4⟩, intAt body 0 8, intAt body 8 8⟩, kidsOf body t⟩
theorem nodeE_of {body : List Int} (hb : Bytes body) {t : Nat} (h : 24 + 2 * t ≤ body.length) : nodeE (nodeOf body t) = body.take (24 + 2 * t) := by
  have e1 : rowE (kidsOf body t) t = (body.drop 24).take (2 * t) := by
    rw [← field_flat (w := 2) t (by rw [List.length_drop]; omega)]
    apply flat_congr
    intro i hi
    unfold kidsOf
    rw [ix_map hi, lay_part hb (by omega) (by decide)]
    unfold part fieldAt
    rw [List.drop_drop]
  have hk : (kidsOf body t).length = t := by simp [kidsOf]
  have e2 : entryE (nodeOf body t).Entry = body.take 24 := by
    unfold entryE nodeOf
    simp only
    rw [lay_part hb (by omega) (by decide), lay_part hb (by omega) (by decide), lay_part hb (by omega) (by decide), lay_part hb (by omega) (by decide)]
    unfold part
    rw [show (24 : Nat) = 0 + 8 + 8 + 4 + 4 from rfl, List.take_add, List.take_add, List.take_add, List.take_add]
    simp
  unfold nodeE
  have hk2 : (nodeOf body t).Kids = kidsOf body t := rfl
  rw [hk2, hk, e1, e2, List.take_add]
def ok_api_Node (n : S_api_Node) : Prop := (-9223372036854775808 ≤ n.Entry.Key ∧ n.Entry.Key ≤ 9223372036854775807) ∧ (-9223372036854775808 ≤ n.Entry.Value ∧ n.Entry.Value ≤ 9223372036854775807)
def noN : S_api_Node := ⟨⟨⟨0, 0⟩, 0, 0⟩, []⟩
def GetN (b : List Int) : Prop := Is b ∧ ix b 4 = 1 ∧ ix b 5 ≤ 12 ∧ NodeR (nodeOf (b.drop 8) (ix b 5).toNat) ∧ ∀ y ∈ (b.drop 8).drop (24 + 2 * (ix b 5).toNat), y = 0
instance (b : List Int) : Decidable (GetN b) := inferInstanceAs (Decidable (_ ∧ _))
theorem nodeGet_eq {fu : Nat} {b : List Int} (hb : Bytes b) (hl : b.length ≤ 9000000000000000000) (hf : 100 < fu) : node_Get.f fu b = some (if GetN b then (nodeOf (b.drop 8) (ix b 5).toNat, true) else (noN, false)) := by
  unfold node_Get.f
  rw [open_eq hb hl hf]
  by_cases hi : Is b
  · have h8 := is_body hi
    obtain ⟨b4, b5⟩ := is_tag hb hi
    rw [if_pos hi]
    simp only [Option.bind_some, Bool.not_true, Bool.false_eq_true, if_false]
    by_cases h4 : ix b 4 = 1
    · by_cases h5 : ix b 5 ≤ 12
      · have h5' : ¬ ix b 5 > 12 := by omega
        obtain ⟨t, ht⟩ : ∃ t : Nat, ix b 5 = (t : Int) := ⟨(ix b 5).toNat, by omega⟩
        have hbd := hb.drop 8
        obtain ⟨body, hbody⟩ : ∃ body, body = b.drop 8 := ⟨_, rfl⟩
        rw [← hbody] at h8 hbd
        have n16 : node_number.f fu body 16 4 = some (intAt body 16 4) := number_eq (i := 16) (n := 4) hbd (by omega) (by omega) (by decide) hf
        have n20 : node_number.f fu body 20 4 = some (intAt body 20 4) := number_eq (i := 20) (n := 4) hbd (by omega) (by omega) (by decide) hf
        have n0 : node_number.f fu body 0 8 = some (intAt body 0 8) := number_eq (i := 0) (n := 8) hbd (by omega) (by omega) (by decide) hf
        have n8 : node_number.f fu body 8 8 = some (intAt body 8 8) := number_eq (i := 8) (n := 8) hbd (by omega) (by omega) (by decide) hf
        have hloop : loopM (node_Get.s0 fu (ix b 4, ix b 5, body, true)) fu (0, []) = some (kidsOf body t) := by
          refine loopM_run (S := fun j => ((j : Int), kidsOf body j)) t (by simp [kidsOf]) ?_ ?_ (by omega)
          · intro j hj
            unfold node_Get.s0
            have h1 : (j : Int) < ix b 5 := by omega
            have w3 : IntKind.i64.wrap ((j : Int) + 1) = ((j + 1 : Nat) : Int) := by rw [w64 (by omega) (by omega)]; omega
            have w4 : IntKind.i64.wrap (2 * (j : Int)) = ((2 * j : Nat) : Int) := by rw [w64 (by omega) (by omega)]; omega
            have w5 : IntKind.i64.wrap (24 + ((2 * j : Nat) : Int)) = ((24 + 2 * j : Nat) : Int) := by rw [w64 (by omega) (by omega)]; omega
            have hn : node_number.f fu body ((24 + 2 * j : Nat) : Int) 2 = some (intAt body (24 + 2 * j) 2) := number_eq (n := 2) hbd (by omega) (by omega) (by decide) hf
            have hlim : (kidsOf body j).length + ([intAt body (24 + 2 * j) 2] : List Int).length ≤ LIM := lim_of' (by simp [kidsOf]; omega)
            simp only [h1, decide_true, if_true, w3, w4, w5, hn, Option.bind_some, hlim]
            simp [kidsOf, List.range_succ]
          · unfold node_Get.s0
            simp [ht]
        have w1 : IntKind.i64.wrap (2 * (t : Int)) = ((2 * t : Nat) : Int) := by rw [w64 (by omega) (by omega)]; omega
        have w2 : IntKind.i64.wrap (24 + ((2 * t : Nat) : Int)) = ((24 + 2 * t : Nat) : Int) := by rw [w64 (by omega) (by omega)]; omega
        have w6 : IntKind.i64.wrap ((body.length : Int) - ((24 + 2 * t : Nat) : Int)) = ((56 - (24 + 2 * t) : Nat) : Int) := by rw [w64 (by omega) (by omega)]; omega
        have hn := noughts_eq (fu := fu) (b := body) (i := 24 + 2 * t) (n := 56 - (24 + 2 * t)) (by omega) (by omega) (by omega)
        have e8 : (body.drop (24 + 2 * t)).take (56 - (24 + 2 * t)) = body.drop (24 + 2 * t) := List.take_of_length_le (by rw [List.length_drop, h8]; omega)
        rw [e8] at hn
        have hN : (⟨⟨⟨intAt body 16 4, intAt body 20 4⟩, intAt body 0 8, intAt body 8 8⟩, kidsOf body t⟩ : S_api_Node) = nodeOf body t := rfl
        rw [← hbody]
        simp only [h4, h5', decide_true, decide_false, Bool.not_true, Bool.false_eq_true, if_false] at hloop ⊢
        simp only [n16, n20, n0, n8, Option.bind_some, hloop]
        simp only [ht, w1, w2, w6, hn, hN, nodeRight_eq hf, Option.bind_some]
        have hgi : GetN b ↔ (NodeR (nodeOf body t) ∧ ∀ y ∈ body.drop (24 + 2 * t), y = 0) := by
          unfold GetN
          rw [ht, ← hbody, Int.toNat_natCast]
          exact ⟨fun x => x.2.2.2, fun x => ⟨hi, h4, by omega, x⟩⟩
        rw [Int.toNat_natCast]
        by_cases hr : NodeR (nodeOf body t)
        · by_cases hz : ∀ y ∈ body.drop (24 + 2 * t), y = 0
          · rw [if_pos (hgi.2 ⟨hr, hz⟩), decide_eq_true hr, decide_eq_true hz]
            rfl
          · rw [if_neg (fun x => hz (hgi.1 x).2), decide_eq_true hr, decide_eq_false hz]
            rfl
        · rw [if_neg (fun x => hr (hgi.1 x).1), decide_eq_false hr]
          rfl
      · have h5' : ix b 5 > 12 := by omega
        have hg : ¬ GetN b := fun x => h5 x.2.2.1
        rw [if_neg hg, decide_eq_true h4, decide_eq_true h5']
        rfl
    · have hg : ¬ GetN b := fun x => h4 x.2.1
      rw [if_neg hg, decide_eq_false h4]
      rfl
  · have hg : ¬ GetN b := fun x => hi x.1
    rw [if_neg hi, if_neg hg]
    rfl
theorem rnodeGet_eq {fu : Nat} {b : List Int} (hb : Bytes b) (hf : 100 < fu) : rickyardref08_Get.f fu b = some (if GetN b then (nodeOf (b.drop 8) (ix b 5).toNat, true) else (noN, false)) := by
  unfold rickyardref08_Get.f
  rw [ropen_eq hb hf]
  by_cases hi : Is b
  · have h8 := is_body hi
    obtain ⟨b4, b5⟩ := is_tag hb hi
    rw [if_pos hi]
    simp only [Option.bind_some, Bool.not_true, Bool.false_eq_true, if_false]
    by_cases h4 : ix b 4 = 1
    · by_cases h5 : ix b 5 ≤ 12
      · have h5' : ¬ ix b 5 > 12 := by omega
        obtain ⟨t, ht⟩ : ∃ t : Nat, ix b 5 = (t : Int) := ⟨(ix b 5).toNat, by omega⟩
        have hbd := hb.drop 8
        obtain ⟨body, hbody⟩ : ∃ body, body = b.drop 8 := ⟨_, rfl⟩
        have hq0 : ∀ {k tg : Int} {bd : List Int}, (0 ≤ k ∧ k ≤ 255) → (0 ≤ tg ∧ tg ≤ 255) → Bytes bd → bd.length ≤ 56 → ((sealed (summed k tg bd)).map toB = b.map toB ↔ k = ix b 4 ∧ tg = ix b 5 ∧ bd ++ List.replicate (56 - bd.length) 0 = b.drop 8) := fun h1 h2 h3 h4 => sealed_map_iff hb hi h1 h2 h3 h4
        rw [← hbody] at h8 hbd
        have n16 : rickyardref01_Int.f fu (cut (body.map toB) 16 20) = some (intAt body 16 4) := rintAt_eq (i := 16) (n := 4) hbd (by omega) (by decide) hf
        have n20 : rickyardref01_Int.f fu (cut (body.map toB) 20 24) = some (intAt body 20 4) := rintAt_eq (i := 20) (n := 4) hbd (by omega) (by decide) hf
        have n0 : rickyardref01_Int.f fu (cut (body.map toB) 0 8) = some (intAt body 0 8) := rintAt_eq (i := 0) (n := 8) hbd (by omega) (by decide) hf
        have n8 : rickyardref01_Int.f fu (cut (body.map toB) 8 16) = some (intAt body 8 8) := rintAt_eq (i := 8) (n := 8) hbd (by omega) (by decide) hf
        have hloop : loopM (rickyardref08_Get.s0 fu (ix b 4, ix b 5, body.map toB, true)) fu (0, []) = some (kidsOf body t) := by
          refine loopM_run (S := fun j => ((j : Int), kidsOf body j)) t (by simp [kidsOf]) ?_ ?_ (by omega)
          · intro j hj
            unfold rickyardref08_Get.s0
            have h1 : (j : Int) < ix b 5 := by omega
            have w3 : IntKind.i64.wrap ((j : Int) + 1) = ((j + 1 : Nat) : Int) := by rw [w64 (by omega) (by omega)]; omega
            have w4 : IntKind.i64.wrap (2 * (j : Int)) = ((2 * j : Nat) : Int) := by rw [w64 (by omega) (by omega)]; omega
            have w5 : IntKind.i64.wrap (24 + ((2 * j : Nat) : Int)) = ((24 + 2 * j : Nat) : Int) := by rw [w64 (by omega) (by omega)]; omega
            have w6 : IntKind.i64.wrap (26 + ((2 * j : Nat) : Int)) = ((24 + 2 * j + 2 : Nat) : Int) := by rw [w64 (by omega) (by omega)]; omega
            have hn : rickyardref01_Int.f fu (cut (body.map toB) ((24 + 2 * j : Nat) : Int) ((24 + 2 * j + 2 : Nat) : Int)) = some (intAt body (24 + 2 * j) 2) := rintAt_eq (n := 2) hbd (by omega) (by decide) hf
            have hlim : (kidsOf body j).length + ([intAt body (24 + 2 * j) 2] : List Int).length ≤ LIM := lim_of' (by simp [kidsOf]; omega)
            have c1 : (0 : Int) ≤ ((24 + 2 * j : Nat) : Int) ∧ ((24 + 2 * j : Nat) : Int) ≤ ((24 + 2 * j + 2 : Nat) : Int) ∧ ((24 + 2 * j + 2 : Nat) : Int) ≤ ((body.map toB).length : Int) := by rw [List.length_map]; omega
            simp only [h1, decide_true, if_true, w3, w4, w5, w6, hn, Option.bind_some, hlim, if_pos c1]
            simp [kidsOf, List.range_succ]
          · unfold rickyardref08_Get.s0
            simp [ht]
        have hN : (⟨⟨⟨intAt body 16 4, intAt body 20 4⟩, intAt body 0 8, intAt body 8 8⟩, kidsOf body t⟩ : S_api_Node) = nodeOf body t := rfl
        have hkl : (nodeOf body t).Kids.length = t := by simp [nodeOf, kidsOf]
        have hgi : GetN b ↔ (NodeR (nodeOf body t) ∧ ∀ y ∈ body.drop (24 + 2 * t), y = 0) := by
          unfold GetN
          rw [ht, ← hbody, Int.toNat_natCast]
          exact ⟨fun x => x.2.2.2, fun x => ⟨hi, h4, by omega, x⟩⟩
        have c20 : (20 : Int) ≤ ((body.map toB).length : Int) := by rw [List.length_map]; omega
        have c24 : (24 : Int) ≤ ((body.map toB).length : Int) := by rw [List.length_map]; omega
        have c8 : (8 : Int) ≤ ((body.map toB).length : Int) := by rw [List.length_map]; omega
        have c16 : (16 : Int) ≤ ((body.map toB).length : Int) := by rw [List.length_map]; omega
        rw [← hbody]
        simp only [h4, h5', decide_true, decide_false, Bool.not_true, Bool.false_eq_true, if_false] at hloop ⊢
        simp only [n16, n20, n0, n8, Option.bind_some, hloop, if_pos c20, if_pos c24, if_pos c8, if_pos c16]
        have hput := rnodePut_eq (fu := fu) (n := nodeOf body t) (by rw [hkl]; omega) hf
        simp only [hN, rnodeRight_eq (fu := fu) (n := nodeOf body t) (by rw [hkl]; omega) hf, hput, Option.bind_some]
        have hel := nodeE_len (nodeOf body t)
        rw [hkl] at hel
        have hq := hq0 (k := 1) (tg := (t : Int)) (bd := nodeE (nodeOf body t)) (by omega) (by omega) (nodeE_bytes _) (by omega)
        have hfl := full_iff (body := nodeE (nodeOf body t)) (full := body) (by omega) h8
        rw [← hbody] at hq
        rw [hel, nodeE_of hbd (show 24 + 2 * t ≤ body.length by omega)] at hfl
        rw [hel, nodeE_of hbd (show 24 + 2 * t ≤ body.length by omega)] at hq
        rw [hkl, nodeE_of hbd (show 24 + 2 * t ≤ body.length by omega), ht, Int.toNat_natCast]
        by_cases hr : NodeR (nodeOf body t)
        · by_cases hz : ∀ y ∈ body.drop (24 + 2 * t), y = 0
          · rw [if_pos (hgi.2 ⟨hr, hz⟩), decide_eq_true hr, decide_eq_true (hq.2 ⟨h4.symm, ht.symm, hfl.2 ⟨rfl, hz⟩⟩)]
            rfl
          · rw [if_neg (fun x => hz (hgi.1 x).2), decide_eq_true hr, decide_eq_false (fun x => hz (hfl.1 (hq.1 x).2.2).2)]
            rfl
        · rw [if_neg (fun x => hr (hgi.1 x).1), decide_eq_false hr]
          rfl
      · have h5' : ix b 5 > 12 := by omega
        have hg : ¬ GetN b := fun x => h5 x.2.2.1
        rw [if_neg hg, decide_eq_true h4, decide_eq_true h5']
        rfl
    · have hg : ¬ GetN b := fun x => h4 x.2.1
      rw [if_neg hg, decide_eq_false h4]
      rfl
  · have hg : ¬ GetN b := fun x => hi x.1
    rw [if_neg hi, if_neg hg]
    rfl
def kidOk (x : Int) : Prop := x = 0 ∨ 2 ≤ x ∧ x ≤ 3071
instance (x : Int) : Decidable (kidOk x) := inferInstanceAs (Decidable (_ ∨ _))
def kid (f : S_api_Fan) (i : Nat) : Int := Arr.get f.Kids (i : Int)
def fanOk (f : S_api_Fan) : Prop := ∀ i, i < 16 → kidOk (kid f i)
instance (f : S_api_Fan) : Decidable (fanOk f) := inferInstanceAs (Decidable (∀ i, i < 16 → _))
def noF : S_api_Fan := ⟨Arr.rep 16 0⟩
def fanB (f : S_api_Fan) (n : Nat) : List Int := (List.range n).flatMap fun i => lay (u64n (kid f i)) 2
theorem fanB_len (f : S_api_Fan) (n : Nat) : (fanB f n).length = 2 * n := flat_len (fun i => lay_len _ _) n
theorem fanB_bytes (f : S_api_Fan) (n : Nat) : Bytes (fanB f n) := flat_bytes (fun i => lay_bytes _ _) n
theorem within_eq (fu : Nat) (a b c : Int) : page_within.f fu a b c = some (decide (b ≤ a ∧ a ≤ c)) := by
  unfold page_within.f
  by_cases h : b ≤ a <;> simp [h]
theorem rblock_eq (fu : Nat) (a : Int) : rickyardref08_Block.f fu a = some (decide (2 ≤ a ∧ a ≤ 3071)) := by
  unfold rickyardref08_Block.f
  by_cases h : 2 ≤ a <;> simp [h]
theorem lim_of {a b : Nat} (h : a + b ≤ 1000) : a + b ≤ LIM := by
  have : (1000 : Nat) ≤ LIM := by decide
  omega
theorem rightFan_eq {fu : Nat} {f : S_api_Fan} (hf : 16 < fu) : page_rightFan.f fu f = some (decide (fanOk f)) := by
  unfold page_rightFan.f
  have hs : ∀ j : Nat, j < 16 → page_rightFan.s0 fu f (j : Int) = some (if kidOk (kid f j) then .inr ((j + 1 : Nat) : Int) else .inl (.inl false)) := by
    intro j hj
    unfold page_rightFan.s0
    have h1 : (j : Int) < 16 := by omega
    have c1 : 0 ≤ (j : Int) ∧ (j : Int) < 16 := by omega
    have w3 : IntKind.i64.wrap ((j : Int) + 1) = ((j + 1 : Nat) : Int) := by rw [w64 (by omega) (by omega)]; omega
    have hk : Arr.get f.Kids (j : Int) = kid f j := rfl
    simp only [h1, decide_true, if_true, hk, w3, within_eq, Option.bind_some]
    rw [if_pos ⟨by omega, trivial⟩]
    unfold kidOk
    by_cases h0 : kid f j = 0
    · simp [h0]
    · by_cases h2 : 2 ≤ kid f j ∧ kid f j ≤ 3071 <;> simp [h0, h2]
  by_cases h : fanOk f
  · have : loopM (page_rightFan.s0 fu f) fu 0 = some (.inr ()) := by
      refine loopM_run (S := fun j => (j : Int)) 16 rfl (fun j hj => by rw [hs j hj, if_pos (h j hj)]) ?_ hf
      unfold page_rightFan.s0
      simp
    rw [this]
    simp [h]
  · have : loopM (page_rightFan.s0 fu f) fu 0 = some (.inl false) := by
      refine loopM_bad (S := fun j => (j : Int)) 16 (fun j => kidOk (kid f j)) rfl ?_ (fun j hj _ hg => by rw [hs j hj, if_pos hg]) (fun j hj _ hg => by rw [hs j hj, if_neg hg]) hf
      apply Classical.byContradiction
      intro hx
      exact h fun i hi => Classical.byContradiction fun hg => hx ⟨i, hi, hg⟩
    rw [this]
    simp [h]
theorem putFan_eq {fu : Nat} {f : S_api_Fan} (hf : 100 < fu) : page_PutFan.f fu f = some (if fanOk f then (sealed (summed 3 0 (fanB f 16)), true) else ([], false)) := by
  unfold page_PutFan.f
  rw [rightFan_eq (by omega)]
  by_cases h : fanOk f
  · have : loopM (page_PutFan.s0 fu f) fu ([], 0) = some (fanB f 16) := by
      refine loopM_run (S := fun j => (fanB f j, (j : Int))) 16 rfl ?_ ?_ (by omega)
      · intro j hj
        unfold page_PutFan.s0
        have h1 : (j : Int) < 16 := by omega
        have w3 : IntKind.i64.wrap ((j : Int) + 1) = ((j + 1 : Nat) : Int) := by rw [w64 (by omega) (by omega)]; omega
        have hk : Arr.get f.Kids (j : Int) = kid f j := rfl
        have hl : octet_Lay.f fu (IntKind.u64.wrap (kid f j)) 2 = some (lay (u64n (kid f j)) 2) := olay64 (n := 2) (by decide) (by omega)
        simp only [h1, decide_true, if_true, hk, w3, hl, Option.bind_some]
        rw [if_pos ⟨by omega, trivial⟩, if_pos (lim_of (by rw [fanB_len, lay_len]; omega))]
        rw [fanB, fanB, flat_succ]
      · unfold page_PutFan.s0
        simp
    have hs := seal_eq (fu := fu) (k := 3) (t := 0) (fanB_bytes f 16) (by omega) (by omega) (by rw [fanB_len]; decide) hf
    simp [h, this, hs]
  · simp [h]
theorem rfan_eq {fu : Nat} {f : S_api_Fan} (hf : 100 < fu) : rickyardref09_Fan.f fu f = some (if fanOk f then ((sealed (summed 3 0 (fanB f 16))).map toB, true) else ([], false)) := by
  unfold rickyardref09_Fan.f
  have hs : ∀ j : Nat, j < 16 → rickyardref09_Fan.s0 fu f ((fanB f j).map toB, (j : Int)) = some (if kidOk (kid f j) then .inr ((fanB f (j + 1)).map toB, ((j + 1 : Nat) : Int)) else .inl (.inl ([], false))) := by
    intro j hj
    unfold rickyardref09_Fan.s0
    have h1 : (j : Int) < 16 := by omega
    have c1 : 0 ≤ (j : Int) ∧ True := ⟨by omega, trivial⟩
    have w3 : IntKind.i64.wrap ((j : Int) + 1) = ((j + 1 : Nat) : Int) := by rw [w64 (by omega) (by omega)]; omega
    have hk : Arr.get f.Kids (j : Int) = kid f j := rfl
    have hl : rickyardref01_Lay.f fu (IntKind.u64.wrap (kid f j)) 2 = some ((lay (u64n (kid f j)) 2).map toB) := rlay64 (n := 2) (by decide) (by omega)
    have hlim : ((fanB f j).map toB).length + ((lay (u64n (kid f j)) 2).map toB).length ≤ LIM := lim_of (by rw [List.length_map, List.length_map, fanB_len, lay_len]; omega)
    have e : (fanB f (j + 1)).map toB = (fanB f j).map toB ++ (lay (u64n (kid f j)) 2).map toB := by rw [← List.map_append, fanB, fanB, flat_succ]
    simp only [h1, decide_true, if_true, hk, w3, rblock_eq, Option.bind_some, hl, if_pos c1, hlim, e]
    unfold kidOk
    by_cases h0 : kid f j = 0
    · simp [h0]
    · by_cases h2 : 2 ≤ kid f j ∧ kid f j ≤ 3071 <;> simp [h0, h2]
  by_cases h : fanOk f
  · have : loopM (rickyardref09_Fan.s0 fu f) fu ([], 0) = some (.inr ((fanB f 16).map toB)) := by
      refine loopM_run (S := fun j => ((fanB f j).map toB, (j : Int))) 16 rfl (fun j hj => by rw [hs j hj, if_pos (h j hj)]) ?_ (by omega)
      unfold rickyardref09_Fan.s0
      simp
    have hq := rseal_eq (fu := fu) (k := 3) (t := 0) (fanB_bytes f 16) (by omega) (by omega) (by rw [fanB_len]; decide) hf
    rw [this]
    simp [h, hq]
  · have : loopM (rickyardref09_Fan.s0 fu f) fu ([], 0) = some (.inl ([], false)) := by
      refine loopM_bad (S := fun j => ((fanB f j).map toB, (j : Int))) 16 (fun j => kidOk (kid f j)) rfl ?_ (fun j hj _ hg => by rw [hs j hj, if_pos hg]) (fun j hj _ hg => by rw [hs j hj, if_neg hg]) (by omega)
      apply Classical.byContradiction
      intro hx
      exact h fun i hi => Classical.byContradiction fun hg => hx ⟨i, hi, hg⟩
    rw [this]
    simp [h]
def fanOf (body : List Int) : S_api_Fan := ⟨fillA (fun i => ((num (fieldAt body 2 i) : Nat) : Int)) (Arr.rep 16 0) 16⟩
theorem kid_of (body : List Int) {i : Nat} (hi : i < 16) : kid (fanOf body) i = ((num (fieldAt body 2 i) : Nat) : Int) := by
  unfold kid
  rw [getA _ hi]
  simp [fanOf, fillA_all]
theorem fanB_of {body : List Int} (hb : Bytes body) (hl : 32 ≤ body.length) : fanB (fanOf body) 16 = body.take 32 := by
  unfold fanB
  rw [← field_flat (w := 2) 16 (by omega)]
  apply flat_congr
  intro i hi
  rw [kid_of body hi]
  have hfl := fieldAt_len (l := body) (w := 2) (n := 16) (by omega) hi
  have hfb := fieldAt_bytes hb 2 i
  have hn := num_lt hfb
  rw [hfl] at hn
  rw [u64n_of (by omega) (by omega), Int.toNat_natCast]
  have := lay_num hfb
  rwa [hfl] at this
def GetF (b : List Int) : Prop := Is b ∧ ix b 4 = 3 ∧ ix b 5 = 0 ∧ (∀ y ∈ (b.drop 8).drop 32, y = 0) ∧ fanOk (fanOf (b.drop 8))
instance (b : List Int) : Decidable (GetF b) := inferInstanceAs (Decidable (_ ∧ _))
theorem fan_loop {fu : Nat} {b : List Int} {p : Int × Int × Bool} (hb : Bytes b) (hi : Is b) (hf : 100 < fu) : loopM (page_GetFan.s0 fu (p.1, p.2.1, b.drop 8, p.2.2)) fu (0, noF) = some (fanOf (b.drop 8)) := by
  have h8 := is_body hi
  refine loopM_run (S := fun j => ((j : Int), (⟨fillA (fun i => ((num (fieldAt (b.drop 8) 2 i) : Nat) : Int)) (Arr.rep 16 0) j⟩ : S_api_Fan))) 16 rfl ?_ ?_ (by omega)
  · intro j hj
    unfold page_GetFan.s0
    have h1 : (j : Int) < 16 := by omega
    have w3 : IntKind.i64.wrap ((j : Int) + 1) = ((j + 1 : Nat) : Int) := by rw [w64 (by omega) (by omega)]; omega
    have w4 : IntKind.i64.wrap (2 * (j : Int)) = ((2 * j : Nat) : Int) := by rw [w64 (by omega) (by omega)]; omega
    have w5 : IntKind.i64.wrap (2 * ((j + 1 : Nat) : Int)) = ((2 * j + 2 : Nat) : Int) := by rw [w64 (by omega) (by omega)]; omega
    have hfl := fieldAt_len (l := b.drop 8) (w := 2) (n := 16) (by omega) hj
    have hfb := fieldAt_bytes (hb.drop 8) 2 j
    have hr : octet_Read.f fu (cut (b.drop 8) ((2 * j : Nat) : Int) ((2 * j + 2 : Nat) : Int)) = some ((num (fieldAt (b.drop 8) 2 j) : Nat) : Int) := by
      rw [cut_eq]
      have := read_eq (fu := fu) hfb (by omega) (by omega)
      exact this
    have w6 := num_small hfb (by omega)
    simp only [h1, decide_true, if_true, w3, w4, w5, hr, Option.bind_some, w6]
    rw [if_pos (by omega), if_pos ⟨by omega, trivial⟩]
    rfl
  · unfold page_GetFan.s0
    simp [fanOf]
theorem getFan_eq {fu : Nat} {b : List Int} (hb : Bytes b) (hl : b.length ≤ 9000000000000000000) (hf : 100 < fu) : page_GetFan.f fu b = some (if GetF b then (fanOf (b.drop 8), true) else (noF, false)) := by
  unfold page_GetFan.f
  rw [open_eq hb hl hf]
  by_cases hi : Is b
  · have h8 := is_body hi
    have w1 : IntKind.i64.wrap (((b.drop 8).length : Int) - 32) = ((24 : Nat) : Int) := by rw [w64 (by omega) (by omega)]; omega
    have hn : octet_Noughts.f fu (b.drop 8) ((32 : Nat) : Int) ((24 : Nat) : Int) = some (decide (∀ y ∈ ((b.drop 8).drop 32).take 24, y = 0)) := noughts_eq (by omega) (by omega) (by omega)
    have e8 : ((b.drop 8).drop 32).take 24 = (b.drop 8).drop 32 := List.take_of_length_le (by rw [List.length_drop, h8]; decide)
    rw [e8] at hn
    have hn' : octet_Noughts.f fu (b.drop 8) 32 ((24 : Nat) : Int) = some (decide (∀ y ∈ (b.drop 8).drop 32, y = 0)) := hn
    have hloop := fan_loop (fu := fu) (p := (ix b 4, ix b 5, true)) hb hi hf
    unfold noF at hloop
    rw [if_pos hi]
    simp only [Option.bind_some, Bool.not_true, Bool.false_eq_true, if_false, w1, hn']
    by_cases h4 : ix b 4 = 3
    · by_cases h5 : ix b 5 = 0
      · by_cases hz : ∀ y ∈ (b.drop 8).drop 32, y = 0
        · simp only [h4, h5, decide_true, Bool.not_true, Bool.false_eq_true, if_false, decide_eq_true hz, Option.bind_some] at hloop ⊢
          rw [hloop]
          simp only [Option.bind_some, rightFan_eq (show 16 < fu by omega)]
          by_cases hk : fanOk (fanOf (b.drop 8))
          · have hg : GetF b := ⟨hi, h4, h5, hz, hk⟩
            rw [if_pos hg]
            simp [hk]
          · have hg : ¬ GetF b := fun x => hk x.2.2.2.2
            rw [if_neg hg]
            simp [hk, noF]
        · have hg : ¬ GetF b := fun x => hz x.2.2.2.1
          rw [if_neg hg, decide_eq_false hz]
          simp [h4, h5, noF]
      · have hg : ¬ GetF b := fun x => h5 x.2.2.1
        rw [if_neg hg]
        simp [h4, h5, noF]
    · have hg : ¬ GetF b := fun x => h4 x.2.1
      rw [if_neg hg]
      simp [h4, noF]
  · have hg : ¬ GetF b := fun x => hi x.1
    rw [if_neg hi, if_neg hg]
    rfl
theorem map_drop_take (l : List Int) (i n : Nat) : cut (l.map toB) (i : Int) ((i + n : Nat) : Int) = ((l.drop i).take n).map toB := by
  unfold cut
  rw [Int.toNat_natCast, Int.toNat_natCast, List.drop_take, ← List.map_drop, ← List.map_take]
  congr 2
  omega
theorem rgetFan_eq {fu : Nat} {b : List Int} (hb : Bytes b) (hf : 100 < fu) : rickyardref09_GetFan.f fu b = some (if GetF b then (fanOf (b.drop 8), true) else (noF, false)) := by
  unfold rickyardref09_GetFan.f
  rw [ropen_eq hb hf]
  by_cases hi : Is b
  · have h8 := is_body hi
    obtain ⟨b4, b5⟩ := is_tag hb hi
    rw [if_pos hi]
    simp only [Option.bind_some, Bool.not_true, Bool.false_eq_true, if_false]
    by_cases h4 : ix b 4 = 3
    · have hloop : loopM (rickyardref09_GetFan.s0 fu (ix b 4, ix b 5, (b.drop 8).map toB, true)) fu (0, (⟨Arr.rep 16 (0 : Int)⟩ : S_api_Fan)) = some (fanOf (b.drop 8)) := by
        refine loopM_run (S := fun j => ((j : Int), (⟨fillA (fun i => ((num (fieldAt (b.drop 8) 2 i) : Nat) : Int)) (Arr.rep 16 0) j⟩ : S_api_Fan))) 16 rfl ?_ ?_ (by omega)
        · intro j hj
          unfold rickyardref09_GetFan.s0
          have h1 : (j : Int) < 16 := by omega
          have w3 : IntKind.i64.wrap ((j : Int) + 1) = ((j + 1 : Nat) : Int) := by rw [w64 (by omega) (by omega)]; omega
          have w4 : IntKind.i64.wrap (2 * (j : Int)) = ((2 * j : Nat) : Int) := by rw [w64 (by omega) (by omega)]; omega
          have w5 : IntKind.i64.wrap (((2 * j : Nat) : Int) + 2) = ((2 * j + 2 : Nat) : Int) := by rw [w64 (by omega) (by omega)]; omega
          have hfl := fieldAt_len (l := b.drop 8) (w := 2) (n := 16) (by omega) hj
          have hfb := fieldAt_bytes (hb.drop 8) 2 j
          have hr : rickyardref01_Int.f fu (cut ((b.drop 8).map toB) ((2 * j : Nat) : Int) ((2 * j + 2 : Nat) : Int)) = some ((num (fieldAt (b.drop 8) 2 j) : Nat) : Int) := by
            rw [map_drop_take]
            have := rint_eq (fu := fu) hfb (by omega) (by omega)
            rw [num_small hfb (by omega)] at this
            exact this
          simp only [h1, decide_true, if_true, w3, w4, w5, hr, Option.bind_some, List.length_map]
          rw [if_pos (by omega), if_pos ⟨by omega, trivial⟩]
          rfl
        · unfold rickyardref09_GetFan.s0
          simp [fanOf]
      have hbb := fanB_bytes (fanOf (b.drop 8)) 16
      have hbl := fanB_len (fanOf (b.drop 8)) 16
      have hq := sealed_map_iff hb hi (k := 3) (t := 0) (by omega) (by omega) hbb (by omega)
      have hfl := full_iff (body := fanB (fanOf (b.drop 8)) 16) (full := b.drop 8) (by omega) h8
      rw [hbl, fanB_of (hb.drop 8) (by omega)] at hfl
      rw [hbl, fanB_of (hb.drop 8) (by omega)] at hq
      simp only [h4, decide_true, Bool.not_true, Bool.false_eq_true, if_false] at hloop ⊢
      rw [hloop]
      simp only [Option.bind_some, rfan_eq hf]
      by_cases hk : fanOk (fanOf (b.drop 8))
      · simp only [hk, if_true, Bool.not_true, Bool.false_eq_true, if_false, fanB_of (hb.drop 8) (show 32 ≤ (b.drop 8).length by omega)]
        by_cases hg : GetF b
        · rw [if_pos hg, decide_eq_true (hq.2 ⟨h4.symm, hg.2.2.1.symm, hfl.2 ⟨rfl, hg.2.2.2.1⟩⟩)]
          rfl
        · rw [if_neg hg, decide_eq_false (fun x => hg ⟨hi, h4, (hq.1 x).2.1.symm, (hfl.1 (hq.1 x).2.2).2, hk⟩)]
          rfl
      · have hg : ¬ GetF b := fun x => hk x.2.2.2.2
        rw [if_neg hg]
        simp [hk, noF]
    · have hg : ¬ GetF b := fun x => h4 x.2.1
      rw [if_neg hg]
      simp [h4, noF]
  · have hg : ¬ GetF b := fun x => hi x.1
    rw [if_neg hi, if_neg hg]
    rfl
def seatB (x : S_api_Seat) : Bool := if x.Live = true then decide (1 ≤ x.Gen ∧ x.Gen ≤ 4294967295) && decide (2 ≤ x.Next ∧ x.Next ≤ 3071) else decide (0 ≤ x.Gen ∧ x.Gen ≤ 4294967295) && (decide (0 ≤ x.Next ∧ x.Next ≤ 1792) && (decide (x.Gen > 0) || decide (x.Next = 0)))
theorem seatB_nums {x : S_api_Seat} (h : seatB x = true) : (0 ≤ x.Gen ∧ x.Gen ≤ 4294967295) ∧ (0 ≤ x.Next ∧ x.Next ≤ 4294967295) := by
  unfold seatB at h
  split at h
  · simp only [Bool.and_eq_true, decide_eq_true_eq] at h
    omega
  · simp only [Bool.and_eq_true, decide_eq_true_eq] at h
    omega
theorem rightSeat_eq (fu : Nat) (x : S_api_Seat) : page_RightSeat.f fu x = some (seatB x) := by
  unfold page_RightSeat.f seatB
  simp only [within_eq, Option.bind_some]
  cases hL : x.Live
  · simp only [Bool.false_eq_true, if_false]
    by_cases h1 : 0 ≤ x.Gen ∧ x.Gen ≤ 4294967295
    · by_cases h2 : 0 ≤ x.Next ∧ x.Next ≤ 1792
      · by_cases h3 : x.Gen > 0
        · rw [decide_eq_true h1, decide_eq_true h2, decide_eq_true h3]
          rfl
        · rw [decide_eq_true h1, decide_eq_true h2, decide_eq_false h3]
          rfl
      · rw [decide_eq_true h1, decide_eq_false h2]
        rfl
    · rw [decide_eq_false h1]
      rfl
  · simp only [if_true]
    by_cases h1 : 1 ≤ x.Gen ∧ x.Gen ≤ 4294967295
    · rw [decide_eq_true h1]
      rfl
    · rw [decide_eq_false h1]
      rfl
theorem rseat_eq (fu : Nat) (x : S_api_Seat) : rickyardref09_Seat.f fu x = some (seatB x) := by
  unfold rickyardref09_Seat.f seatB
  simp only [rblock_eq, Option.bind_some]
  by_cases g0 : x.Gen < 0
  · have h1 : ¬ (1 ≤ x.Gen ∧ x.Gen ≤ 4294967295) := by omega
    have h2 : ¬ (0 ≤ x.Gen ∧ x.Gen ≤ 4294967295) := by omega
    rw [decide_eq_true g0, decide_eq_false h1, decide_eq_false h2]
    cases x.Live <;> rfl
  · by_cases g1 : x.Gen > 4294967295
    · have h1 : ¬ (1 ≤ x.Gen ∧ x.Gen ≤ 4294967295) := by omega
      have h2 : ¬ (0 ≤ x.Gen ∧ x.Gen ≤ 4294967295) := by omega
      rw [decide_eq_false g0, decide_eq_true g1, decide_eq_false h1, decide_eq_false h2]
      cases x.Live <;> rfl
    · rw [decide_eq_false g0, decide_eq_false g1]
      cases hL : x.Live
      · have h2 : (0 ≤ x.Gen ∧ x.Gen ≤ 4294967295) := by omega
        rw [decide_eq_true h2]
        simp only [Bool.false_eq_true, if_false]
        by_cases n0 : x.Next ≥ 0
        · by_cases n1 : x.Next ≤ 1792
          · have n2 : 0 ≤ x.Next ∧ x.Next ≤ 1792 := ⟨n0, n1⟩
            rw [decide_eq_true n0, decide_eq_true n1, decide_eq_true n2]
            by_cases h3 : x.Gen > 0
            · have h4 : ¬ x.Gen = 0 := by omega
              rw [decide_eq_true h3, decide_eq_false h4]
              rfl
            · have h4 : x.Gen = 0 := by omega
              rw [decide_eq_false h3, decide_eq_true h4]
              rfl
          · have n2 : ¬ (0 ≤ x.Next ∧ x.Next ≤ 1792) := by omega
            rw [decide_eq_true n0, decide_eq_false n1, decide_eq_false n2]
            rfl
        · have n2 : ¬ (0 ≤ x.Next ∧ x.Next ≤ 1792) := by omega
          rw [decide_eq_false n0, decide_eq_false n2]
          rfl
      · simp only [if_true, Bool.false_eq_true, if_false]
        by_cases h3 : x.Gen > 0
        · have h1 : 1 ≤ x.Gen ∧ x.Gen ≤ 4294967295 := by omega
          rw [decide_eq_true h3, decide_eq_true h1]
          rfl
        · have h1 : ¬ (1 ≤ x.Gen ∧ x.Gen ≤ 4294967295) := by omega
          rw [decide_eq_false h3, decide_eq_false h1]
          rfl
def tagN (g : Nat → Bool) : Nat → Nat
  | 0 => 0
  | j + 1 => tagN g j + (if g j then 2 ^ j else 0)
theorem tagN_lt (g : Nat → Bool) : ∀ j, tagN g j < 2 ^ j
  | 0 => by simp [tagN]
  | j + 1 => by
    have := tagN_lt g j
    unfold tagN
    rw [Nat.pow_succ]
    split <;> omega
theorem tagN_congr {g k : Nat → Bool} : ∀ {n : Nat}, (∀ i, i < n → g i = k i) → tagN g n = tagN k n
  | 0, _ => rfl
  | n + 1, h => by
    unfold tagN
    rw [tagN_congr fun i hi => h i (by omega), h n (by omega)]
theorem tag_all : ∀ t : Fin 256, tagN (fun i => decide ((t : Nat) / 2 ^ i % 2 = 1)) 7 = (t : Nat) % 128 := by decide +kernel
theorem or_tag : ∀ (j : Fin 7) (a : Fin 64), (a : Nat) < 2 ^ (j : Nat) → bOr .i64 ((a : Nat) : Int) (shL .i64 1 ((j : Nat) : Int)) = (((a : Nat) + 2 ^ (j : Nat) : Nat) : Int) ∧ IntKind.i64.wrap (((a : Nat) : Int) + shL .i64 1 ((j : Nat) : Int)) = (((a : Nat) + 2 ^ (j : Nat) : Nat) : Int) := by decide +kernel
theorem or_tag' {g : Nat → Bool} {j : Nat} (hj : j < 7) : bOr .i64 ((tagN g j : Nat) : Int) (shL .i64 1 (j : Int)) = ((tagN g j + 2 ^ j : Nat) : Int) ∧ IntKind.i64.wrap (((tagN g j : Nat) : Int) + shL .i64 1 (j : Int)) = ((tagN g j + 2 ^ j : Nat) : Int) := by
  have h1 := tagN_lt g j
  have h2 : 2 ^ j ≤ 2 ^ 6 := Nat.pow_le_pow_right (by decide) (by omega)
  have h3 : (2 : Nat) ^ 6 = 64 := by decide
  exact or_tag ⟨j, hj⟩ ⟨tagN g j, by omega⟩ h1
theorem bit_tab : ∀ (t : Fin 256) (j : Fin 7), decide ((bAnd .i64 (shR .i64 ((t : Nat) : Int) ((j : Nat) : Int)) 1) = 1) = decide ((t : Nat) / 2 ^ (j : Nat) % 2 = 1) ∧ shL .i64 1 ((j : Nat) : Int) ≠ 0 ∧ decide ((Int.tmod (IntKind.i64.wrap (Int.tdiv ((t : Nat) : Int) (shL .i64 1 ((j : Nat) : Int)))) 2) = 1) = decide ((t : Nat) / 2 ^ (j : Nat) % 2 = 1) := by decide +kernel
def seat (l : S_api_Leaf) (i : Nat) : S_api_Seat := Arr.get l.Seats (i : Int)
def seatE (x : S_api_Seat) : List Int := lay (u64n x.Gen) 4 ++ lay (u64n x.Next) 4
theorem seatE_len (x : S_api_Seat) : (seatE x).length = 8 := by simp [seatE, lay_len]
theorem seatE_bytes (x : S_api_Seat) : Bytes (seatE x) := (lay_bytes _ _).app (lay_bytes _ _)
def leafE (l : S_api_Leaf) (n : Nat) : List Int := (List.range n).flatMap fun i => seatE (seat l i)
theorem leafE_len (l : S_api_Leaf) (n : Nat) : (leafE l n).length = 8 * n := flat_len (fun i => seatE_len _) n
theorem leafE_bytes (l : S_api_Leaf) (n : Nat) : Bytes (leafE l n) := flat_bytes (fun i => seatE_bytes _) n
def liveT (l : S_api_Leaf) (n : Nat) : Nat := tagN (fun i => (seat l i).Live) n
def leafOk (l : S_api_Leaf) : Prop := ∀ i, i < 7 → seatB (seat l i) = true
instance (l : S_api_Leaf) : Decidable (leafOk l) := inferInstanceAs (Decidable (∀ i, i < 7 → _))
def noS : S_api_Seat := ⟨false, 0, 0⟩
def noL : S_api_Leaf := ⟨Arr.rep 7 noS⟩
theorem liveT_lt (l : S_api_Leaf) : liveT l 7 < 128 := tagN_lt _ 7
theorem putLeaf_eq {fu : Nat} {l : S_api_Leaf} (hf : 100 < fu) : page_PutLeaf.f fu l = some (if leafOk l then (sealed (summed 2 ((liveT l 7 : Nat) : Int) (leafE l 7)), true) else ([], false)) := by
  unfold page_PutLeaf.f
  have hs : ∀ j : Nat, j < 7 → page_PutLeaf.s0 fu l (leafE l j, ((liveT l j : Nat) : Int), (j : Int)) = some (if seatB (seat l j) = true then .inr (leafE l (j + 1), ((liveT l (j + 1) : Nat) : Int), ((j + 1 : Nat) : Int)) else .inl (.inl ([], false))) := by
    intro j hj
    unfold page_PutLeaf.s0
    have h1 : (j : Int) < 7 := by omega
    have w3 : IntKind.i64.wrap ((j : Int) + 1) = ((j + 1 : Nat) : Int) := by rw [w64 (by omega) (by omega)]; omega
    have hk : Arr.get l.Seats (j : Int) = seat l j := rfl
    have hl1 : octet_Lay.f fu (IntKind.u64.wrap (seat l j).Gen) 4 = some (lay (u64n (seat l j).Gen) 4) := olay64 (n := 4) (by decide) (by omega)
    have hl2 : octet_Lay.f fu (IntKind.u64.wrap (seat l j).Next) 4 = some (lay (u64n (seat l j).Next) 4) := olay64 (n := 4) (by decide) (by omega)
    have c0 : 0 ≤ (j : Int) := by omega
    have e : leafE l (j + 1) = leafE l j ++ lay (u64n (seat l j).Gen) 4 ++ lay (u64n (seat l j).Next) 4 := by
      rw [leafE, leafE, flat_succ, List.append_assoc]
      rfl
    have hlim1 : (leafE l j).length + (lay (u64n (seat l j).Gen) 4).length ≤ LIM := lim_of (by rw [leafE_len, lay_len]; omega)
    have hlim2 : (leafE l j ++ lay (u64n (seat l j).Gen) 4).length + (lay (u64n (seat l j).Next) 4).length ≤ LIM := lim_of (by rw [List.length_append, leafE_len, lay_len, lay_len]; omega)
    have ht := (or_tag' (g := fun i => (seat l i).Live) hj).1
    simp only [h1, decide_true, if_true, hk, w3, rightSeat_eq, Option.bind_some, hl1, hl2, c0, true_and, and_self, hlim1, hlim2]
    cases hb : seatB (seat l j)
    · rfl
    · simp only [e, Bool.not_true, Bool.false_eq_true, if_false, if_true]
      unfold liveT
      cases hL : (seat l j).Live
      · simp [tagN, hL]
      · simp [tagN, hL, ht]
  by_cases h : leafOk l
  · have : loopM (page_PutLeaf.s0 fu l) fu ([], 0, 0) = some (.inr (leafE l 7, ((liveT l 7 : Nat) : Int))) := by
      refine loopM_run (S := fun j => (leafE l j, ((liveT l j : Nat) : Int), (j : Int))) 7 rfl (fun j hj => by rw [hs j hj, if_pos (h j hj)]) ?_ (by omega)
      unfold page_PutLeaf.s0
      simp
    have ht := liveT_lt l
    have hq := seal_eq (fu := fu) (k := 2) (t := ((liveT l 7 : Nat) : Int)) (leafE_bytes l 7) (by omega) (by omega) (by rw [leafE_len]; decide) hf
    rw [this]
    simp [h, hq]
  · have : loopM (page_PutLeaf.s0 fu l) fu ([], 0, 0) = some (.inl ([], false)) := by
      refine loopM_bad (S := fun j => (leafE l j, ((liveT l j : Nat) : Int), (j : Int))) 7 (fun j => seatB (seat l j) = true) rfl ?_ (fun j hj _ hg => by rw [hs j hj, if_pos hg]) (fun j hj _ hg => by rw [hs j hj, if_neg hg]) (by omega)
      apply Classical.byContradiction
      intro hx
      exact h fun i hi => Classical.byContradiction fun hg => hx ⟨i, hi, hg⟩
    rw [this]
    simp [h]
theorem rleaf_eq {fu : Nat} {l : S_api_Leaf} (hf : 100 < fu) : rickyardref09_Leaf.f fu l = some (if leafOk l then ((sealed (summed 2 ((liveT l 7 : Nat) : Int) (leafE l 7))).map toB, true) else ([], false)) := by
  unfold rickyardref09_Leaf.f
  have hs : ∀ j : Nat, j < 7 → rickyardref09_Leaf.s0 fu l ((leafE l j).map toB, ((liveT l j : Nat) : Int), (j : Int)) = some (if seatB (seat l j) = true then .inr ((leafE l (j + 1)).map toB, ((liveT l (j + 1) : Nat) : Int), ((j + 1 : Nat) : Int)) else .inl (.inl ([], false))) := by
    intro j hj
    unfold rickyardref09_Leaf.s0
    have h1 : (j : Int) < 7 := by omega
    have w3 : IntKind.i64.wrap ((j : Int) + 1) = ((j + 1 : Nat) : Int) := by rw [w64 (by omega) (by omega)]; omega
    have hk : Arr.get l.Seats (j : Int) = seat l j := rfl
    have hl1 : rickyardref01_Lay.f fu (IntKind.u64.wrap (seat l j).Gen) 4 = some ((lay (u64n (seat l j).Gen) 4).map toB) := rlay64 (n := 4) (by decide) (by omega)
    have hl2 : rickyardref01_Lay.f fu (IntKind.u64.wrap (seat l j).Next) 4 = some ((lay (u64n (seat l j).Next) 4).map toB) := rlay64 (n := 4) (by decide) (by omega)
    have c0 : 0 ≤ (j : Int) := by omega
    have e : (leafE l (j + 1)).map toB = (leafE l j).map toB ++ (lay (u64n (seat l j).Gen) 4).map toB ++ (lay (u64n (seat l j).Next) 4).map toB := by
      rw [← List.map_append, ← List.map_append, leafE, leafE, flat_succ, List.append_assoc]
      rfl
    have hlim1 : ((leafE l j).map toB).length + ((lay (u64n (seat l j).Gen) 4).map toB).length ≤ LIM := lim_of (by rw [List.length_map, List.length_map, leafE_len, lay_len]; omega)
    have hlim2 : ((leafE l j).map toB ++ (lay (u64n (seat l j).Gen) 4).map toB).length + ((lay (u64n (seat l j).Next) 4).map toB).length ≤ LIM := lim_of (by rw [List.length_append, List.length_map, List.length_map, List.length_map, leafE_len, lay_len, lay_len]; omega)
    have ht := (or_tag' (g := fun i => (seat l i).Live) hj).2
    simp only [h1, decide_true, if_true, hk, w3, rseat_eq, Option.bind_some, hl1, hl2, c0, true_and, and_self, hlim1, hlim2]
    cases hb : seatB (seat l j)
    · rfl
    · simp only [e, Bool.not_true, Bool.false_eq_true, if_false, if_true]
      unfold liveT
      cases hL : (seat l j).Live
      · simp [tagN, hL]
      · simp [tagN, hL, ht]
  by_cases h : leafOk l
  · have : loopM (rickyardref09_Leaf.s0 fu l) fu ([], 0, 0) = some (.inr ((leafE l 7).map toB, ((liveT l 7 : Nat) : Int))) := by
      refine loopM_run (S := fun j => ((leafE l j).map toB, ((liveT l j : Nat) : Int), (j : Int))) 7 rfl (fun j hj => by rw [hs j hj, if_pos (h j hj)]) ?_ (by omega)
      unfold rickyardref09_Leaf.s0
      simp
    have ht := liveT_lt l
    have hq := rseal_eq (fu := fu) (k := 2) (t := ((liveT l 7 : Nat) : Int)) (leafE_bytes l 7) (by omega) (by omega) (by rw [leafE_len]; decide) hf
    rw [this]
    simp [h, hq]
  · have : loopM (rickyardref09_Leaf.s0 fu l) fu ([], 0, 0) = some (.inl ([], false)) := by
      refine loopM_bad (S := fun j => ((leafE l j).map toB, ((liveT l j : Nat) : Int), (j : Int))) 7 (fun j => seatB (seat l j) = true) rfl ?_ (fun j hj _ hg => by rw [hs j hj, if_pos hg]) (fun j hj _ hg => by rw [hs j hj, if_neg hg]) (by omega)
      apply Classical.byContradiction
      intro hx
      exact h fun i hi => Classical.byContradiction fun hg => hx ⟨i, hi, hg⟩
    rw [this]
    simp [h]
def seatAt (body : List Int) (t : Int) (i : Nat) : S_api_Seat := ⟨decide (t.toNat / 2 ^ i % 2 = 1), ((num ((fieldAt body 8 i).take 4) : Nat) : Int), ((num ((fieldAt body 8 i).drop 4) : Nat) : Int)⟩
def leafOf (body : List Int) (t : Int) : S_api_Leaf := ⟨fillA (seatAt body t) (Arr.rep 7 noS) 7⟩
theorem seat_of (body : List Int) (t : Int) {i : Nat} (hi : i < 7) : seat (leafOf body t) i = seatAt body t i := by
  unfold seat
  rw [getA _ hi]
  simp [leafOf, fillA_all]
theorem half_bytes {c : List Int} (hb : Bytes c) (hl : c.length = 8) : ((c.take 4).length = 4 ∧ Bytes (c.take 4)) ∧ ((c.drop 4).length = 4 ∧ Bytes (c.drop 4)) := ⟨⟨by rw [List.length_take, hl]; rfl, hb.take 4⟩, ⟨by rw [List.length_drop, hl], hb.drop 4⟩⟩
theorem num4_lt {c : List Int} (hb : Bytes c) (hl : c.length = 4) : num c < 4294967296 := by
  have := num_lt hb
  rw [hl] at this
  have h3 : (256 : Nat) ^ 4 = 4294967296 := by decide
  omega
theorem lay_num4 {c : List Int} (hb : Bytes c) (hl : c.length = 4) : lay (u64n ((num c : Nat) : Int)) 4 = c := by
  have h1 := num4_lt hb hl
  rw [u64n_of (by omega) (by omega), Int.toNat_natCast]
  have := lay_num hb
  rwa [hl] at this
theorem seatE_of {body : List Int} (hb : Bytes body) (hl : body.length = 56) (t : Int) {i : Nat} (hi : i < 7) : seatE (seatAt body t i) = fieldAt body 8 i := by
  have hfl := fieldAt_len (l := body) (w := 8) (n := 7) (by omega) hi
  have hfb := fieldAt_bytes hb 8 i
  obtain ⟨⟨a1, a2⟩, ⟨b1, b2⟩⟩ := half_bytes hfb hfl
  unfold seatE seatAt
  simp only
  rw [lay_num4 a2 a1, lay_num4 b2 b1, List.take_append_drop]
theorem leafE_of {body : List Int} (hb : Bytes body) (hl : body.length = 56) (t : Int) : leafE (leafOf body t) 7 = body := by
  unfold leafE
  have e : (List.range 7).flatMap (fun i => seatE (seat (leafOf body t) i)) = (List.range 7).flatMap (fieldAt body 8) := flat_congr fun i hi => by rw [seat_of body t hi, seatE_of hb hl t hi]
  rw [e, field_flat 7 (by omega), List.take_of_length_le (by omega)]
theorem liveT_of (body : List Int) {t : Int} (ht : 0 ≤ t ∧ t ≤ 255) : liveT (leafOf body t) 7 = t.toNat % 128 := by
  have := tag_all ⟨t.toNat, by omega⟩
  rw [← this]
  exact tagN_congr fun i hi => by rw [seat_of body t hi]; rfl
def GetL (b : List Int) : Prop := Is b ∧ ix b 4 = 2 ∧ ix b 5 < 128 ∧ leafOk (leafOf (b.drop 8) (ix b 5))
instance (b : List Int) : Decidable (GetL b) := inferInstanceAs (Decidable (_ ∧ _))
theorem cut_lo (l : List Int) (n : Nat) : cut l 0 (n : Int) = l.take n := by
  unfold cut
  simp
theorem cut_hi (l : List Int) (n : Nat) : cut l (n : Int) (l.length : Int) = l.drop n := by
  unfold cut
  rw [Int.toNat_natCast, Int.toNat_natCast, List.take_length]
theorem getLeaf_eq {fu : Nat} {b : List Int} (hb : Bytes b) (hl : b.length ≤ 9000000000000000000) (hf : 100 < fu) : page_GetLeaf.f fu b = some (if GetL b then (leafOf (b.drop 8) (ix b 5), true) else (noL, false)) := by
  unfold page_GetLeaf.f
  rw [open_eq hb hl hf]
  by_cases hi : Is b
  · have h8 := is_body hi
    obtain ⟨b4, b5⟩ := is_tag hb hi
    rw [if_pos hi]
    simp only [Option.bind_some, Bool.not_true, Bool.false_eq_true, if_false]
    by_cases h4 : ix b 4 = 2
    · by_cases h5 : ix b 5 < 128
      · have h5' : ¬ ix b 5 ≥ 128 := by omega
        have hs : ∀ j : Nat, j < 7 → page_GetLeaf.s0 fu (2, ix b 5, b.drop 8, true) ((j : Int), ⟨fillA (seatAt (b.drop 8) (ix b 5)) (Arr.rep 7 noS) j⟩) = some (if seatB (seatAt (b.drop 8) (ix b 5) j) = true then .inr (((j + 1 : Nat) : Int), ⟨fillA (seatAt (b.drop 8) (ix b 5)) (Arr.rep 7 noS) (j + 1)⟩) else .inl (.inl (noL, false))) := by
          intro j hj
          unfold page_GetLeaf.s0
          have h1 : (j : Int) < 7 := by omega
          have w3 : IntKind.i64.wrap ((j : Int) + 1) = ((j + 1 : Nat) : Int) := by rw [w64 (by omega) (by omega)]; omega
          have w4 : IntKind.i64.wrap (8 * (j : Int)) = ((8 * j : Nat) : Int) := by rw [w64 (by omega) (by omega)]; omega
          have w5 : IntKind.i64.wrap (8 * ((j + 1 : Nat) : Int)) = ((8 * j + 8 : Nat) : Int) := by rw [w64 (by omega) (by omega)]; omega
          have hfl := fieldAt_len (l := b.drop 8) (w := 8) (n := 7) (by omega) hj
          have hfb := fieldAt_bytes (hb.drop 8) 8 j
          obtain ⟨⟨a1, a2⟩, ⟨d1, d2⟩⟩ := half_bytes hfb hfl
          have ec : cut (b.drop 8) ((8 * j : Nat) : Int) ((8 * j + 8 : Nat) : Int) = fieldAt (b.drop 8) 8 j := cut_eq _ _ _
          have e0 : cut (fieldAt (b.drop 8) 8 j) 0 4 = (fieldAt (b.drop 8) 8 j).take 4 := cut_lo _ 4
          have e4 : cut (fieldAt (b.drop 8) 8 j) 4 ((fieldAt (b.drop 8) 8 j).length : Int) = (fieldAt (b.drop 8) 8 j).drop 4 := cut_hi _ 4
          have hr1 : octet_Read.f fu ((fieldAt (b.drop 8) 8 j).take 4) = some ((num ((fieldAt (b.drop 8) 8 j).take 4) : Nat) : Int) := read_eq a2 (by omega) (by omega)
          have hr2 : octet_Read.f fu ((fieldAt (b.drop 8) 8 j).drop 4) = some ((num ((fieldAt (b.drop 8) 8 j).drop 4) : Nat) : Int) := read_eq d2 (by omega) (by omega)
          have w6 := num_small a2 (by omega)
          have w7 := num_small d2 (by omega)
          have c0 : 0 ≤ (j : Int) := by omega
          have c8 : (4 : Int) ≤ ((fieldAt (b.drop 8) 8 j).length : Int) := by rw [hfl]; decide
          have cB : (0 : Int) ≤ ((8 * j : Nat) : Int) ∧ ((8 * j : Nat) : Int) ≤ ((8 * j + 8 : Nat) : Int) ∧ ((8 * j + 8 : Nat) : Int) ≤ ((b.drop 8).length : Int) := by omega
          have ht := (bit_tab ⟨(ix b 5).toNat, by omega⟩ ⟨j, hj⟩).1
          simp only [Int.toNat_of_nonneg b5.1] at ht
          have ex : (⟨decide ((bAnd .i64 (shR .i64 (ix b 5) (j : Int)) 1) = 1), ((num ((fieldAt (b.drop 8) 8 j).take 4) : Nat) : Int), ((num ((fieldAt (b.drop 8) 8 j).drop 4) : Nat) : Int)⟩ : S_api_Seat) = seatAt (b.drop 8) (ix b 5) j := by rw [ht]; rfl
          simp only [h1, decide_true, if_true, w3, w4, w5, ec]
          rw [if_pos cB, if_pos c0, if_pos c8, e0, hr1, Option.bind_some, if_pos c8, e4, hr2, Option.bind_some, w6, w7, ex, rightSeat_eq, Option.bind_some]
          cases hq : seatB (seatAt (b.drop 8) (ix b 5) j)
          · rfl
          · simp only [Bool.not_true, Bool.false_eq_true, if_false, if_true]
            rw [if_pos ⟨by omega, trivial⟩]
            rfl
        have h0 : page_GetLeaf.s0 fu (2, ix b 5, b.drop 8, true) = page_GetLeaf.s0 fu (ix b 4, ix b 5, b.drop 8, true) := by rw [h4]
        by_cases hk : leafOk (leafOf (b.drop 8) (ix b 5))
        · have hg : GetL b := ⟨hi, h4, h5, hk⟩
          have : loopM (page_GetLeaf.s0 fu (ix b 4, ix b 5, b.drop 8, true)) fu (0, (⟨Arr.rep 7 (⟨false, 0, 0⟩ : S_api_Seat)⟩ : S_api_Leaf)) = some (.inr (leafOf (b.drop 8) (ix b 5))) := by
            rw [← h0]
            refine loopM_run (S := fun j => ((j : Int), (⟨fillA (seatAt (b.drop 8) (ix b 5)) (Arr.rep 7 noS) j⟩ : S_api_Leaf))) 7 rfl (fun j hj => ?_) ?_ (by omega)
            · have := hk j hj
              rw [seat_of _ _ hj] at this
              rw [hs j hj, if_pos this]
            · unfold page_GetLeaf.s0
              simp [leafOf]
          rw [if_pos hg, this]
          simp [h4, h5']
        · have hg : ¬ GetL b := fun x => hk x.2.2.2
          have : loopM (page_GetLeaf.s0 fu (ix b 4, ix b 5, b.drop 8, true)) fu (0, (⟨Arr.rep 7 (⟨false, 0, 0⟩ : S_api_Seat)⟩ : S_api_Leaf)) = some (.inl (noL, false)) := by
            rw [← h0]
            refine loopM_bad (S := fun j => ((j : Int), (⟨fillA (seatAt (b.drop 8) (ix b 5)) (Arr.rep 7 noS) j⟩ : S_api_Leaf))) 7 (fun j => seatB (seatAt (b.drop 8) (ix b 5) j) = true) rfl ?_ (fun j hj _ hg => by rw [hs j hj, if_pos hg]) (fun j hj _ hg => by rw [hs j hj, if_neg hg]) (by omega)
            apply Classical.byContradiction
            intro hx
            refine hk fun i hi => ?_
            rw [seat_of _ _ hi]
            exact Classical.byContradiction fun hg => hx ⟨i, hi, hg⟩
          rw [if_neg hg, this]
          simp [h4, h5', noL]
      · have h5' : ix b 5 ≥ 128 := by omega
        have hg : ¬ GetL b := fun x => h5 x.2.2.1
        rw [if_neg hg]
        simp [h4, h5', noL, noS]
    · have hg : ¬ GetL b := fun x => h4 x.2.1
      rw [if_neg hg]
      simp [h4, noL, noS]
  · have hg : ¬ GetL b := fun x => hi x.1
    rw [if_neg hi, if_neg hg]
    rfl
theorem rgetLeaf_eq {fu : Nat} {b : List Int} (hb : Bytes b) (hf : 100 < fu) : rickyardref09_GetLeaf.f fu b = some (if GetL b then (leafOf (b.drop 8) (ix b 5), true) else (noL, false)) := by
  unfold rickyardref09_GetLeaf.f
  rw [ropen_eq hb hf]
  by_cases hi : Is b
  · have h8 := is_body hi
    obtain ⟨b4, b5⟩ := is_tag hb hi
    rw [if_pos hi]
    simp only [Option.bind_some, Bool.not_true, Bool.false_eq_true, if_false]
    by_cases h4 : ix b 4 = 2
    · have hloop : loopM (rickyardref09_GetLeaf.s0 fu (ix b 4, ix b 5, (b.drop 8).map toB, true)) fu (0, (⟨Arr.rep 7 (⟨false, 0, 0⟩ : S_api_Seat)⟩ : S_api_Leaf)) = some (leafOf (b.drop 8) (ix b 5)) := by
        refine loopM_run (S := fun j => ((j : Int), (⟨fillA (seatAt (b.drop 8) (ix b 5)) (Arr.rep 7 noS) j⟩ : S_api_Leaf))) 7 rfl ?_ ?_ (by omega)
        · intro j hj
          unfold rickyardref09_GetLeaf.s0
          have h1 : (j : Int) < 7 := by omega
          have w3 : IntKind.i64.wrap ((j : Int) + 1) = ((j + 1 : Nat) : Int) := by rw [w64 (by omega) (by omega)]; omega
          have w4 : IntKind.i64.wrap (8 * (j : Int)) = ((8 * j : Nat) : Int) := by rw [w64 (by omega) (by omega)]; omega
          have w5 : IntKind.i64.wrap (((8 * j : Nat) : Int) + 4) = ((8 * j + 4 : Nat) : Int) := by rw [w64 (by omega) (by omega)]; omega
          have w6 : IntKind.i64.wrap (((8 * j : Nat) : Int) + 8) = ((8 * j + 4 + 4 : Nat) : Int) := by rw [w64 (by omega) (by omega)]; omega
          have hfl := fieldAt_len (l := b.drop 8) (w := 8) (n := 7) (by omega) hj
          have hfb := fieldAt_bytes (hb.drop 8) 8 j
          obtain ⟨⟨a1, a2⟩, ⟨d1, d2⟩⟩ := half_bytes hfb hfl
          have f1 : ((b.drop 8).drop (8 * j)).take 4 = (fieldAt (b.drop 8) 8 j).take 4 := by
            unfold fieldAt
            rw [List.take_take]
            rfl
          have f2' : ∀ body : List Int, (body.drop (8 * j + 4)).take 4 = ((body.drop (8 * j)).take 8).drop 4 := by
            intro body
            rw [List.drop_take, List.drop_drop]
          have f2 : ((b.drop 8).drop (8 * j + 4)).take 4 = (fieldAt (b.drop 8) 8 j).drop 4 := f2' _
          have hr1 : rickyardref01_Int.f fu (cut ((b.drop 8).map toB) ((8 * j : Nat) : Int) ((8 * j + 4 : Nat) : Int)) = some ((num ((fieldAt (b.drop 8) 8 j).take 4) : Nat) : Int) := by
            rw [map_drop_take, f1, rint_eq a2 (by omega) (by omega), num_small a2 (by omega)]
          have hr2 : rickyardref01_Int.f fu (cut ((b.drop 8).map toB) ((8 * j + 4 : Nat) : Int) ((8 * j + 4 + 4 : Nat) : Int)) = some ((num ((fieldAt (b.drop 8) 8 j).drop 4) : Nat) : Int) := by
            rw [map_drop_take, f2, rint_eq d2 (by omega) (by omega), num_small d2 (by omega)]
          have hbt := (bit_tab ⟨(ix b 5).toNat, by omega⟩ ⟨j, hj⟩).2
          simp only [Int.toNat_of_nonneg b5.1] at hbt
          have c0 : 0 ≤ (j : Int) := by omega
          have cA : (0 : Int) ≤ ((8 * j : Nat) : Int) ∧ ((8 * j : Nat) : Int) ≤ ((8 * j + 4 : Nat) : Int) ∧ ((8 * j + 4 : Nat) : Int) ≤ (((b.drop 8).map toB).length : Int) := by rw [List.length_map]; omega
          have cB : (0 : Int) ≤ ((8 * j + 4 : Nat) : Int) ∧ ((8 * j + 4 : Nat) : Int) ≤ ((8 * j + 4 + 4 : Nat) : Int) ∧ ((8 * j + 4 + 4 : Nat) : Int) ≤ (((b.drop 8).map toB).length : Int) := by rw [List.length_map]; omega
          simp only [h1, decide_true, if_true, w3, w4, w5, w6]
          rw [if_pos c0, if_pos hbt.1, if_pos cA, hr1, Option.bind_some, if_pos cB, hr2, Option.bind_some, if_pos ⟨by omega, trivial⟩, hbt.2]
          rfl
        · unfold rickyardref09_GetLeaf.s0
          simp [leafOf]
      have hbb := leafE_bytes (leafOf (b.drop 8) (ix b 5)) 7
      have hbl := leafE_len (leafOf (b.drop 8) (ix b 5)) 7
      have hT := liveT_of (b.drop 8) b5
      have hq := sealed_map_iff hb hi (k := 2) (t := ((liveT (leafOf (b.drop 8) (ix b 5)) 7 : Nat) : Int)) (by omega) (by omega) hbb (by omega)
      rw [hbl, leafE_of (hb.drop 8) h8] at hq
      rw [hloop]
      simp only [Option.bind_some, rleaf_eq hf]
      by_cases hk : leafOk (leafOf (b.drop 8) (ix b 5))
      · simp only [hk, if_true, Bool.not_true, Bool.false_eq_true, if_false, leafE_of (hb.drop 8) h8]
        by_cases hg : GetL b
        · have h5 := hg.2.2.1
          rw [if_pos hg, decide_eq_true h4, decide_eq_true (hq.2 ⟨h4.symm, by rw [hT]; omega, by simp⟩)]
          rfl
        · rw [if_neg hg, decide_eq_true h4, decide_eq_false (fun x => hg ⟨hi, h4, by have := (hq.1 x).2.1; rw [hT] at this; omega, hk⟩)]
          rfl
      · have hg : ¬ GetL b := fun x => hk x.2.2.2
        rw [if_neg hg]
        simp [hk, noL, noS, h4]
    · have hg : ¬ GetL b := fun x => h4 x.2.1
      rw [if_neg hg]
      simp [h4, noL, noS]
  · have hg : ¬ GetL b := fun x => hi x.1
    rw [if_neg hi, if_neg hg]
    rfl
def RightC (c : S_api_Chart) : Prop := 0 ≤ c.Place ∧ c.Place < 8
instance (c : S_api_Chart) : Decidable (RightC c) := inferInstanceAs (Decidable (_ ∧ _))
def ok_api_Chart (c : S_api_Chart) : Prop := ∀ x ∈ c.Bits.l, 0 ≤ x ∧ x ≤ 255
theorem right_eq (fu : Nat) (c : S_api_Chart) : chart_right.f fu c = some (decide (RightC c)) := by
  unfold chart_right.f RightC
  by_cases h : 0 ≤ c.Place <;> simp [h]
theorem rright_eq (fu : Nat) (c : S_api_Chart) : rickyardref10_Right.f fu c = some (decide (RightC c)) := by
  unfold rickyardref10_Right.f RightC
  by_cases h : 0 ≤ c.Place
  · simp [h]
    omega
  · simp [h]
def noC : S_api_Chart := ⟨0, Arr.rep 48 0⟩
def bitsOf (body : List Int) : Arr 48 Int := Arr.copy (Arr.rep 48 0) body
theorem bitsOf_l {body : List Int} (h : 48 ≤ body.length) : (bitsOf body).l = body.take 48 := by
  have e : ((List.replicate 48 (0 : Int)).drop (0 + (body.take 48).length)) = [] := List.drop_eq_nil_of_le (by simp [h])
  show splL (List.replicate 48 (0 : Int)) 0 (body.take 48) = _
  unfold splL
  rw [e]
  simp
theorem bytes_chart {c : S_api_Chart} (h : ok_api_Chart c) : Bytes c.Bits.l := h
theorem put_eq {fu : Nat} {c : S_api_Chart} (hc : ok_api_Chart c) (hf : 100 < fu) : chart_Put.f fu c = some (if RightC c then (sealed (summed 4 c.Place c.Bits.l), true) else ([], false)) := by
  unfold chart_Put.f
  rw [right_eq]
  by_cases h : RightC c
  · have h' := h
    unfold RightC at h'
    have hs := seal_eq (fu := fu) (k := 4) (t := c.Place) (bytes_chart hc) (by omega) (by omega) (by rw [c.Bits.h]; decide) hf
    simp [h, hs]
  · simp [h]
theorem rput_eq {fu : Nat} {c : S_api_Chart} (hc : Bytes c.Bits.l) (hr : RightC c) (hf : 100 < fu) : rickyardref10_Put.f fu c = some ((sealed (summed 4 c.Place c.Bits.l)).map toB) := by
  unfold rickyardref10_Put.f
  unfold RightC at hr
  rw [rseal_eq hc (by omega) (by omega) (by rw [c.Bits.h]; decide) hf]
  rfl
def GetOk (b : List Int) : Prop := Is b ∧ ix b 4 = 4 ∧ ix b 5 < 8 ∧ ∀ y ∈ (b.drop 8).drop 48, y = 0
instance (b : List Int) : Decidable (GetOk b) := inferInstanceAs (Decidable (_ ∧ _))
theorem cget_eq {fu : Nat} {b : List Int} (hb : Bytes b) (hl : b.length ≤ 9000000000000000000) (hf : 100 < fu) : chart_Get.f fu b = some (if GetOk b then (⟨ix b 5, bitsOf (b.drop 8)⟩, true) else (noC, false)) := by
  unfold chart_Get.f
  rw [open_eq hb hl hf]
  by_cases hi : Is b
  · have h8 := is_body hi
    have w1 : IntKind.i64.wrap (((b.drop 8).length : Int) - 48) = ((8 : Nat) : Int) := by rw [w64 (by omega) (by omega)]; omega
    have hn : octet_Noughts.f fu (b.drop 8) ((48 : Nat) : Int) ((8 : Nat) : Int) = some (decide (∀ y ∈ ((b.drop 8).drop 48).take 8, y = 0)) := noughts_eq (by omega) (by omega) (by omega)
    have e8 : ((b.drop 8).drop 48).take 8 = (b.drop 8).drop 48 := List.take_of_length_le (by rw [List.length_drop, h8]; decide)
    rw [e8] at hn
    rw [if_pos hi]
    simp only [Option.bind_some, Bool.not_true, Bool.false_eq_true, if_false, w1]
    have hn' : octet_Noughts.f fu (b.drop 8) 48 ((8 : Nat) : Int) = some (decide (∀ y ∈ (b.drop 8).drop 48, y = 0)) := hn
    rw [hn']
    by_cases h4 : ix b 4 = 4
    · by_cases h5 : ix b 5 < 8
      · have h5' : ¬ ix b 5 ≥ 8 := by omega
        by_cases hz : ∀ y ∈ (b.drop 8).drop 48, y = 0
        · have hg : GetOk b := ⟨hi, h4, h5, hz⟩
          rw [if_pos hg, decide_eq_true hz]
          simp [h4, h5', bitsOf]
        · have hg : ¬ GetOk b := fun x => hz x.2.2.2
          rw [if_neg hg, decide_eq_false hz]
          simp [h4, h5', noC]
      · have h5' : ix b 5 ≥ 8 := by omega
        have hg : ¬ GetOk b := fun x => h5 x.2.2.1
        rw [if_neg hg]
        simp [h4, h5', noC]
    · have hg : ¬ GetOk b := fun x => h4 x.2.1
      rw [if_neg hg]
      simp [h4, noC]
  · have hg : ¬ GetOk b := fun x => hi x.1
    rw [if_neg hi, if_neg hg]
    rfl
theorem rget_eq {fu : Nat} {b : List Int} (hb : Bytes b) (hf : 100 < fu) : rickyardref10_Get.f fu b = some (if GetOk b then (⟨ix b 5, bitsOf (b.drop 8)⟩, true) else (noC, false)) := by
  unfold rickyardref10_Get.f
  rw [ropen_eq hb hf]
  by_cases hi : Is b
  · have h8 := is_body hi
    obtain ⟨b4, b5⟩ := is_tag hb hi
    rw [if_pos hi]
    simp only [Option.bind_some, Bool.not_true, Bool.false_eq_true, if_false]
    by_cases h4 : ix b 4 = 4
    · by_cases h5 : ix b 5 < 8
      · have h5' : ¬ ix b 5 > 7 := by omega
        have hloop : loopM (rickyardref10_Get.s0 fu (ix b 4, ix b 5, (b.drop 8).map toB, true)) fu (0, (⟨ix b 5, (Arr.rep 48 (0 : Int))⟩ : S_api_Chart)) = some ⟨ix b 5, bitsOf (b.drop 8)⟩ := by
          have e : bitsOf (b.drop 8) = fillA (fun j => ix (b.drop 8) (j : Int)) (Arr.rep 48 0) 48 := by
            apply Arr.ext
            rw [bitsOf_l (by omega), fillA_all, take_range (by omega)]
          rw [e]
          refine loopM_run (S := fun j => ((j : Int), (⟨ix b 5, fillA (fun j => ix (b.drop 8) (j : Int)) (Arr.rep 48 0) j⟩ : S_api_Chart))) 48 rfl ?_ ?_ (by omega)
          · intro j hj
            unfold rickyardref10_Get.s0
            have w3 : IntKind.i64.wrap ((j : Int) + 1) = ((j + 1 : Nat) : Int) := by rw [w64 (by omega) (by omega)]; omega
            have h1 : (j : Int) < 48 := by omega
            have c1 : 0 ≤ (j : Int) ∧ (j : Int) < (((b.drop 8).map toB).length : Int) := by rw [List.length_map]; omega
            have c2 : 0 ≤ (j : Int) ∧ True := ⟨by omega, trivial⟩
            simp only [w3, h1, decide_true, if_true, getD_toB (hb.drop 8) (show j < (b.drop 8).length by omega)]
            rw [if_pos c1, if_pos c2]
            rfl
          · unfold rickyardref10_Get.s0
            simp
        have hbb : Bytes (bitsOf (b.drop 8)).l := by
          rw [bitsOf_l (by omega)]
          exact (hb.drop 8).take 48
        have hr : RightC ⟨ix b 5, bitsOf (b.drop 8)⟩ := ⟨b5.1, h5⟩
        have hp := rput_eq (fu := fu) (c := ⟨ix b 5, bitsOf (b.drop 8)⟩) hbb hr hf
        have hq := sealed_map_iff hb hi (k := 4) (t := ix b 5) (by omega) b5 hbb (by rw [Arr.h]; decide)
        have hfl : (bitsOf (b.drop 8)).l ++ List.replicate (56 - (bitsOf (b.drop 8)).l.length) 0 = b.drop 8 ↔ ∀ y ∈ (b.drop 8).drop 48, y = 0 := by
          rw [full_iff (by rw [Arr.h]; decide) h8, Arr.h, bitsOf_l (by omega)]
          simp
        simp only [h4, h5', decide_true, Bool.not_true, Bool.false_eq_true, if_false, decide_false] at hloop ⊢
        rw [hloop]
        simp only [Option.bind_some, hp]
        by_cases hz : ∀ y ∈ (b.drop 8).drop 48, y = 0
        · have hg : GetOk b := ⟨hi, h4, h5, hz⟩
          rw [if_pos hg, decide_eq_true (hq.2 ⟨h4.symm, rfl, hfl.2 hz⟩)]
          rfl
        · have hg : ¬ GetOk b := fun x => hz x.2.2.2
          rw [if_neg hg, decide_eq_false (fun x => hz (hfl.1 (hq.1 x).2.2))]
          rfl
      · have h5' : ix b 5 > 7 := by omega
        have hg : ¬ GetOk b := fun x => h5 x.2.2.1
        rw [if_neg hg]
        simp [h4, h5', noC]
    · have hg : ¬ GetOk b := fun x => h4 x.2.1
      rw [if_neg hg]
      simp [h4, noC]
  · have hg : ¬ GetOk b := fun x => hi x.1
    rw [if_neg hi, if_neg hg]
    rfl
def oct (m : List UInt8) (k : Nat) : Nat := (m.getD k 0).toNat
theorem oct_lt (m : List UInt8) (k : Nat) : oct m k < 256 := (m.getD k 0).toNat_lt
def fst4 (c0 c1 c2 c3 n : Nat) : Nat × Nat :=
  if c0 < 128 then (c0, 1)
  else if (194 ≤ c0 ∧ c0 ≤ 223) ∧ (1 < n ∧ 128 ≤ c1 ∧ c1 ≤ 191) then ((c0 - 192) * 64 + (c1 - 128), 2)
  else if (224 ≤ c0 ∧ c0 ≤ 239) ∧ (1 < n ∧ (if c0 = 224 then 160 else 128) ≤ c1 ∧ c1 ≤ (if c0 = 237 then 159 else 191)) ∧ (2 < n ∧ 128 ≤ c2 ∧ c2 ≤ 191) then ((c0 - 224) * 4096 + (c1 - 128) * 64 + (c2 - 128), 3)
  else if (240 ≤ c0 ∧ c0 ≤ 244) ∧ (1 < n ∧ (if c0 = 240 then 144 else 128) ≤ c1 ∧ c1 ≤ (if c0 = 244 then 143 else 191)) ∧ (2 < n ∧ 128 ≤ c2 ∧ c2 ≤ 191) ∧ (3 < n ∧ 128 ≤ c3 ∧ c3 ≤ 191) then ((c0 - 240) * 262144 + (c1 - 128) * 4096 + (c2 - 128) * 64 + (c3 - 128), 4)
  else (65533, 1)
def first (m : List UInt8) : Nat × Nat := fst4 (oct m 0) (oct m 1) (oct m 2) (oct m 3) m.length
def dec4 (c0 c1 c2 c3 : Nat) (k1 k2 k3 : Bool) : Nat × Nat :=
  if c0 < 0x80 then (c0, 1)
  else if (c0 / 32 == 6 && (k1 && c1 / 64 == 2)) = true then
    (if (c0 % 32) * 64 + c1 % 64 ≥ 0x80 then ((c0 % 32) * 64 + c1 % 64, 2) else (0xFFFD, 1))
  else if (c0 / 16 == 14 && (k1 && c1 / 64 == 2) && (k2 && c2 / 64 == 2)) = true then
    (if (decide ((c0 % 16) * 4096 + (c1 % 64) * 64 + c2 % 64 ≥ 0x800) && Utf8.valid (((c0 % 16) * 4096 + (c1 % 64) * 64 + c2 % 64 : Nat) : Int)) = true then ((c0 % 16) * 4096 + (c1 % 64) * 64 + c2 % 64, 3) else (0xFFFD, 1))
  else if (c0 / 8 == 30 && (k1 && c1 / 64 == 2) && (k2 && c2 / 64 == 2) && (k3 && c3 / 64 == 2)) = true then
    (if (decide ((c0 % 8) * 262144 + (c1 % 64) * 4096 + (c2 % 64) * 64 + c3 % 64 ≥ 0x10000) && Utf8.valid (((c0 % 8) * 262144 + (c1 % 64) * 4096 + (c2 % 64) * 64 + c3 % 64 : Nat) : Int)) = true then ((c0 % 8) * 262144 + (c1 % 64) * 4096 + (c2 % 64) * 64 + c3 % 64, 4) else (0xFFFD, 1))
  else (0xFFFD, 1)
theorem dec_fst {c0 c1 c2 c3 n : Nat} (b0 : c0 < 256) (b1 : c1 < 256) (b2 : c2 < 256) (b3 : c3 < 256) : dec4 c0 c1 c2 c3 (decide (1 < n)) (decide (2 < n)) (decide (3 < n)) = fst4 c0 c1 c2 c3 n := by
  unfold dec4 fst4 Utf8.valid
  simp only [Bool.and_eq_true, Bool.or_eq_true, beq_iff_eq, decide_eq_true_eq]
  by_cases h0 : c0 < 128
  · rw [if_pos h0, if_pos h0]
  · rw [if_neg h0, if_neg h0]
    by_cases k1 : 1 < n ∧ 128 ≤ c1 ∧ c1 ≤ 191
    · have e1 : 1 < n ∧ c1 / 64 = 2 := by omega
      by_cases r2 : 192 ≤ c0 ∧ c0 ≤ 223
      · rw [if_pos (show c0 / 32 = 6 ∧ 1 < n ∧ c1 / 64 = 2 from ⟨by omega, e1⟩)]
        by_cases l2 : 194 ≤ c0
        · rw [if_pos (by omega), if_pos ⟨⟨l2, r2.2⟩, k1⟩]
          exact Prod.ext (by simp only; omega) rfl
        · rw [if_neg (by omega), if_neg (fun x => l2 x.1.1), if_neg (fun x => by have := x.1; omega), if_neg (fun x => by have := x.1; omega)]
      · rw [if_neg (show ¬ (c0 / 32 = 6 ∧ 1 < n ∧ c1 / 64 = 2) from fun x => by have := x.1; omega), if_neg (show ¬ ((194 ≤ c0 ∧ c0 ≤ 223) ∧ (1 < n ∧ 128 ≤ c1 ∧ c1 ≤ 191)) from fun x => by have := x.1; omega)]
        by_cases k2 : 2 < n ∧ 128 ≤ c2 ∧ c2 ≤ 191
        · have e2 : 2 < n ∧ c2 / 64 = 2 := by omega
          by_cases r3 : 224 ≤ c0 ∧ c0 ≤ 239
          · rw [if_pos (show (c0 / 16 = 14 ∧ 1 < n ∧ c1 / 64 = 2) ∧ 2 < n ∧ c2 / 64 = 2 from ⟨⟨by omega, e1⟩, e2⟩)]
            by_cases l3 : (if c0 = 224 then 160 else 128) ≤ c1 ∧ c1 ≤ (if c0 = 237 then 159 else 191)
            · rw [if_pos (show (224 ≤ c0 ∧ c0 ≤ 239) ∧ (1 < n ∧ (if c0 = 224 then 160 else 128) ≤ c1 ∧ c1 ≤ (if c0 = 237 then 159 else 191)) ∧ (2 < n ∧ 128 ≤ c2 ∧ c2 ≤ 191) from ⟨r3, ⟨k1.1, l3⟩, k2⟩)]
              have hl1 : c0 = 224 → 160 ≤ c1 := fun e => by have := l3.1; rwa [if_pos e] at this
              have hl2 : c0 = 237 → c1 ≤ 159 := fun e => by have := l3.2; rwa [if_pos e] at this
              rw [if_pos (by omega)]
              exact Prod.ext (by simp only; omega) rfl
            · rw [if_neg (show ¬ ((224 ≤ c0 ∧ c0 ≤ 239) ∧ (1 < n ∧ (if c0 = 224 then 160 else 128) ≤ c1 ∧ c1 ≤ (if c0 = 237 then 159 else 191)) ∧ (2 < n ∧ 128 ≤ c2 ∧ c2 ≤ 191)) from fun x => l3 x.2.1.2), if_neg (show ¬ ((240 ≤ c0 ∧ c0 ≤ 244) ∧ _) from fun x => by have := x.1; omega)]
              have hl : (c0 = 224 ∧ c1 < 160) ∨ (c0 = 237 ∧ 159 < c1) := by
                by_cases e4 : c0 = 224
                · left
                  refine ⟨e4, ?_⟩
                  apply Classical.byContradiction
                  intro hh
                  apply l3
                  rw [if_pos e4, if_neg (by omega)]
                  omega
                · right
                  by_cases e7 : c0 = 237
                  · refine ⟨e7, ?_⟩
                    apply Classical.byContradiction
                    intro hh
                    apply l3
                    rw [if_neg e4, if_pos e7]
                    omega
                  · exfalso
                    apply l3
                    rw [if_neg e4, if_neg e7]
                    omega
              rw [if_neg (by omega)]
          · rw [if_neg (show ¬ ((c0 / 16 = 14 ∧ 1 < n ∧ c1 / 64 = 2) ∧ 2 < n ∧ c2 / 64 = 2) from fun x => by have := x.1.1; omega), if_neg (show ¬ ((224 ≤ c0 ∧ c0 ≤ 239) ∧ _) from fun x => r3 x.1)]
            by_cases k3 : 3 < n ∧ 128 ≤ c3 ∧ c3 ≤ 191
            · have e3 : 3 < n ∧ c3 / 64 = 2 := by omega
              by_cases r4 : 240 ≤ c0 ∧ c0 ≤ 247
              · rw [if_pos (show ((c0 / 8 = 30 ∧ 1 < n ∧ c1 / 64 = 2) ∧ 2 < n ∧ c2 / 64 = 2) ∧ 3 < n ∧ c3 / 64 = 2 from ⟨⟨⟨by omega, e1⟩, e2⟩, e3⟩)]
                by_cases l4 : c0 ≤ 244 ∧ (if c0 = 240 then 144 else 128) ≤ c1 ∧ c1 ≤ (if c0 = 244 then 143 else 191)
                · rw [if_pos (show (240 ≤ c0 ∧ c0 ≤ 244) ∧ (1 < n ∧ (if c0 = 240 then 144 else 128) ≤ c1 ∧ c1 ≤ (if c0 = 244 then 143 else 191)) ∧ (2 < n ∧ 128 ≤ c2 ∧ c2 ≤ 191) ∧ (3 < n ∧ 128 ≤ c3 ∧ c3 ≤ 191) from ⟨⟨r4.1, l4.1⟩, ⟨k1.1, l4.2⟩, k2, k3⟩)]
                  have hl1 : c0 = 240 → 144 ≤ c1 := fun e => by have := l4.2.1; rwa [if_pos e] at this
                  have hl2 : c0 = 244 → c1 ≤ 143 := fun e => by have := l4.2.2; rwa [if_pos e] at this
                  rw [if_pos (by omega)]
                  exact Prod.ext (by simp only; omega) rfl
                · rw [if_neg (show ¬ ((240 ≤ c0 ∧ c0 ≤ 244) ∧ (1 < n ∧ (if c0 = 240 then 144 else 128) ≤ c1 ∧ c1 ≤ (if c0 = 244 then 143 else 191)) ∧ (2 < n ∧ 128 ≤ c2 ∧ c2 ≤ 191) ∧ (3 < n ∧ 128 ≤ c3 ∧ c3 ≤ 191)) from fun x => l4 ⟨x.1.2, x.2.1.2⟩)]
                  have hl : 244 < c0 ∨ (c0 = 240 ∧ c1 < 144) ∨ (c0 = 244 ∧ 143 < c1) := by
                    by_cases e5 : 244 < c0
                    · exact .inl e5
                    · by_cases e4 : c0 = 240
                      · right
                        left
                        refine ⟨e4, ?_⟩
                        apply Classical.byContradiction
                        intro hh
                        apply l4
                        rw [if_pos e4, if_neg (by omega)]
                        omega
                      · right
                        right
                        by_cases e7 : c0 = 244
                        · refine ⟨e7, ?_⟩
                          apply Classical.byContradiction
                          intro hh
                          apply l4
                          rw [if_neg e4, if_pos e7]
                          omega
                        · exfalso
                          apply l4
                          rw [if_neg e4, if_neg e7]
                          omega
                  rw [if_neg (by omega)]
              · rw [if_neg (show ¬ (((c0 / 8 = 30 ∧ 1 < n ∧ c1 / 64 = 2) ∧ 2 < n ∧ c2 / 64 = 2) ∧ 3 < n ∧ c3 / 64 = 2) from fun x => by have := x.1.1.1; omega), if_neg (show ¬ ((240 ≤ c0 ∧ c0 ≤ 244) ∧ _) from fun x => by have := x.1; omega)]
            · rw [if_neg (show ¬ (((c0 / 8 = 30 ∧ 1 < n ∧ c1 / 64 = 2) ∧ 2 < n ∧ c2 / 64 = 2) ∧ 3 < n ∧ c3 / 64 = 2) from fun x => k3 (by have := x.2; omega)), if_neg (fun x => k3 x.2.2.2)]
        · rw [if_neg (show ¬ ((c0 / 16 = 14 ∧ 1 < n ∧ c1 / 64 = 2) ∧ 2 < n ∧ c2 / 64 = 2) from fun x => k2 (by have := x.2; omega)), if_neg (show ¬ (((c0 / 8 = 30 ∧ 1 < n ∧ c1 / 64 = 2) ∧ 2 < n ∧ c2 / 64 = 2) ∧ 3 < n ∧ c3 / 64 = 2) from fun x => k2 (by have := x.1.2; omega)), if_neg (fun x => k2 x.2.2), if_neg (fun x => k2 x.2.2.1)]
    · have q3 : (224 ≤ c0 ∧ c0 ≤ 239) ∧ (1 < n ∧ (if c0 = 224 then 160 else 128) ≤ c1 ∧ c1 ≤ (if c0 = 237 then 159 else 191)) ∧ (2 < n ∧ 128 ≤ c2 ∧ c2 ≤ 191) → False := by
        rintro ⟨_, ⟨h1, h2, h3⟩, _⟩
        have h4 : (128 : Nat) ≤ if c0 = 224 then 160 else 128 := by split <;> omega
        have h5 : (if c0 = 237 then 159 else 191) ≤ 191 := by split <;> omega
        exact k1 ⟨h1, by omega, by omega⟩
      have q4 : (240 ≤ c0 ∧ c0 ≤ 244) ∧ (1 < n ∧ (if c0 = 240 then 144 else 128) ≤ c1 ∧ c1 ≤ (if c0 = 244 then 143 else 191)) ∧ (2 < n ∧ 128 ≤ c2 ∧ c2 ≤ 191) ∧ (3 < n ∧ 128 ≤ c3 ∧ c3 ≤ 191) → False := by
        rintro ⟨_, ⟨h1, h2, h3⟩, _⟩
        have h4 : (128 : Nat) ≤ if c0 = 240 then 144 else 128 := by split <;> omega
        have h5 : (if c0 = 244 then 143 else 191) ≤ 191 := by split <;> omega
        exact k1 ⟨h1, by omega, by omega⟩
      rw [if_neg (show ¬ (c0 / 32 = 6 ∧ 1 < n ∧ c1 / 64 = 2) from fun x => k1 (by have := x.2; omega)), if_neg (show ¬ ((c0 / 16 = 14 ∧ 1 < n ∧ c1 / 64 = 2) ∧ 2 < n ∧ c2 / 64 = 2) from fun x => k1 (by have := x.1.2; omega)), if_neg (show ¬ (((c0 / 8 = 30 ∧ 1 < n ∧ c1 / 64 = 2) ∧ 2 < n ∧ c2 / 64 = 2) ∧ 3 < n ∧ c3 / 64 = 2) from fun x => k1 (by have := x.1.1.2; omega)), if_neg (fun x => k1 x.2), if_neg q3, if_neg q4]
theorem decode_eq (l : List UInt8) (i : Nat) : Utf8.decode ⟨l.toArray⟩ i = first (l.drop i) := by
  have hg : ∀ k, ((⟨l.toArray⟩ : ByteArray).get! (i + k)).toNat = oct (l.drop i) k := by
    intro k
    unfold oct
    rw [List.getD_eq_getElem?_getD, List.getElem?_drop]
    show ((l.toArray)[i + k]!).toNat = _
    rw [getElem!_def]
    simp
    cases l[i + k]? <;> rfl
  have hs : ∀ k, decide (i + k < (⟨l.toArray⟩ : ByteArray).size) = decide (k < (l.drop i).length) := by
    intro k
    apply decide_eq_decide.2
    rw [List.length_drop]
    show i + k < l.toArray.size ↔ _
    rw [List.size_toArray]
    omega
  have e : Utf8.decode ⟨l.toArray⟩ i = dec4 (oct (l.drop i) 0) (oct (l.drop i) 1) (oct (l.drop i) 2) (oct (l.drop i) 3) (decide (1 < (l.drop i).length)) (decide (2 < (l.drop i).length)) (decide (3 < (l.drop i).length)) := by
    unfold Utf8.decode dec4
    simp only [hg, hs, Utf8.runeError]
  rw [e]
  exact dec_fst (oct_lt _ _) (oct_lt _ _) (oct_lt _ _) (oct_lt _ _)
theorem first_wide {m : List UInt8} (h : 0 < m.length) : 1 ≤ (first m).2 ∧ (first m).2 ≤ m.length := by
  unfold first
  generalize oct m 0 = c0
  generalize oct m 1 = c1
  generalize oct m 2 = c2
  generalize oct m 3 = c3
  generalize m.length = n at *
  unfold fst4
  by_cases h0 : c0 < 128
  · rw [if_pos h0]
    exact ⟨Nat.le_refl _, h⟩
  · rw [if_neg h0]
    by_cases h2 : (194 ≤ c0 ∧ c0 ≤ 223) ∧ (1 < n ∧ 128 ≤ c1 ∧ c1 ≤ 191)
    · rw [if_pos h2]
      have := h2.2.1
      exact ⟨by simp, by simp only; omega⟩
    · rw [if_neg h2]
      by_cases h3 : (224 ≤ c0 ∧ c0 ≤ 239) ∧ (1 < n ∧ (if c0 = 224 then 160 else 128) ≤ c1 ∧ c1 ≤ (if c0 = 237 then 159 else 191)) ∧ (2 < n ∧ 128 ≤ c2 ∧ c2 ≤ 191)
      · rw [if_pos h3]
        have := h3.2.2.1
        exact ⟨by simp, by simp only; omega⟩
      · rw [if_neg h3]
        by_cases h4 : (240 ≤ c0 ∧ c0 ≤ 244) ∧ (1 < n ∧ (if c0 = 240 then 144 else 128) ≤ c1 ∧ c1 ≤ (if c0 = 244 then 143 else 191)) ∧ (2 < n ∧ 128 ≤ c2 ∧ c2 ≤ 191) ∧ (3 < n ∧ 128 ≤ c3 ∧ c3 ≤ 191)
        · rw [if_pos h4]
          have := h4.2.2.2.1
          exact ⟨by simp, by simp only; omega⟩
        · rw [if_neg h4]
          exact ⟨Nat.le_refl _, h⟩
theorem rune_first (s : List UInt8) (i : Nat) : runeAt s (i : Int) = ((first (s.drop i)).1 : Int) ∧ wideAt s (i : Int) = ((first (s.drop i)).2 : Int) := by
  unfold runeAt wideAt
  rw [Int.toNat_natCast, decode_eq]
  exact ⟨rfl, rfl⟩
theorem follows_eq (fu : Nat) (m : List UInt8) (k : Nat) (lo hi : Int) : rickyardref04_follows.f fu m (k : Int) lo hi = some (decide (k < m.length ∧ lo ≤ (oct m k : Int) ∧ (oct m k : Int) ≤ hi)) := by
  unfold rickyardref04_follows.f
  have e : ofB (List.getD m (Int.toNat (k : Int)) 0) = (oct m k : Int) := rfl
  rw [e]
  by_cases h1 : k < m.length
  · have h1' : (k : Int) < (m.length : Int) := by omega
    have c1 : 0 ≤ (k : Int) ∧ (k : Int) < (m.length : Int) := by omega
    rw [decide_eq_true h1', if_pos rfl, if_pos c1]
    by_cases h2 : (oct m k : Int) ≥ lo
    · rw [decide_eq_true h2, if_pos rfl, if_pos c1]
      exact congrArg some (decide_eq_decide.2 ⟨fun x => ⟨h1, h2, x⟩, fun x => x.2.2⟩)
    · rw [decide_eq_false h2, decide_eq_false (fun x : k < m.length ∧ lo ≤ (oct m k : Int) ∧ (oct m k : Int) ≤ hi => h2 x.2.1)]
      rfl
  · have h1' : ¬ (k : Int) < (m.length : Int) := by omega
    rw [decide_eq_false h1', decide_eq_false (fun x : k < m.length ∧ lo ≤ (oct m k : Int) ∧ (oct m k : Int) ≤ hi => h1 x.1)]
    rfl
theorem wrap8 {c k : Nat} (h : k ≤ c) (hc : c < 256) : IntKind.i64.wrap (IntKind.u8.wrap ((c : Int) - (k : Int))) = ((c - k : Nat) : Int) := by
  rw [wu8 (by omega) (by omega), w64 (by omega) (by omega)]
  omega
theorem if3 {α : Type} {c1 c2 c3 : Bool} {A X Y Z T : α} (h : c1 = true → c2 = true → c3 = true → A = T) (x : X = T) (y : Y = T) (z : Z = T) : (if c1 = true then (if c2 = true then (if c3 = true then A else X) else Y) else Z) = T := by
  cases c1 <;> cases c2 <;> cases c3 <;> first | exact x | exact y | exact z | exact h rfl rfl rfl
theorem first_eq {fu : Nat} {m : List UInt8} (hm : 0 < m.length) : rickyardref04_First.f fu m = some (((first m).1 : Int), ((first m).2 : Int)) := by
  unfold rickyardref04_First.f
  have hm' : (0 : Int) < (m.length : Int) := by omega
  have o0 : ofB (List.getD m (Int.toNat 0) 0) = (oct m 0 : Int) := rfl
  have o1 : ofB (List.getD m (Int.toNat 1) 0) = (oct m 1 : Int) := rfl
  have o2 : ofB (List.getD m (Int.toNat 2) 0) = (oct m 2 : Int) := rfl
  have o3 : ofB (List.getD m (Int.toNat 3) 0) = (oct m 3 : Int) := rfl
  have b0 := oct_lt m 0
  have b1 := oct_lt m 1
  have b2 := oct_lt m 2
  have b3 := oct_lt m 3
  have f1 := fun lo hi => follows_eq fu m 1 lo hi
  have f2 := fun lo hi => follows_eq fu m 2 lo hi
  have f3 := fun lo hi => follows_eq fu m 3 lo hi
  rw [show ((1 : Nat) : Int) = 1 from rfl] at f1
  rw [show ((2 : Nat) : Int) = 2 from rfl] at f2
  rw [show ((3 : Nat) : Int) = 3 from rfl] at f3
  rw [if_pos hm']
  simp only [o0, o1, o2, o3, f1, f2, f3, Option.bind_some]
  unfold first
  generalize oct m 0 = c0 at *
  generalize oct m 1 = c1 at *
  generalize oct m 2 = c2 at *
  generalize oct m 3 = c3 at *
  generalize m.length = n at *
  unfold fst4
  by_cases h0 : c0 < 128
  · have h0' : (c0 : Int) < 128 := by omega
    rw [decide_eq_true h0', if_pos rfl, if_pos h0, w64 (by omega) (by omega)]
    rfl
  · have h0' : ¬ (c0 : Int) < 128 := by omega
    rw [decide_eq_false h0', if_neg (by decide), if_neg h0]
    by_cases h2 : (194 ≤ c0 ∧ c0 ≤ 223) ∧ (1 < n ∧ 128 ≤ c1 ∧ c1 ≤ 191)
    · obtain ⟨⟨r1, r2⟩, k1⟩ := h2
      have g1 : (c0 : Int) ≥ 194 := by omega
      have g2 : (c0 : Int) ≤ 223 := by omega
      have g3 : 1 < n ∧ (128 : Int) ≤ (c1 : Int) ∧ (c1 : Int) ≤ 191 := by omega
      have g4 : (1 : Int) < (n : Int) := by omega
      have w1 : IntKind.i64.wrap (IntKind.u8.wrap ((c0 : Int) - 192)) = ((c0 - 192 : Nat) : Int) := wrap8 (k := 192) (by omega) b0
      have w2 : IntKind.i64.wrap (IntKind.u8.wrap ((c1 : Int) - 128)) = ((c1 - 128 : Nat) : Int) := wrap8 (k := 128) (by omega) b1
      rw [if_pos (show (194 ≤ c0 ∧ c0 ≤ 223) ∧ (1 < n ∧ 128 ≤ c1 ∧ c1 ≤ 191) from ⟨⟨r1, r2⟩, k1⟩), decide_eq_true g1, decide_eq_true g2, decide_eq_true g3, w1, w2, w64 (n := ((c0 - 192 : Nat) : Int) * 64) (by omega) (by omega), w64 (by omega) (by omega)]
      simp only [if_true, Option.bind_some, if_pos g4]
      exact congrArg some (Prod.ext (by simp) rfl)
    · rw [if_neg h2]
      refine if3 (fun a b c => (h2 ⟨⟨by have := of_decide_eq_true a; omega, by have := of_decide_eq_true b; omega⟩, by have := of_decide_eq_true c; omega⟩).elim) ?_ ?_ ?_
      all_goals
        by_cases r3 : 224 ≤ c0 ∧ c0 ≤ 239
        · have g1 : (c0 : Int) ≥ 224 := by omega
          have g2 : (c0 : Int) ≤ 239 := by omega
          rw [decide_eq_true g1, decide_eq_true g2]
          have x23 : (if decide ((c0 : Int) = 224) = true then some (160 : Int) else some 128) = some (((if c0 = 224 then 160 else 128 : Nat) : Int)) := by
            by_cases e : c0 = 224
            · rw [decide_eq_true (by omega : (c0 : Int) = 224), if_pos e]
              rfl
            · rw [decide_eq_false (by omega : ¬ (c0 : Int) = 224), if_neg e]
              rfl
          have x29 : (if decide ((c0 : Int) = 237) = true then some (159 : Int) else some 191) = some (((if c0 = 237 then 159 else 191 : Nat) : Int)) := by
            by_cases e : c0 = 237
            · rw [decide_eq_true (by omega : (c0 : Int) = 237), if_pos e]
              rfl
            · rw [decide_eq_false (by omega : ¬ (c0 : Int) = 237), if_neg e]
              rfl
          simp only [if_true, x23, x29, Option.bind_some]
          have n4 : ¬ ((240 ≤ c0 ∧ c0 ≤ 244) ∧ (1 < n ∧ (if c0 = 240 then 144 else 128) ≤ c1 ∧ c1 ≤ (if c0 = 244 then 143 else 191)) ∧ (2 < n ∧ 128 ≤ c2 ∧ c2 ≤ 191) ∧ (3 < n ∧ 128 ≤ c3 ∧ c3 ≤ 191)) := fun x => by have := x.1; omega
          by_cases a1 : 1 < n ∧ (if c0 = 224 then 160 else 128) ≤ c1 ∧ c1 ≤ (if c0 = 237 then 159 else 191)
          · have a1' : 1 < n ∧ (((if c0 = 224 then 160 else 128 : Nat) : Int)) ≤ (c1 : Int) ∧ (c1 : Int) ≤ (((if c0 = 237 then 159 else 191 : Nat) : Int)) := ⟨a1.1, Int.ofNat_le.2 a1.2.1, Int.ofNat_le.2 a1.2.2⟩
            rw [decide_eq_true a1']
            by_cases a2 : 2 < n ∧ 128 ≤ c2 ∧ c2 ≤ 191
            · have a2' : 2 < n ∧ (128 : Int) ≤ (c2 : Int) ∧ (c2 : Int) ≤ 191 := by omega
              have q1 : (128 : Nat) ≤ if c0 = 224 then 160 else 128 := by split <;> omega
              have k1 : 128 ≤ c1 := Nat.le_trans q1 a1.2.1
              have g4 : (1 : Int) < (n : Int) := by omega
              have g5 : (2 : Int) < (n : Int) := by omega
              have w0 : IntKind.i64.wrap (IntKind.u8.wrap ((c0 : Int) - 224)) = ((c0 - 224 : Nat) : Int) := wrap8 (k := 224) (by omega) b0
              have w1 : IntKind.i64.wrap (IntKind.u8.wrap ((c1 : Int) - 128)) = ((c1 - 128 : Nat) : Int) := wrap8 (k := 128) (by omega) b1
              have w2 : IntKind.i64.wrap (IntKind.u8.wrap ((c2 : Int) - 128)) = ((c2 - 128 : Nat) : Int) := wrap8 (k := 128) (by omega) b2
              rw [decide_eq_true a2', if_pos (show (224 ≤ c0 ∧ c0 ≤ 239) ∧ (1 < n ∧ (if c0 = 224 then 160 else 128) ≤ c1 ∧ c1 ≤ (if c0 = 237 then 159 else 191)) ∧ (2 < n ∧ 128 ≤ c2 ∧ c2 ≤ 191) from ⟨r3, a1, a2⟩)]
              simp only [if_true, Option.bind_some, if_pos g4, if_pos g5, w0, w1, w2]
              rw [w64 (n := ((c0 - 224 : Nat) : Int) * 4096) (by omega) (by omega), w64 (n := ((c1 - 128 : Nat) : Int) * 64) (by omega) (by omega), w64 (n := ((c0 - 224 : Nat) : Int) * 4096 + ((c1 - 128 : Nat) : Int) * 64) (by omega) (by omega), w64 (by omega) (by omega)]
              exact congrArg some (Prod.ext (by simp) rfl)
            · have a2' : ¬ (2 < n ∧ (128 : Int) ≤ (c2 : Int) ∧ (c2 : Int) ≤ 191) := by omega
              rw [decide_eq_false a2', if_neg (show ¬ ((224 ≤ c0 ∧ c0 ≤ 239) ∧ (1 < n ∧ (if c0 = 224 then 160 else 128) ≤ c1 ∧ c1 ≤ (if c0 = 237 then 159 else 191)) ∧ (2 < n ∧ 128 ≤ c2 ∧ c2 ≤ 191)) from fun x => a2 x.2.2), if_neg n4]
              rfl
          · have a1' : ¬ (1 < n ∧ (((if c0 = 224 then 160 else 128 : Nat) : Int)) ≤ (c1 : Int) ∧ (c1 : Int) ≤ (((if c0 = 237 then 159 else 191 : Nat) : Int))) := fun x => a1 ⟨x.1, Int.ofNat_le.1 x.2.1, Int.ofNat_le.1 x.2.2⟩
            rw [decide_eq_false a1', if_neg (show ¬ ((224 ≤ c0 ∧ c0 ≤ 239) ∧ (1 < n ∧ (if c0 = 224 then 160 else 128) ≤ c1 ∧ c1 ≤ (if c0 = 237 then 159 else 191)) ∧ (2 < n ∧ 128 ≤ c2 ∧ c2 ≤ 191)) from fun x => a1 x.2.1), if_neg n4]
            rfl
        · rw [if_neg (show ¬ ((224 ≤ c0 ∧ c0 ≤ 239) ∧ _) from fun x => r3 x.1)]
          by_cases r4 : 240 ≤ c0 ∧ c0 ≤ 244
          · have g1 : (c0 : Int) ≥ 240 := by omega
            have g2 : (c0 : Int) ≤ 244 := by omega
            rw [decide_eq_true (show (c0 : Int) ≥ 224 by omega), decide_eq_false (show ¬ (c0 : Int) ≤ 239 by omega), decide_eq_true g1, decide_eq_true g2]
            have x62 : (if decide ((c0 : Int) = 240) = true then some (144 : Int) else some 128) = some (((if c0 = 240 then 144 else 128 : Nat) : Int)) := by
              by_cases e : c0 = 240
              · rw [decide_eq_true (by omega : (c0 : Int) = 240), if_pos e]
                rfl
              · rw [decide_eq_false (by omega : ¬ (c0 : Int) = 240), if_neg e]
                rfl
            have x68 : (if decide ((c0 : Int) = 244) = true then some (143 : Int) else some 191) = some (((if c0 = 244 then 143 else 191 : Nat) : Int)) := by
              by_cases e : c0 = 244
              · rw [decide_eq_true (by omega : (c0 : Int) = 244), if_pos e]
                rfl
              · rw [decide_eq_false (by omega : ¬ (c0 : Int) = 244), if_neg e]
                rfl
            simp only [if_true, Bool.false_eq_true, if_false, x62, x68, Option.bind_some]
            by_cases a1 : 1 < n ∧ (if c0 = 240 then 144 else 128) ≤ c1 ∧ c1 ≤ (if c0 = 244 then 143 else 191)
            · have a1' : 1 < n ∧ (((if c0 = 240 then 144 else 128 : Nat) : Int)) ≤ (c1 : Int) ∧ (c1 : Int) ≤ (((if c0 = 244 then 143 else 191 : Nat) : Int)) := ⟨a1.1, Int.ofNat_le.2 a1.2.1, Int.ofNat_le.2 a1.2.2⟩
              rw [decide_eq_true a1']
              by_cases a2 : 2 < n ∧ 128 ≤ c2 ∧ c2 ≤ 191
              · have a2' : 2 < n ∧ (128 : Int) ≤ (c2 : Int) ∧ (c2 : Int) ≤ 191 := by omega
                rw [decide_eq_true a2']
                by_cases a3 : 3 < n ∧ 128 ≤ c3 ∧ c3 ≤ 191
                · have a3' : 3 < n ∧ (128 : Int) ≤ (c3 : Int) ∧ (c3 : Int) ≤ 191 := by omega
                  have q1 : (128 : Nat) ≤ if c0 = 240 then 144 else 128 := by split <;> omega
                  have k1 : 128 ≤ c1 := Nat.le_trans q1 a1.2.1
                  have g4 : (1 : Int) < (n : Int) := by omega
                  have g5 : (2 : Int) < (n : Int) := by omega
                  have g6 : (3 : Int) < (n : Int) := by omega
                  have w0 : IntKind.i64.wrap (IntKind.u8.wrap ((c0 : Int) - 240)) = ((c0 - 240 : Nat) : Int) := wrap8 (k := 240) (by omega) b0
                  have w1 : IntKind.i64.wrap (IntKind.u8.wrap ((c1 : Int) - 128)) = ((c1 - 128 : Nat) : Int) := wrap8 (k := 128) (by omega) b1
                  have w2 : IntKind.i64.wrap (IntKind.u8.wrap ((c2 : Int) - 128)) = ((c2 - 128 : Nat) : Int) := wrap8 (k := 128) (by omega) b2
                  have w3 : IntKind.i64.wrap (IntKind.u8.wrap ((c3 : Int) - 128)) = ((c3 - 128 : Nat) : Int) := wrap8 (k := 128) (by omega) b3
                  rw [decide_eq_true a3', if_pos (show (240 ≤ c0 ∧ c0 ≤ 244) ∧ (1 < n ∧ (if c0 = 240 then 144 else 128) ≤ c1 ∧ c1 ≤ (if c0 = 244 then 143 else 191)) ∧ (2 < n ∧ 128 ≤ c2 ∧ c2 ≤ 191) ∧ (3 < n ∧ 128 ≤ c3 ∧ c3 ≤ 191) from ⟨r4, a1, a2, a3⟩)]
                  simp only [if_true, Option.bind_some, if_pos g4, if_pos g5, if_pos g6, w0, w1, w2, w3]
                  rw [w64 (n := ((c0 - 240 : Nat) : Int) * 262144) (by omega) (by omega), w64 (n := ((c1 - 128 : Nat) : Int) * 4096) (by omega) (by omega), w64 (n := ((c2 - 128 : Nat) : Int) * 64) (by omega) (by omega), w64 (n := ((c0 - 240 : Nat) : Int) * 262144 + ((c1 - 128 : Nat) : Int) * 4096) (by omega) (by omega), w64 (n := ((c0 - 240 : Nat) : Int) * 262144 + ((c1 - 128 : Nat) : Int) * 4096 + ((c2 - 128 : Nat) : Int) * 64) (by omega) (by omega), w64 (by omega) (by omega)]
                  exact congrArg some (Prod.ext (by simp) rfl)
                · have a3' : ¬ (3 < n ∧ (128 : Int) ≤ (c3 : Int) ∧ (c3 : Int) ≤ 191) := by omega
                  rw [decide_eq_false a3', if_neg (show ¬ ((240 ≤ c0 ∧ c0 ≤ 244) ∧ (1 < n ∧ (if c0 = 240 then 144 else 128) ≤ c1 ∧ c1 ≤ (if c0 = 244 then 143 else 191)) ∧ (2 < n ∧ 128 ≤ c2 ∧ c2 ≤ 191) ∧ (3 < n ∧ 128 ≤ c3 ∧ c3 ≤ 191)) from fun x => a3 x.2.2.2)]
                  rfl
              · have a2' : ¬ (2 < n ∧ (128 : Int) ≤ (c2 : Int) ∧ (c2 : Int) ≤ 191) := by omega
                rw [decide_eq_false a2', if_neg (show ¬ ((240 ≤ c0 ∧ c0 ≤ 244) ∧ (1 < n ∧ (if c0 = 240 then 144 else 128) ≤ c1 ∧ c1 ≤ (if c0 = 244 then 143 else 191)) ∧ (2 < n ∧ 128 ≤ c2 ∧ c2 ≤ 191) ∧ (3 < n ∧ 128 ≤ c3 ∧ c3 ≤ 191)) from fun x => a2 x.2.2.1)]
                rfl
            · have a1' : ¬ (1 < n ∧ (((if c0 = 240 then 144 else 128 : Nat) : Int)) ≤ (c1 : Int) ∧ (c1 : Int) ≤ (((if c0 = 244 then 143 else 191 : Nat) : Int))) := fun x => a1 ⟨x.1, Int.ofNat_le.1 x.2.1, Int.ofNat_le.1 x.2.2⟩
              rw [decide_eq_false a1', if_neg (show ¬ ((240 ≤ c0 ∧ c0 ≤ 244) ∧ (1 < n ∧ (if c0 = 240 then 144 else 128) ≤ c1 ∧ c1 ≤ (if c0 = 244 then 143 else 191)) ∧ (2 < n ∧ 128 ≤ c2 ∧ c2 ≤ 191) ∧ (3 < n ∧ 128 ≤ c3 ∧ c3 ≤ 191)) from fun x => a1 x.2.1)]
              rfl
          · rw [if_neg (show ¬ ((240 ≤ c0 ∧ c0 ≤ 244) ∧ _) from fun x => r4 x.1)]
            by_cases g1 : (c0 : Int) ≥ 224
            · rw [decide_eq_true g1, decide_eq_false (show ¬ (c0 : Int) ≤ 239 by omega), decide_eq_true (show (c0 : Int) ≥ 240 by omega), decide_eq_false (show ¬ (c0 : Int) ≤ 244 by omega)]
              rfl
            · rw [decide_eq_false g1, decide_eq_false (show ¬ (c0 : Int) ≥ 240 by omega)]
              rfl
def rs : Nat → List UInt8 → List Int
  | 0, _ => []
  | k + 1, m => if m = [] then [] else ((first m).1 : Int) :: rs k (m.drop (first m).2)
theorem rs_len : ∀ (k : Nat) (m : List UInt8), (rs k m).length ≤ m.length
  | 0, _ => by simp [rs]
  | k + 1, m => by
    unfold rs
    split
    · simp
    · rename_i hm
      have h1 := first_wide (List.length_pos_iff.2 hm)
      have h2 := rs_len k (m.drop (first m).2)
      rw [List.length_drop] at h2
      simp only [List.length_cons]
      omega
theorem rrunes_from (fu : Nat) : ∀ (k : Nat) (m : List UInt8) (out : List Int), m.length ≤ k → out.length + m.length ≤ 900 → loopM (rickyardref04_Runes.s0 fu) (k + 1) (m, out) = some (out ++ rs k m)
  | 0, m, out, hk, _ => by
    obtain rfl : m = [] := List.eq_nil_of_length_eq_zero (by omega)
    simp [loopM, rickyardref04_Runes.s0, rs]
  | k + 1, m, out, hk, hl => by
    by_cases hm : m = []
    · subst hm
      simp [loopM, rickyardref04_Runes.s0, rs]
    · have hp := List.length_pos_iff.2 hm
      obtain ⟨h1, h2⟩ := first_wide hp
      have hst : rickyardref04_Runes.s0 fu (m, out) = some (.inr (m.drop (first m).2, out ++ [((first m).1 : Int)])) := by
        unfold rickyardref04_Runes.s0
        have c0 : (m.length : Int) > 0 := by omega
        have c1 : 0 ≤ ((first m).2 : Int) ∧ ((first m).2 : Int) ≤ (m.length : Int) := by omega
        have hlim : out.length + ([((first m).1 : Int)] : List Int).length ≤ LIM := lim_of' (by simp; omega)
        have ec : cut m ((first m).2 : Int) (m.length : Int) = m.drop (first m).2 := by
          unfold cut
          rw [Int.toNat_natCast, Int.toNat_natCast, List.take_length]
        simp only [c0, decide_true, if_true, first_eq hp, Option.bind_some, if_pos hlim, if_pos c1, ec]
      have hu : loopM (rickyardref04_Runes.s0 fu) (k + 1 + 1) (m, out) = loopM (rickyardref04_Runes.s0 fu) (k + 1) (m.drop (first m).2, out ++ [((first m).1 : Int)]) := by
        conv => lhs; unfold loopM
        rw [hst]
      rw [hu, rrunes_from fu k _ _ (by rw [List.length_drop]; omega) (by rw [List.length_append, List.length_drop]; simp; omega)]
      have : rs (k + 1) m = ((first m).1 : Int) :: rs k (m.drop (first m).2) := by
        conv => lhs; unfold rs
        rw [if_neg hm]
      rw [this]
      simp
theorem rrunes_eq {m : List UInt8} (hm : m.length ≤ 300) : rickyardref04_Runes.f 400 m = some (rs 399 m) := by
  unfold rickyardref04_Runes.f
  rw [rrunes_from 400 399 m [] (by omega) (by simp; omega)]
  rfl
def runeOk (r : Int) : Prop := (97 ≤ r ∧ r ≤ 122) ∨ (65 ≤ r ∧ r ≤ 90) ∨ (48 ≤ r ∧ r ≤ 57) ∨ r = 45 ∨ r = 95 ∨ (161 ≤ r ∧ r ≤ 65519)
instance (r : Int) : Decidable (runeOk r) := inferInstanceAs (Decidable (_ ∨ _))
theorem rof_eq (fu : Nat) (r : Int) : rickyardref04_Of.f fu r = some (decide (runeOk r)) := by
  unfold rickyardref04_Of.f
  simp only [decide_eq_true_eq]
  repeat' split
  all_goals apply congrArg some
  all_goals first
    | exact (decide_eq_true (by unfold runeOk; omega)).symm
    | exact (decide_eq_false (by unfold runeOk; omega)).symm
    | exact decide_eq_decide.2 (by unfold runeOk; omega)
theorem of_eq {fu : Nat} (r : Int) (hf : 100 < fu) : name_Of.f fu r = some (decide (runeOk r)) := by
  unfold name_Of.f name_spans.f
  rw [Option.bind_some]
  obtain ⟨A, hA⟩ : ∃ A, A = Arr.set (Arr.set (Arr.set (Arr.set (Arr.set (Arr.set (Arr.rep 6 (⟨(0 : Int), (0 : Int)⟩ : S_name_span)) 0 (⟨97, 122⟩ : S_name_span)) 1 (⟨65, 90⟩ : S_name_span)) 2 (⟨48, 57⟩ : S_name_span)) 3 (⟨45, 45⟩ : S_name_span)) 4 (⟨95, 95⟩ : S_name_span)) 5 (⟨161, 65519⟩ : S_name_span) := ⟨_, rfl⟩
  have g : Arr.get A ((0 : Nat) : Int) = ⟨97, 122⟩ ∧ Arr.get A ((1 : Nat) : Int) = ⟨65, 90⟩ ∧ Arr.get A ((2 : Nat) : Int) = ⟨48, 57⟩ ∧ Arr.get A ((3 : Nat) : Int) = ⟨45, 45⟩ ∧ Arr.get A ((4 : Nat) : Int) = ⟨95, 95⟩ ∧ Arr.get A ((5 : Nat) : Int) = ⟨161, 65519⟩ := by
    subst hA
    exact ⟨rfl, rfl, rfl, rfl, rfl, rfl⟩
  obtain ⟨g0, g1, g2, g3, g4, g5⟩ := g
  rw [← hA]
  have hs : ∀ j : Nat, j < 6 → name_Of.s0 fu r A (j : Int) = some (if (Arr.get A (j : Int)).first ≤ r ∧ r ≤ (Arr.get A (j : Int)).last then .inl (.inl true) else .inr ((j + 1 : Nat) : Int)) := by
    intro j hj
    unfold name_Of.s0
    have h1 : (j : Int) < 6 := by omega
    have c0 : 0 ≤ (j : Int) ∧ True := ⟨by omega, trivial⟩
    have w3 : IntKind.i64.wrap ((j : Int) + 1) = ((j + 1 : Nat) : Int) := by rw [w64 (by omega) (by omega)]; omega
    simp only [h1, decide_true, if_true, w3, if_pos c0]
    by_cases a1 : (Arr.get A (j : Int)).first ≤ r
    · by_cases a2 : r ≤ (Arr.get A (j : Int)).last <;> simp [a1, a2]
    · simp [a1]
  have six : ∀ p : Nat → Prop, (∀ j, j < 6 → p j) ↔ (p 0 ∧ p 1 ∧ p 2 ∧ p 3 ∧ p 4 ∧ p 5) := by
    intro p
    constructor
    · intro h
      exact ⟨h 0 (by omega), h 1 (by omega), h 2 (by omega), h 3 (by omega), h 4 (by omega), h 5 (by omega)⟩
    · rintro ⟨h0, h1, h2, h3, h4, h5⟩ j hj
      have : j = 0 ∨ j = 1 ∨ j = 2 ∨ j = 3 ∨ j = 4 ∨ j = 5 := by omega
      rcases this with rfl | rfl | rfl | rfl | rfl | rfl <;> assumption
  have hall : (∀ j : Nat, j < 6 → ¬ ((Arr.get A (j : Int)).first ≤ r ∧ r ≤ (Arr.get A (j : Int)).last)) ↔ ¬ runeOk r := by
    rw [six fun (j : Nat) => ¬ ((Arr.get A (j : Int)).first ≤ r ∧ r ≤ (Arr.get A (j : Int)).last)]
    rw [g0, g1, g2, g3, g4, g5]
    unfold runeOk
    simp only
    omega
  by_cases hr : runeOk r
  · have : loopM (name_Of.s0 fu r A) fu 0 = some (.inl true) := by
      refine loopM_bad (S := fun j => (j : Int)) 6 (fun j => ¬ ((Arr.get A (j : Int)).first ≤ r ∧ r ≤ (Arr.get A (j : Int)).last)) rfl ?_ (fun j hj _ hg => by rw [hs j hj, if_neg hg]) (fun j hj _ hg => by rw [hs j hj, if_pos (Classical.byContradiction hg)]) (by omega)
      apply Classical.byContradiction
      intro hx
      exact hall.1 (fun j hj hg => hx ⟨j, hj, fun q => q hg⟩) hr
    rw [this, decide_eq_true hr]
    rfl
  · have : loopM (name_Of.s0 fu r A) fu 0 = some (.inr ()) := by
      refine loopM_run (S := fun j => (j : Int)) 6 rfl (fun j hj => by rw [hs j hj, if_neg (hall.2 hr j hj)]) ?_ (by omega)
      unfold name_Of.s0
      simp
    rw [this, decide_eq_false hr]
    rfl
def NameOk (s : List UInt8) : Prop := (0 < (rs 399 s).length ∧ (rs 399 s).length ≤ 8) ∧ ∀ r ∈ rs 399 s, runeOk r
instance (s : List UInt8) : Decidable (NameOk s) := inferInstanceAs (Decidable (_ ∧ _))
theorem rname_eq {s : List UInt8} (hs : s.length ≤ 300) : rickyardref04_Right.f 400 s = some (decide (NameOk s)) := by
  unfold rickyardref04_Right.f
  rw [rrunes_eq hs, Option.bind_some]
  have hrl := rs_len 399 s
  have hL : NameOk s ↔ (0 < (rs 399 s).length ∧ (rs 399 s).length ≤ 8) ∧ ∀ r ∈ rs 399 s, runeOk r := Iff.rfl
  generalize rs 399 s = L at *
  have c0 : (if decide ((L.length : Int) > 0) = true then decide ((L.length : Int) ≤ 8) else false) = decide (0 < L.length ∧ L.length ≤ 8) := by
    by_cases h1 : (L.length : Int) > 0
    · rw [decide_eq_true h1, if_pos rfl]
      exact decide_eq_decide.2 (by omega)
    · rw [decide_eq_false h1, decide_eq_false (fun x : 0 < L.length ∧ L.length ≤ 8 => by have := x.1; omega)]
      rfl
  have cut0 : (if decide ((L.length : Int) > 0) = true then (loopM (rickyardref04_Right.s0 400 L) 400 (decide ((L.length : Int) ≤ 8), 0)).bind fun e5 => some e5 else (loopM (rickyardref04_Right.s1 400 L) 400 (false, 0)).bind fun e14 => some e14) = (loopM (rickyardref04_Right.s0 400 L) 400 ((if decide ((L.length : Int) > 0) = true then decide ((L.length : Int) ≤ 8) else false), 0)).bind fun e => some e := by
    generalize decide ((L.length : Int) > 0) = b
    cases b <;> rfl
  rw [cut0, c0]
  have hst : ∀ (b : Bool) (j : Nat), j < L.length → rickyardref04_Right.s0 400 L (b, (j : Int)) = some (.inr (b && decide (runeOk (ix L (j : Int))), ((j + 1 : Nat) : Int))) := by
    intro b j hj
    unfold rickyardref04_Right.s0
    have h1 : (j : Int) < (L.length : Int) := by omega
    have c1 : 0 ≤ (j : Int) ∧ True := ⟨by omega, trivial⟩
    have w3 : IntKind.i64.wrap ((j : Int) + 1) = ((j + 1 : Nat) : Int) := by rw [w64 (by omega) (by omega)]; omega
    simp only [h1, decide_true, if_true, if_pos c1, rof_eq, Option.bind_some, w3]
    cases b <;> rfl
  have hloop : loopM (rickyardref04_Right.s0 400 L) 400 (decide (0 < L.length ∧ L.length ≤ 8), 0) = some (decide (0 < L.length ∧ L.length ≤ 8) && (L.all fun r => decide (runeOk r))) := by
    refine loopM_run (S := fun j => (decide (0 < L.length ∧ L.length ≤ 8) && ((L.take j).all fun r => decide (runeOk r)), (j : Int))) L.length (by simp) (fun j hj => ?_) ?_ (by omega)
    · rw [hst _ j hj, List.take_add_one, List.getElem?_eq_getElem hj, ix_nat hj, List.all_append]
      simp [Bool.and_assoc]
    · unfold rickyardref04_Right.s0
      simp
  rw [hloop, Option.bind_some]
  congr 1
  rw [Bool.eq_iff_iff, decide_eq_true_eq, hL]
  simp only [Bool.and_eq_true, decide_eq_true_eq, List.all_eq_true]
theorem name_from {s : List UInt8} : ∀ (k : Nat) (i n : Nat), i ≤ s.length → (s.drop i).length ≤ k → n ≤ 8 →
    ∃ i' : Int, loopM (name_Right.s0 400 s) (k + 1) ((n : Int), (i : Int)) = some (if n + (rs k (s.drop i)).length ≤ 8 ∧ ∀ r ∈ rs k (s.drop i), runeOk r then .inr (((n + (rs k (s.drop i)).length : Nat) : Int), i') else .inl false)
  | 0, i, n, hi, hk, hn => by
    have hil : i = s.length := by rw [List.length_drop] at hk; omega
    subst hil
    refine ⟨(s.length : Int), ?_⟩
    simp [loopM, name_Right.s0, rs, hn]
  | k + 1, i, n, hi, hk, hn => by
    by_cases hil : i = s.length
    · subst hil
      refine ⟨(s.length : Int), ?_⟩
      simp [loopM, name_Right.s0, rs, hn]
    · have hlt : i < s.length := by omega
      have hm : s.drop i ≠ [] := fun e => by
        have := congrArg List.length e
        rw [List.length_drop] at this
        simp at this
        omega
      have hp := List.length_pos_iff.2 hm
      obtain ⟨h1, h2⟩ := first_wide hp
      rw [List.length_drop] at h2 hk
      obtain ⟨e1, e2⟩ := rune_first s i
      have hrs : rs (k + 1) (s.drop i) = ((first (s.drop i)).1 : Int) :: rs k (s.drop (i + (first (s.drop i)).2)) := by
        conv => lhs; unfold rs
        rw [if_neg hm, List.drop_drop]
      have w3 : IntKind.i64.wrap ((n : Int) + 1) = ((n + 1 : Nat) : Int) := by rw [w64 (by omega) (by omega)]; omega
      have c0 : (i : Int) < (s.length : Int) := by omega
      have hst : name_Right.s0 400 s ((n : Int), (i : Int)) = some (if n + 1 ≤ 8 ∧ runeOk ((first (s.drop i)).1 : Int) then .inr (((n + 1 : Nat) : Int), ((i + (first (s.drop i)).2 : Nat) : Int)) else .inl (.inl false)) := by
        unfold name_Right.s0
        have e3 : (i : Int) + ((first (s.drop i)).2 : Int) = ((i + (first (s.drop i)).2 : Nat) : Int) := by omega
        simp only [c0, decide_true, if_true, w3, e1, e2, e3, of_eq _ (show 100 < 400 by decide), Option.bind_some]
        by_cases a1 : ((n + 1 : Nat) : Int) > 8
        · rw [decide_eq_true a1, if_neg (show ¬ (n + 1 ≤ 8 ∧ runeOk ((first (s.drop i)).1 : Int)) from fun x => by have := x.1; omega)]
          rfl
        · rw [decide_eq_false a1]
          by_cases a2 : runeOk ((first (s.drop i)).1 : Int)
          · rw [decide_eq_true a2, if_pos (show n + 1 ≤ 8 ∧ runeOk ((first (s.drop i)).1 : Int) from ⟨by omega, a2⟩)]
            rfl
          · rw [decide_eq_false a2, if_neg (show ¬ (n + 1 ≤ 8 ∧ runeOk ((first (s.drop i)).1 : Int)) from fun x => a2 x.2)]
            rfl
      have hu : loopM (name_Right.s0 400 s) (k + 1 + 1) ((n : Int), (i : Int)) = (match name_Right.s0 400 s ((n : Int), (i : Int)) with | none => none | some (.inl e) => some e | some (.inr s') => loopM (name_Right.s0 400 s) (k + 1) s') := by
        conv => lhs; unfold loopM
        generalize name_Right.s0 400 s ((n : Int), (i : Int)) = q
        rcases q with _ | _ | _ <;> rfl
      rw [hu, hst]
      by_cases a : n + 1 ≤ 8 ∧ runeOk ((first (s.drop i)).1 : Int)
      · rw [if_pos a]
        obtain ⟨i', ih⟩ := name_from (s := s) k (i + (first (s.drop i)).2) (n + 1) (by omega) (by rw [List.length_drop]; omega) a.1
        refine ⟨i', ?_⟩
        simp only
        rw [ih, hrs]
        have hc : (n + 1 + (rs k (s.drop (i + (first (s.drop i)).2))).length ≤ 8 ∧ ∀ r ∈ rs k (s.drop (i + (first (s.drop i)).2)), runeOk r) ↔ (n + (((first (s.drop i)).1 : Int) :: rs k (s.drop (i + (first (s.drop i)).2))).length ≤ 8 ∧ ∀ r ∈ ((first (s.drop i)).1 : Int) :: rs k (s.drop (i + (first (s.drop i)).2)), runeOk r) := by
          simp only [List.length_cons, List.mem_cons, forall_eq_or_imp]
          constructor
          · rintro ⟨x, y⟩
            exact ⟨by omega, a.2, y⟩
          · rintro ⟨x, _, y⟩
            exact ⟨by omega, y⟩
        by_cases hq : n + 1 + (rs k (s.drop (i + (first (s.drop i)).2))).length ≤ 8 ∧ ∀ r ∈ rs k (s.drop (i + (first (s.drop i)).2)), runeOk r
        · rw [if_pos hq, if_pos (hc.1 hq)]
          congr 3
          simp only [List.length_cons]
          omega
        · rw [if_neg hq, if_neg (fun x => hq (hc.2 x))]
      · rw [if_neg a]
        refine ⟨0, ?_⟩
        simp only
        rw [hrs, if_neg]
        rintro ⟨x, y⟩
        simp only [List.length_cons] at x
        exact a ⟨by omega, y _ (List.mem_cons_self ..)⟩
theorem name_eq {s : List UInt8} (hs : s.length ≤ 300) : name_Right.f 400 s = some (decide (NameOk s)) := by
  unfold name_Right.f
  obtain ⟨i', h⟩ := name_from (s := s) 399 0 0 (by omega) (by rw [List.drop_zero]; omega) (by omega)
  rw [List.drop_zero] at h
  have h' : loopM (name_Right.s0 400 s) 400 (0, 0) = some (if 0 + (rs 399 s).length ≤ 8 ∧ ∀ r ∈ rs 399 s, runeOk r then .inr (((0 + (rs 399 s).length : Nat) : Int), i') else .inl false) := h
  rw [h']
  by_cases hq : 0 + (rs 399 s).length ≤ 8 ∧ ∀ r ∈ rs 399 s, runeOk r
  · rw [if_pos hq]
    simp only [Option.bind_some]
    congr 1
    apply decide_eq_decide.2
    unfold NameOk
    constructor
    · intro x
      exact ⟨⟨by omega, by omega⟩, hq.2⟩
    · intro x
      have := x.1.1
      omega
  · rw [if_neg hq, decide_eq_false (fun x : NameOk s => hq ⟨by have := x.1.2; omega, x.2⟩)]
    rfl
def numOk (x : Int) : Prop := 2 ≤ x ∧ x ≤ 3071
instance (x : Int) : Decidable (numOk x) := inferInstanceAs (Decidable (_ ∧ _))
theorem bnum_eq (fu : Nat) (x : Int) : label_blockNumber.f fu x = some (decide (numOk x)) := by
  unfold label_blockNumber.f
  by_cases h : x ≥ 2
  · by_cases h2 : x < 3072
    · rw [decide_eq_true h, decide_eq_true h2, decide_eq_true (show numOk x from ⟨h, by omega⟩)]
      rfl
    · rw [decide_eq_true h, decide_eq_false h2, decide_eq_false (fun y : numOk x => by have := y.2; omega)]
      rfl
  · rw [decide_eq_false h, decide_eq_false (fun y : numOk x => h y.1)]
    rfl
theorem rbnum_eq (fu : Nat) (x : Int) : rickyardref08_Block.f fu x = some (decide (numOk x)) := by
  unfold rickyardref08_Block.f
  by_cases h : x ≥ 2
  · by_cases h2 : x ≤ 3071
    · rw [decide_eq_true h, decide_eq_true h2, decide_eq_true (show numOk x from ⟨h, by omega⟩)]
      rfl
    · rw [decide_eq_true h, decide_eq_false h2, decide_eq_false (fun y : numOk x => h2 y.2)]
      rfl
  · rw [decide_eq_false h, decide_eq_false (fun y : numOk x => h y.1)]
    rfl
theorem among_eq {fu : Nat} {l : List Int} {x : Int} (hl : l.length ≤ 9000000000000000000) (hf : l.length < fu) : slices_Contains.f fu l x = some (decide (x ∈ l)) := by
  unfold slices_Contains.f
  have hs : ∀ j : Nat, j < l.length → slices_Index.s0 fu l x (j : Int) = some (if x ≠ ix l (j : Int) then .inr ((j + 1 : Nat) : Int) else .inl (.inl (j : Int))) := by
    intro j hj
    unfold slices_Index.s0
    have h1 : (j : Int) < (l.length : Int) := by omega
    have c0 : 0 ≤ (j : Int) := by omega
    have w3 : IntKind.i64.wrap ((j : Int) + 1) = ((j + 1 : Nat) : Int) := by rw [w64 (by omega) (by omega)]; omega
    simp only [h1, c0, and_self, decide_true, if_true, w3]
    by_cases e : x = ix l (j : Int) <;> simp [e]
  have hi : ∃ r : Int, slices_Index.f fu l x = some r ∧ (r ≥ 0 ↔ x ∈ l) := by
    unfold slices_Index.f
    by_cases hk : x ∈ l
    · have hmin : ∀ m j, j ≤ m → (j < l.length ∧ x = ix l (j : Int)) → ∃ q, (q < l.length ∧ x = ix l (q : Int)) ∧ ∀ i, i < q → x ≠ ix l (i : Int) := by
        intro m
        induction m with
        | zero =>
          intro j hj hjj
          exact ⟨j, hjj, fun i hi => by omega⟩
        | succ m ih =>
          intro j hj hjj
          by_cases hx : ∃ i, i < j ∧ x = ix l (i : Int)
          · obtain ⟨i, hi, hgi⟩ := hx
            exact ih i (by omega) ⟨by omega, hgi⟩
          · exact ⟨j, hjj, fun i hi hg => hx ⟨i, hi, hg⟩⟩
      obtain ⟨j, hj, hjx⟩ := List.getElem_of_mem hk
      obtain ⟨q, ⟨hq, hg⟩, hall⟩ := hmin j j (Nat.le_refl _) ⟨hj, by rw [ix_nat hj, hjx]⟩
      have : loopM (slices_Index.s0 fu l x) fu 0 = some (.inl (q : Int)) :=
        loopM_run (S := fun j => (j : Int)) q rfl (fun i hi => by rw [hs i (by omega), if_pos (hall i hi)]) (by rw [hs q hq, if_neg (fun h => h hg)]) (by omega)
      rw [this]
      refine ⟨(q : Int), rfl, ?_⟩
      simp only [hk, iff_true]
      omega
    · have : loopM (slices_Index.s0 fu l x) fu 0 = some (.inr ()) := by
        refine loopM_run (S := fun j => (j : Int)) l.length rfl (fun j hj => ?_) ?_ hf
        · rw [hs j hj, if_pos]
          intro e
          rw [ix_nat hj] at e
          exact hk (by rw [e]; exact List.getElem_mem hj)
        · unfold slices_Index.s0
          simp
      rw [this]
      exact ⟨-1, rfl, by simp [hk]⟩
  obtain ⟨r, hr, hrk⟩ := hi
  rw [hr]
  exact congrArg some (decide_eq_decide.2 hrk)
def dirAt (l : List Int) (j : Nat) : Prop := numOk (ix l (j : Int)) ∧ ix l (j : Int) ∉ l.take j
instance (l : List Int) (j : Nat) : Decidable (dirAt l j) := inferInstanceAs (Decidable (_ ∧ _))
def DirOk (l : List Int) : Prop := (1 ≤ l.length ∧ l.length ≤ 16) ∧ ∀ j, j < l.length → dirAt l j
instance (l : List Int) : Decidable (DirOk l) := inferInstanceAs (Decidable (_ ∧ _))
theorem dirRight_eq {fu : Nat} {l : List Int} (hf : 100 < fu) : label_RightDir.f fu ⟨l⟩ = some (decide (DirOk l)) := by
  unfold label_RightDir.f
  by_cases hl : 1 ≤ l.length ∧ l.length ≤ 16
  · have c1 : ¬ (l.length : Int) < 1 := by omega
    have c2 : ¬ (l.length : Int) > 16 := by omega
    have hs : ∀ j : Nat, j < l.length → label_RightDir.s0 fu ⟨l⟩ (j : Int) = some (if dirAt l j then .inr ((j + 1 : Nat) : Int) else .inl (.inl false)) := by
      intro j hj
      unfold label_RightDir.s0
      have h1 : (j : Int) < (l.length : Int) := by omega
      have h2 : (j : Int) ≤ (l.length : Int) := by omega
      have c0 : 0 ≤ (j : Int) := by omega
      have w3 : IntKind.i64.wrap ((j : Int) + 1) = ((j + 1 : Nat) : Int) := by rw [w64 (by omega) (by omega)]; omega
      have ec : cut l 0 (j : Int) = l.take j := by unfold cut; simp
      have hc : slices_Contains.f fu (l.take j) (ix l (j : Int)) = some (decide (ix l (j : Int) ∈ l.take j)) := among_eq (by rw [List.length_take]; omega) (by rw [List.length_take]; omega)
      simp only [h1, h2, c0, and_self, decide_true, if_true, w3, bnum_eq, Option.bind_some, ec, hc]
      unfold dirAt
      by_cases g1 : numOk (ix l (j : Int))
      · by_cases g2 : ix l (j : Int) ∈ l.take j <;> simp [g1, g2]
      · simp [g1]
    rw [decide_eq_false c1, decide_eq_false c2]
    simp only [Bool.false_eq_true, if_false]
    by_cases h : ∀ j, j < l.length → dirAt l j
    · have : loopM (label_RightDir.s0 fu ⟨l⟩) fu 0 = some (.inr ()) := by
        refine loopM_run (S := fun j => (j : Int)) l.length rfl (fun j hj => by rw [hs j hj, if_pos (h j hj)]) ?_ (by omega)
        unfold label_RightDir.s0
        simp
      have hD : DirOk l := ⟨hl, h⟩
      rw [this, decide_eq_true hD]
      rfl
    · have : loopM (label_RightDir.s0 fu ⟨l⟩) fu 0 = some (.inl false) := by
        refine loopM_bad (S := fun j => (j : Int)) l.length (fun j => dirAt l j) rfl ?_ (fun j hj _ hg => by rw [hs j hj, if_pos hg]) (fun j hj _ hg => by rw [hs j hj, if_neg hg]) (by omega)
        apply Classical.byContradiction
        intro hx
        exact h fun i hi => Classical.byContradiction fun hg => hx ⟨i, hi, hg⟩
      have hD : ¬ DirOk l := fun x => h x.2
      rw [this, decide_eq_false hD]
      rfl
  · have hD : ¬ DirOk l := fun x => hl x.1
    rw [decide_eq_false hD]
    by_cases c1 : (l.length : Int) < 1
    · rw [decide_eq_true c1]
      rfl
    · have c2 : (l.length : Int) > 16 := by omega
      rw [decide_eq_false c1, decide_eq_true c2]
      rfl
theorem rd2_eq {fu : Nat} {l : List Int} {out : List UInt8} {j : Nat} (hj : j < l.length) (hl : l.length ≤ 50) (hf : 100 < fu) : loopM (rickyardref11_Dir.s1 fu l (out, (j : Int))) fu 0 = some (if ix l (j : Int) ∉ l.take j then .inr () else .inl (.inl (.inl ([], false)))) := by
  have hs : ∀ i : Nat, i < j → rickyardref11_Dir.s1 fu l (out, (j : Int)) (i : Int) = some (if ix l (i : Int) ≠ ix l (j : Int) then .inr ((i + 1 : Nat) : Int) else .inl (.inl (.inl (.inl ([], false))))) := by
    intro i hi
    unfold rickyardref11_Dir.s1
    have h1 : (i : Int) < (j : Int) := by omega
    have h2 : (i : Int) < (l.length : Int) := by omega
    have h3 : (j : Int) < (l.length : Int) := by omega
    have c0 : 0 ≤ (i : Int) := by omega
    have c1 : 0 ≤ (j : Int) := by omega
    have w3 : IntKind.i64.wrap ((i : Int) + 1) = ((i + 1 : Nat) : Int) := by rw [w64 (by omega) (by omega)]; omega
    simp only [h1, h2, h3, c0, c1, and_self, decide_true, if_true, w3]
    by_cases e : ix l (i : Int) = ix l (j : Int) <;> simp [e]
  have hmem : ix l (j : Int) ∉ l.take j ↔ ∀ i, i < j → ix l (i : Int) ≠ ix l (j : Int) := by
    constructor
    · intro h i hi e
      apply h
      rw [← e, ix_nat (show i < l.length by omega)]
      exact List.mem_take_iff_getElem.2 ⟨i, by omega, rfl⟩
    · intro h hm
      obtain ⟨i, hi, he⟩ := List.mem_take_iff_getElem.1 hm
      exact h i (by omega) (by rw [ix_nat (show i < l.length by omega)]; exact he)
  by_cases h : ix l (j : Int) ∉ l.take j
  · rw [if_pos h]
    refine loopM_run (S := fun i => (i : Int)) j rfl (fun i hi => by rw [hs i hi, if_pos (hmem.1 h i hi)]) ?_ (by omega)
    unfold rickyardref11_Dir.s1
    simp
  · rw [if_neg h]
    refine loopM_bad (S := fun i => (i : Int)) j (fun i => ix l (i : Int) ≠ ix l (j : Int)) rfl ?_ (fun i hi _ hg => by rw [hs i hi, if_pos hg]) (fun i hi _ hg => by rw [hs i hi, if_neg hg]) (by omega)
    apply Classical.byContradiction
    intro hx
    exact h (hmem.2 fun i hi => Classical.byContradiction fun hg => hx ⟨i, hi, hg⟩)
theorem rdir_eq {fu : Nat} {l : List Int} (hf : 100 < fu) : rickyardref11_Dir.f fu l = some (if DirOk l then ((sealed (summed 6 (l.length : Int) (rowE l l.length))).map toB, true) else ([], false)) := by
  unfold rickyardref11_Dir.f
  by_cases hl : 1 ≤ l.length ∧ l.length ≤ 16
  · have c1 : ¬ (l.length : Int) < 1 := by omega
    have c2 : ¬ (l.length : Int) > 16 := by omega
    have hs : ∀ j : Nat, j < l.length → rickyardref11_Dir.s0 fu l ((rowE l j).map toB, (j : Int)) = some (if dirAt l j then .inr ((rowE l (j + 1)).map toB, ((j + 1 : Nat) : Int)) else .inl (.inl ([], false))) := by
      intro j hj
      unfold rickyardref11_Dir.s0
      have h1 : (j : Int) < (l.length : Int) := by omega
      have c0 : 0 ≤ (j : Int) := by omega
      have w3 : IntKind.i64.wrap ((j : Int) + 1) = ((j + 1 : Nat) : Int) := by rw [w64 (by omega) (by omega)]; omega
      have hlay : rickyardref01_Lay.f fu (IntKind.u64.wrap (ix l (j : Int))) 2 = some ((lay (u64n (ix l (j : Int))) 2).map toB) := rlay64 (n := 2) (by decide) (by omega)
      have hlim : ((rowE l j).map toB).length + ((lay (u64n (ix l (j : Int))) 2).map toB).length ≤ LIM := lim_of' (by rw [List.length_map, List.length_map, rowE_len, lay_len]; omega)
      have e : (rowE l (j + 1)).map toB = (rowE l j).map toB ++ (lay (u64n (ix l (j : Int))) 2).map toB := by rw [← List.map_append, rowE, rowE, flat_succ]
      simp only [h1, c0, and_self, decide_true, if_true, w3, rbnum_eq, Option.bind_some, rd2_eq (out := (rowE l j).map toB) hj (by omega) hf, hlay, hlim, e]
      by_cases g1 : numOk (ix l (j : Int))
      · by_cases g2 : ix l (j : Int) ∉ l.take j
        · rw [decide_eq_true g1, if_pos g2, if_pos (show dirAt l j from ⟨g1, g2⟩)]
          rfl
        · rw [decide_eq_true g1, if_neg g2, if_neg (show ¬ dirAt l j from fun x => g2 x.2)]
          rfl
      · rw [decide_eq_false g1, if_neg (show ¬ dirAt l j from fun x => g1 x.1)]
        rfl
    rw [decide_eq_false c1, decide_eq_false c2]
    simp only [Bool.false_eq_true, if_false]
    by_cases h : ∀ j, j < l.length → dirAt l j
    · have : loopM (rickyardref11_Dir.s0 fu l) fu ([], 0) = some (.inr ((rowE l l.length).map toB)) := by
        refine loopM_run (S := fun j => ((rowE l j).map toB, (j : Int))) l.length (by simp [rowE]) (fun j hj => by rw [hs j hj, if_pos (h j hj)]) ?_ (by omega)
        unfold rickyardref11_Dir.s0
        simp
      have hD : DirOk l := ⟨hl, h⟩
      have hq := rseal_eq (fu := fu) (k := 6) (t := (l.length : Int)) (rowE_bytes l l.length) (by omega) (by omega) (by rw [rowE_len]; omega) hf
      rw [this, if_pos hD]
      simp only [Option.bind_some, hq]
    · have : loopM (rickyardref11_Dir.s0 fu l) fu ([], 0) = some (.inl ([], false)) := by
        refine loopM_bad (S := fun j => ((rowE l j).map toB, (j : Int))) l.length (fun j => dirAt l j) (by simp [rowE]) ?_ (fun j hj _ hg => by rw [hs j hj, if_pos hg]) (fun j hj _ hg => by rw [hs j hj, if_neg hg]) (by omega)
        apply Classical.byContradiction
        intro hx
        exact h fun i hi => Classical.byContradiction fun hg => hx ⟨i, hi, hg⟩
      have hD : ¬ DirOk l := fun x => h x.2
      rw [this, if_neg hD]
      rfl
  · have hD : ¬ DirOk l := fun x => hl x.1
    rw [if_neg hD]
    by_cases c1 : (l.length : Int) < 1
    · rw [decide_eq_true c1]
      rfl
    · have c2 : (l.length : Int) > 16 := by omega
      rw [decide_eq_false c1, decide_eq_true c2]
      rfl
theorem dirPut_eq {fu : Nat} {l : List Int} (hf : 100 < fu) : label_PutDir.f fu ⟨l⟩ = some (if DirOk l then (sealed (summed 6 (l.length : Int) (rowE l l.length)), true) else ([], false)) := by
  unfold label_PutDir.f
  rw [dirRight_eq hf]
  by_cases h : DirOk l
  · have hl := h.1
    have hloop : loopM (label_PutDir.s0 fu ⟨l⟩) fu ([], 0) = some (rowE l l.length) := by
      refine loopM_run (S := fun j => (rowE l j, (j : Int))) l.length (by simp [rowE]) ?_ ?_ (by omega)
      · intro j hj
        unfold label_PutDir.s0
        have h1 : (j : Int) < (l.length : Int) := by omega
        have c0 : 0 ≤ (j : Int) := by omega
        have w3 : IntKind.i64.wrap ((j : Int) + 1) = ((j + 1 : Nat) : Int) := by rw [w64 (by omega) (by omega)]; omega
        have hlay : octet_Lay.f fu (IntKind.u64.wrap (ix l (j : Int))) 2 = some (lay (u64n (ix l (j : Int))) 2) := olay64 (n := 2) (by decide) (by omega)
        have hlim : (rowE l j).length + (lay (u64n (ix l (j : Int))) 2).length ≤ LIM := lim_of' (by rw [rowE_len, lay_len]; omega)
        simp only [h1, c0, and_self, decide_true, if_true, w3, hlay, Option.bind_some, hlim]
        rw [rowE, rowE, flat_succ]
      · unfold label_PutDir.s0
        simp
    have hq := seal_eq (fu := fu) (k := 6) (t := (l.length : Int)) (rowE_bytes l l.length) (by omega) (by omega) (by rw [rowE_len]; omega) hf
    simp only [h, decide_true, Bool.not_true, Bool.false_eq_true, if_false, Option.bind_some, hloop, hq, if_true]
  · simp [h]
def dirOf (body : List Int) (t : Nat) : List Int := (List.range t).map fun i => ((num (fieldAt body 2 i) : Nat) : Int)
theorem dirOf_len (body : List Int) (t : Nat) : (dirOf body t).length = t := by simp [dirOf]
theorem dirE_of {body : List Int} (hb : Bytes body) {t : Nat} (h : 2 * t ≤ body.length) : rowE (dirOf body t) t = body.take (2 * t) := by
  rw [← field_flat (w := 2) t h]
  apply flat_congr
  intro i hi
  unfold dirOf
  rw [ix_map hi]
  have hfl := fieldAt_len h hi
  have hfb := fieldAt_bytes hb 2 i
  have hn := num_lt hfb
  rw [hfl] at hn
  rw [u64n_of (by omega) (by omega), Int.toNat_natCast]
  have := lay_num hfb
  rwa [hfl] at this
def GetD (b : List Int) : Prop := Is b ∧ ix b 4 = 6 ∧ ix b 5 ≤ 16 ∧ DirOk (dirOf (b.drop 8) (ix b 5).toNat) ∧ ∀ y ∈ (b.drop 8).drop (2 * (ix b 5).toNat), y = 0
instance (b : List Int) : Decidable (GetD b) := inferInstanceAs (Decidable (_ ∧ _))
theorem dirGet_eq {fu : Nat} {b : List Int} (hb : Bytes b) (hl : b.length ≤ 9000000000000000000) (hf : 100 < fu) : label_GetDir.f fu b = some (if GetD b then (⟨dirOf (b.drop 8) (ix b 5).toNat⟩, true) else (⟨[]⟩, false)) := by
  unfold label_GetDir.f
  rw [open_eq hb hl hf]
  by_cases hi : Is b
  · have h8 := is_body hi
    obtain ⟨b4, b5⟩ := is_tag hb hi
    rw [if_pos hi]
    simp only [Option.bind_some, Bool.not_true, Bool.false_eq_true, if_false]
    by_cases h4 : ix b 4 = 6
    · by_cases h5 : ix b 5 ≤ 16
      · have h5' : ¬ ix b 5 > 16 := by omega
        obtain ⟨t, ht⟩ : ∃ t : Nat, ix b 5 = (t : Int) := ⟨(ix b 5).toNat, by omega⟩
        have hbd := hb.drop 8
        obtain ⟨body, hbody⟩ : ∃ body, body = b.drop 8 := ⟨_, rfl⟩
        rw [← hbody] at h8 hbd
        have hloop : loopM (label_GetDir.s0 fu (ix b 4, ix b 5, body, true)) fu (0, []) = some (dirOf body t) := by
          refine loopM_run (S := fun j => ((j : Int), dirOf body j)) t (by simp [dirOf]) ?_ ?_ (by omega)
          · intro j hj
            unfold label_GetDir.s0
            have h1 : (j : Int) < ix b 5 := by omega
            have w3 : IntKind.i64.wrap ((j : Int) + 1) = ((j + 1 : Nat) : Int) := by rw [w64 (by omega) (by omega)]; omega
            have w4 : IntKind.i64.wrap (2 * (j : Int)) = ((2 * j : Nat) : Int) := by rw [w64 (by omega) (by omega)]; omega
            have w5 : IntKind.i64.wrap (2 * ((j + 1 : Nat) : Int)) = ((2 * j + 2 : Nat) : Int) := by rw [w64 (by omega) (by omega)]; omega
            have hfl := fieldAt_len (l := body) (w := 2) (n := t) (by omega) hj
            have hfb := fieldAt_bytes hbd 2 j
            have hr : octet_Read.f fu (cut body ((2 * j : Nat) : Int) ((2 * j + 2 : Nat) : Int)) = some ((num (fieldAt body 2 j) : Nat) : Int) := by
              rw [cut_eq]
              have := read_eq (fu := fu) hfb (by omega) (by omega)
              exact this
            have w6 := num_small hfb (by omega)
            have c1 : (0 : Int) ≤ ((2 * j : Nat) : Int) ∧ ((2 * j : Nat) : Int) ≤ ((2 * j + 2 : Nat) : Int) ∧ ((2 * j + 2 : Nat) : Int) ≤ (body.length : Int) := by omega
            have hlim : (dirOf body j).length + ([((num (fieldAt body 2 j) : Nat) : Int)] : List Int).length ≤ LIM := lim_of' (by rw [dirOf_len]; simp; omega)
            simp only [h1, decide_true, if_true, w3, w4, w5, if_pos c1, hr, Option.bind_some, w6, if_pos hlim]
            simp [dirOf, List.range_succ]
          · unfold label_GetDir.s0
            simp [ht]
        have w1 : IntKind.i64.wrap (2 * (t : Int)) = ((2 * t : Nat) : Int) := by rw [w64 (by omega) (by omega)]; omega
        have w6 : IntKind.i64.wrap ((body.length : Int) - ((2 * t : Nat) : Int)) = ((56 - 2 * t : Nat) : Int) := by rw [w64 (by omega) (by omega)]; omega
        have hn := noughts_eq (fu := fu) (b := body) (i := 2 * t) (n := 56 - 2 * t) (by omega) (by omega) (by omega)
        have e8 : (body.drop (2 * t)).take (56 - 2 * t) = body.drop (2 * t) := List.take_of_length_le (by rw [List.length_drop, h8]; omega)
        rw [e8] at hn
        rw [← hbody]
        simp only [h4, h5', decide_true, decide_false, Bool.not_true, Bool.false_eq_true, if_false] at hloop ⊢
        simp only [ht, w1, w6, hn, Option.bind_some] at hloop ⊢
        simp only [hloop, dirRight_eq hf, Option.bind_some]
        have hgi : GetD b ↔ (DirOk (dirOf body t) ∧ ∀ y ∈ body.drop (2 * t), y = 0) := by
          unfold GetD
          rw [ht, ← hbody, Int.toNat_natCast]
          exact ⟨fun x => x.2.2.2, fun x => ⟨hi, h4, by omega, x⟩⟩
        rw [Int.toNat_natCast]
        by_cases hz : ∀ y ∈ body.drop (2 * t), y = 0
        · rw [decide_eq_true hz]
          by_cases hr : DirOk (dirOf body t)
          · rw [if_pos (hgi.2 ⟨hr, hz⟩), decide_eq_true hr]
            rfl
          · rw [if_neg (fun x => hr (hgi.1 x).1), decide_eq_false hr]
            rfl
        · rw [decide_eq_false hz, if_neg (fun x => hz (hgi.1 x).2)]
          rfl
      · have h5' : ix b 5 > 16 := by omega
        have hg : ¬ GetD b := fun x => h5 x.2.2.1
        rw [if_neg hg, decide_eq_true h4, decide_eq_true h5']
        rfl
    · have hg : ¬ GetD b := fun x => h4 x.2.1
      rw [if_neg hg, decide_eq_false h4]
      rfl
  · have hg : ¬ GetD b := fun x => hi x.1
    rw [if_neg hi, if_neg hg]
    rfl
theorem rdirGet_eq {fu : Nat} {b : List Int} (hb : Bytes b) (hf : 100 < fu) : rickyardref11_GetDir.f fu b = some (if GetD b then (dirOf (b.drop 8) (ix b 5).toNat, true) else ([], false)) := by
  unfold rickyardref11_GetDir.f
  rw [ropen_eq hb hf]
  by_cases hi : Is b
  · have h8 := is_body hi
    obtain ⟨b4, b5⟩ := is_tag hb hi
    rw [if_pos hi]
    simp only [Option.bind_some, Bool.not_true, Bool.false_eq_true, if_false]
    by_cases h4 : ix b 4 = 6
    · by_cases h5 : ix b 5 ≤ 16
      · have h5' : ¬ ix b 5 > 16 := by omega
        obtain ⟨t, ht⟩ : ∃ t : Nat, ix b 5 = (t : Int) := ⟨(ix b 5).toNat, by omega⟩
        have hbd := hb.drop 8
        obtain ⟨body, hbody⟩ : ∃ body, body = b.drop 8 := ⟨_, rfl⟩
        have hq0 : ∀ {k tg : Int} {bd : List Int}, (0 ≤ k ∧ k ≤ 255) → (0 ≤ tg ∧ tg ≤ 255) → Bytes bd → bd.length ≤ 56 → ((sealed (summed k tg bd)).map toB = b.map toB ↔ k = ix b 4 ∧ tg = ix b 5 ∧ bd ++ List.replicate (56 - bd.length) 0 = b.drop 8) := fun h1 h2 h3 h4 => sealed_map_iff hb hi h1 h2 h3 h4
        rw [← hbody] at h8 hbd
        have hloop : loopM (rickyardref11_GetDir.s0 fu (ix b 4, ix b 5, body.map toB, true)) fu ([], 0) = some (dirOf body t) := by
          refine loopM_run (S := fun j => (dirOf body j, (j : Int))) t (by simp [dirOf]) ?_ ?_ (by omega)
          · intro j hj
            unfold rickyardref11_GetDir.s0
            have h1 : (j : Int) < ix b 5 := by omega
            have w3 : IntKind.i64.wrap ((j : Int) + 1) = ((j + 1 : Nat) : Int) := by rw [w64 (by omega) (by omega)]; omega
            have w4 : IntKind.i64.wrap (2 * (j : Int)) = ((2 * j : Nat) : Int) := by rw [w64 (by omega) (by omega)]; omega
            have w5 : IntKind.i64.wrap (((2 * j : Nat) : Int) + 2) = ((2 * j + 2 : Nat) : Int) := by rw [w64 (by omega) (by omega)]; omega
            have hfl := fieldAt_len (l := body) (w := 2) (n := t) (by omega) hj
            have hfb := fieldAt_bytes hbd 2 j
            have hr : rickyardref01_Int.f fu (cut (body.map toB) ((2 * j : Nat) : Int) ((2 * j + 2 : Nat) : Int)) = some ((num (fieldAt body 2 j) : Nat) : Int) := by
              have := rintAt_eq (fu := fu) (b := body) (i := 2 * j) (n := 2) hbd (by omega) (by decide) hf
              rw [intAt_small hbd (by omega) (by decide)] at this
              exact this
            have c1 : (0 : Int) ≤ ((2 * j : Nat) : Int) ∧ ((2 * j : Nat) : Int) ≤ ((2 * j + 2 : Nat) : Int) ∧ ((2 * j + 2 : Nat) : Int) ≤ ((body.map toB).length : Int) := by rw [List.length_map]; omega
            have hlim : (dirOf body j).length + ([((num (fieldAt body 2 j) : Nat) : Int)] : List Int).length ≤ LIM := lim_of' (by rw [dirOf_len]; simp; omega)
            simp only [h1, decide_true, if_true, w3, w4, w5, if_pos c1, hr, Option.bind_some, if_pos hlim]
            simp [dirOf, List.range_succ]
          · unfold rickyardref11_GetDir.s0
            simp [ht]
        have hgi : GetD b ↔ (DirOk (dirOf body t) ∧ ∀ y ∈ body.drop (2 * t), y = 0) := by
          unfold GetD
          rw [ht, ← hbody, Int.toNat_natCast]
          exact ⟨fun x => x.2.2.2, fun x => ⟨hi, h4, by omega, x⟩⟩
        rw [← hbody]
        simp only [h4, h5', decide_true, decide_false, Bool.not_true, Bool.false_eq_true, if_false] at hloop ⊢
        rw [hloop]
        simp only [Option.bind_some, rdir_eq hf]
        have hq := hq0 (k := 6) (tg := (t : Int)) (bd := rowE (dirOf body t) t) (by omega) (by omega) (rowE_bytes _ _) (by rw [rowE_len]; omega)
        have hfl := full_iff (body := rowE (dirOf body t) t) (full := body) (by rw [rowE_len]; omega) h8
        rw [← hbody] at hq
        rw [rowE_len, dirE_of hbd (show 2 * t ≤ body.length by omega)] at hfl
        rw [rowE_len, dirE_of hbd (show 2 * t ≤ body.length by omega)] at hq
        rw [ht, Int.toNat_natCast, dirOf_len, dirE_of hbd (show 2 * t ≤ body.length by omega)]
        by_cases hr : DirOk (dirOf body t)
        · rw [if_pos hr]
          by_cases hz : ∀ y ∈ body.drop (2 * t), y = 0
          · rw [if_pos (hgi.2 ⟨hr, hz⟩)]
            simp only
            rw [decide_eq_true (hq.2 ⟨h4.symm, ht.symm, hfl.2 ⟨rfl, hz⟩⟩)]
            rfl
          · rw [if_neg (fun x => hz (hgi.1 x).2)]
            simp only
            rw [decide_eq_false (fun x => hz (hfl.1 (hq.1 x).2.2).2)]
            rfl
        · rw [if_neg hr, if_neg (fun x => hr (hgi.1 x).1)]
          rfl
      · have h5' : ix b 5 > 16 := by omega
        have hg : ¬ GetD b := fun x => h5 x.2.2.1
        rw [if_neg hg, decide_eq_true h4, decide_eq_true h5']
        rfl
    · have hg : ¬ GetD b := fun x => h4 x.2.1
      rw [if_neg hg, decide_eq_false h4]
      rfl
  · have hg : ¬ GetD b := fun x => hi x.1
    rw [if_neg hi, if_neg hg]
    rfl
theorem fst4_wide {c0 c1 c2 c3 n : Nat} : (fst4 c0 c1 c2 c3 n).2 ≤ 3 ∨ 65536 ≤ (fst4 c0 c1 c2 c3 n).1 := by
  unfold fst4
  by_cases h0 : c0 < 128
  · rw [if_pos h0]
    exact .inl (by simp)
  · rw [if_neg h0]
    by_cases h2 : (194 ≤ c0 ∧ c0 ≤ 223) ∧ (1 < n ∧ 128 ≤ c1 ∧ c1 ≤ 191)
    · rw [if_pos h2]
      exact .inl (by simp)
    · rw [if_neg h2]
      by_cases h3 : (224 ≤ c0 ∧ c0 ≤ 239) ∧ (1 < n ∧ (if c0 = 224 then 160 else 128) ≤ c1 ∧ c1 ≤ (if c0 = 237 then 159 else 191)) ∧ (2 < n ∧ 128 ≤ c2 ∧ c2 ≤ 191)
      · rw [if_pos h3]
        exact .inl (by simp)
      · rw [if_neg h3]
        by_cases h4 : (240 ≤ c0 ∧ c0 ≤ 244) ∧ (1 < n ∧ (if c0 = 240 then 144 else 128) ≤ c1 ∧ c1 ≤ (if c0 = 244 then 143 else 191)) ∧ (2 < n ∧ 128 ≤ c2 ∧ c2 ≤ 191) ∧ (3 < n ∧ 128 ≤ c3 ∧ c3 ≤ 191)
        · rw [if_pos h4]
          right
          have h5 := h4.1
          have h6 := h4.2.1.2.1
          simp only
          by_cases e : c0 = 240
          · rw [if_pos e] at h6
            omega
          · rw [if_neg e] at h6
            omega
        · rw [if_neg h4]
          exact .inl (by simp)
theorem rs_wide : ∀ (k : Nat) (m : List UInt8), m.length ≤ k → (∀ r ∈ rs k m, runeOk r) → m.length ≤ 3 * (rs k m).length
  | 0, m, hk, _ => by omega
  | k + 1, m, hk, h => by
    unfold rs at h ⊢
    by_cases hm : m = []
    · subst hm
      simp
    · rw [if_neg hm] at h ⊢
      have hp := List.length_pos_iff.2 hm
      obtain ⟨h1, h2⟩ := first_wide hp
      have ih := rs_wide k (m.drop (first m).2) (by rw [List.length_drop]; omega) fun r hr => h r (List.mem_cons_of_mem _ hr)
      have h0 := h _ List.mem_cons_self
      have hw : (first m).2 ≤ 3 := by
        rcases fst4_wide (c0 := oct m 0) (c1 := oct m 1) (c2 := oct m 2) (c3 := oct m 3) (n := m.length) with e | e
        · exact e
        · have e' : 65536 ≤ (first m).1 := e
          unfold runeOk at h0
          omega
      rw [List.length_drop] at ih
      rw [List.length_cons]
      omega
theorem NameOk.len {s : List UInt8} (h : NameOk s) (hs : s.length ≤ 300) : s.length ≤ 24 := by
  have := rs_wide 399 s (by omega) h.2
  have := h.1.2
  omega
theorem bit64 {c i : Nat} (hc : c < 9223372036854775808) (hi : i < 64) : bAnd .i64 (shR .i64 (c : Int) (i : Int)) 1 = ((c / 2 ^ i % 2 : Nat) : Int) := by
  have e1 : shR .i64 (c : Int) (i : Int) = ((c / 2 ^ i : Nat) : Int) := by
    unfold shR
    rw [Int.toNat_natCast, show min i IntKind.i64.bits = i from Nat.min_eq_left (by show i ≤ 64; omega)]
    rw [show ((2 : Int) ^ i) = ((2 ^ i : Nat) : Int) by push_cast; rfl]
    rw [Int.fdiv_eq_ediv_of_nonneg _ (Int.natCast_nonneg _)]
    rfl
  rw [e1]
  have hq : c / 2 ^ i < 9223372036854775808 := Nat.lt_of_le_of_lt (Nat.div_le_self _ _) hc
  generalize c / 2 ^ i = q at *
  unfold bAnd
  have e2 : (BitVec.ofInt IntKind.i64.bits (q : Int) &&& BitVec.ofInt IntKind.i64.bits 1).toNat = q % 2 := by
    rw [BitVec.toNat_and]
    have a1 : (BitVec.ofInt IntKind.i64.bits (q : Int)).toNat = q := by
      show (BitVec.ofInt 64 (q : Int)).toNat = q
      rw [BitVec.toNat_ofInt]
      omega
    have a2 : (BitVec.ofInt IntKind.i64.bits 1).toNat = 1 := rfl
    rw [a1, a2, Nat.and_one_is_mod]
  rw [e2, w64 (by omega) (by omega)]
def rootOk (c : Nat) (l : List Int) (i : Nat) : Prop := (c / 2 ^ i % 2 = 0 → ix l (i : Int) = 0) ∧ (c / 2 ^ i % 2 = 1 → numOk (ix l (i : Int)))
instance (c : Nat) (l : List Int) (i : Nat) : Decidable (rootOk c l i) := inferInstanceAs (Decidable (_ ∧ _))
def QueueOk (q : S_api_Queue) : Prop := NameOk q.Name ∧ (0 ≤ q.Count ∧ q.Count ≤ 4095) ∧ ∀ i, i < 12 → rootOk q.Count.toNat q.Roots.l i
instance (q : S_api_Queue) : Decidable (QueueOk q) := inferInstanceAs (Decidable (_ ∧ _))
theorem getIx {n : Nat} (a : Arr n Int) (i : Nat) : Arr.get a (i : Int) = ix a.l (i : Int) := rfl
theorem queue_head {q : S_api_Queue} (hs : q.Name.length ≤ 300) (K : Option Bool) : ((name_Right.f 400 q.Name : Option Bool).bind fun t1 => (if (!t1) = true then some false else (if (decide (q.Count < 0)) = true then some false else (if (decide (q.Count ≥ 4096)) = true then some false else K)))) = if NameOk q.Name ∧ (0 ≤ q.Count ∧ q.Count ≤ 4095) then K else some false := by
  rw [name_eq hs, Option.bind_some]
  by_cases h1 : NameOk q.Name
  · rw [decide_eq_true h1]
    by_cases h2 : q.Count < 0
    · rw [decide_eq_true h2, if_neg (fun x : NameOk q.Name ∧ (0 ≤ q.Count ∧ q.Count ≤ 4095) => by have := x.2.1; omega)]
      rfl
    · rw [decide_eq_false h2]
      by_cases h3 : q.Count ≥ 4096
      · rw [decide_eq_true h3, if_neg (fun x : NameOk q.Name ∧ (0 ≤ q.Count ∧ q.Count ≤ 4095) => by have := x.2.2; omega)]
        rfl
      · rw [decide_eq_false h3, if_pos (show NameOk q.Name ∧ (0 ≤ q.Count ∧ q.Count ≤ 4095) from ⟨h1, by omega, by omega⟩)]
        rfl
  · rw [decide_eq_false h1, if_neg (fun x : NameOk q.Name ∧ (0 ≤ q.Count ∧ q.Count ≤ 4095) => h1 x.1)]
    rfl
theorem rqueue_head {q : S_api_Queue} (hs : q.Name.length ≤ 300) (K : Option Bool) : ((rickyardref04_Right.f 400 q.Name : Option Bool).bind fun t1 => (if (!t1) = true then some false else (if (decide (q.Count < 0)) = true then some false else (if (decide (q.Count > 4095)) = true then some false else K)))) = if NameOk q.Name ∧ (0 ≤ q.Count ∧ q.Count ≤ 4095) then K else some false := by
  rw [rname_eq hs, Option.bind_some]
  by_cases h1 : NameOk q.Name
  · rw [decide_eq_true h1]
    by_cases h2 : q.Count < 0
    · rw [decide_eq_true h2, if_neg (fun x : NameOk q.Name ∧ (0 ≤ q.Count ∧ q.Count ≤ 4095) => by have := x.2.1; omega)]
      rfl
    · rw [decide_eq_false h2]
      by_cases h3 : q.Count > 4095
      · rw [decide_eq_true h3, if_neg (fun x : NameOk q.Name ∧ (0 ≤ q.Count ∧ q.Count ≤ 4095) => by have := x.2.2; omega)]
        rfl
      · rw [decide_eq_false h3, if_pos (show NameOk q.Name ∧ (0 ≤ q.Count ∧ q.Count ≤ 4095) from ⟨h1, by omega, by omega⟩)]
        rfl
  · rw [decide_eq_false h1, if_neg (fun x : NameOk q.Name ∧ (0 ≤ q.Count ∧ q.Count ≤ 4095) => h1 x.1)]
    rfl
theorem queueRight_eq {q : S_api_Queue} (hs : q.Name.length ≤ 300) : label_RightQueue.f 400 q = some (decide (QueueOk q)) := by
  unfold label_RightQueue.f
  rw [queue_head hs]
  by_cases hh : NameOk q.Name ∧ (0 ≤ q.Count ∧ q.Count ≤ 4095)
  · rw [if_pos hh]
    obtain ⟨c, hc⟩ : ∃ c : Nat, q.Count = (c : Int) := ⟨q.Count.toNat, by omega⟩
    have hst : ∀ j : Nat, j < 12 → label_RightQueue.s0 400 q (j : Int) = some (if rootOk c q.Roots.l j then .inr ((j + 1 : Nat) : Int) else .inl (.inl false)) := by
      intro j hj
      unfold label_RightQueue.s0
      have h1 : (j : Int) < 12 := by omega
      have c0 : 0 ≤ (j : Int) := by omega
      have c1 : 0 ≤ (j : Int) ∧ (j : Int) < 12 := by omega
      have w3 : IntKind.i64.wrap ((j : Int) + 1) = ((j + 1 : Nat) : Int) := by rw [w64 (by omega) (by omega)]; omega
      have hb := bit64 (c := c) (i := j) (by omega) (by omega)
      rw [hc, hb]
      simp only [h1, c0, decide_true, if_true, if_pos c1, w3, bnum_eq, Option.bind_some, getIx]
      have hm : c / 2 ^ j % 2 = 0 ∨ c / 2 ^ j % 2 = 1 := by omega
      rcases hm with e | e
      · have hr : rootOk c q.Roots.l j ↔ ix q.Roots.l (j : Int) = 0 := ⟨fun x => x.1 e, fun z => ⟨fun _ => z, fun e' => by omega⟩⟩
        rw [e]
        by_cases z : ix q.Roots.l (j : Int) = 0
        · rw [if_pos (hr.2 z)]
          simp [z]
        · rw [if_neg (fun x => z (hr.1 x))]
          simp [z]
      · have hr : rootOk c q.Roots.l j ↔ numOk (ix q.Roots.l (j : Int)) := ⟨fun x => x.2 e, fun z => ⟨fun e' => by omega, fun _ => z⟩⟩
        rw [e]
        by_cases z : numOk (ix q.Roots.l (j : Int))
        · rw [if_pos (hr.2 z)]
          simp [z]
        · rw [if_neg (fun x => z (hr.1 x))]
          simp [z]
    have hQ : QueueOk q ↔ ∀ i, i < 12 → rootOk c q.Roots.l i := by
      unfold QueueOk
      rw [hc, Int.toNat_natCast, ← hc]
      exact ⟨fun x => x.2.2, fun x => ⟨hh.1, hh.2, x⟩⟩
    by_cases hall : ∀ i, i < 12 → rootOk c q.Roots.l i
    · have : loopM (label_RightQueue.s0 400 q) 400 0 = some (.inr ()) := by
        refine loopM_run (S := fun j => (j : Int)) 12 rfl (fun j hj => by rw [hst j hj, if_pos (hall j hj)]) ?_ (by omega)
        unfold label_RightQueue.s0
        simp
      rw [this, decide_eq_true (hQ.2 hall)]
      rfl
    · have : loopM (label_RightQueue.s0 400 q) 400 0 = some (.inl false) := by
        refine loopM_bad (S := fun j => (j : Int)) 12 (fun j => rootOk c q.Roots.l j) rfl ?_ (fun j hj _ hg => by rw [hst j hj, if_pos hg]) (fun j hj _ hg => by rw [hst j hj, if_neg hg]) (by omega)
        apply Classical.byContradiction
        intro hx
        exact hall fun i hi => Classical.byContradiction fun hg => hx ⟨i, hi, hg⟩
      rw [this, decide_eq_false (fun x => hall (hQ.1 x))]
      rfl
  · rw [if_neg hh, decide_eq_false (fun x : QueueOk q => hh ⟨x.1, x.2.1⟩)]
theorem rqueueRight_eq {q : S_api_Queue} (hs : q.Name.length ≤ 300) : rickyardref11_Right.f 400 q = some (decide (QueueOk q)) := by
  unfold rickyardref11_Right.f
  rw [rqueue_head hs]
  by_cases hh : NameOk q.Name ∧ (0 ≤ q.Count ∧ q.Count ≤ 4095)
  · rw [if_pos hh]
    obtain ⟨c, hc⟩ : ∃ c : Nat, q.Count = (c : Int) := ⟨q.Count.toNat, by omega⟩
    have hst : ∀ j : Nat, j < 12 → rickyardref11_Right.s0 400 q (((c / 2 ^ j : Nat) : Int), (j : Int)) = some (if rootOk c q.Roots.l j then .inr (((c / 2 ^ (j + 1) : Nat) : Int), ((j + 1 : Nat) : Int)) else .inl (.inl false)) := by
      intro j hj
      unfold rickyardref11_Right.s0
      have h1 : (j : Int) < 12 := by omega
      have c1 : 0 ≤ (j : Int) ∧ (j : Int) < 12 := by omega
      have w3 : IntKind.i64.wrap ((j : Int) + 1) = ((j + 1 : Nat) : Int) := by rw [w64 (by omega) (by omega)]; omega
      have hle : c / 2 ^ j ≤ c := Nat.div_le_self _ _
      have hd : c / 2 ^ (j + 1) = c / 2 ^ j / 2 := by rw [Nat.pow_succ, Nat.div_div_eq_div_mul]
      rw [hd]
      obtain ⟨u, hu⟩ : ∃ u, u = c / 2 ^ j := ⟨_, rfl⟩
      rw [← hu] at hle ⊢
      have w4 : IntKind.i64.wrap (Int.tdiv (u : Int) 2) = ((u / 2 : Nat) : Int) := by
        rw [show Int.tdiv (u : Int) 2 = ((u / 2 : Nat) : Int) from rfl, w64 (by omega) (by omega)]
      have hmo : Int.tmod (u : Int) 2 = ((u % 2 : Nat) : Int) := rfl
      simp only [h1, decide_true, if_true, if_pos c1, w3, w4, hmo, rbnum_eq, Option.bind_some, getIx]
      have hm : u % 2 = 0 ∨ u % 2 = 1 := by omega
      rcases hm with e | e
      · have hr : rootOk c q.Roots.l j ↔ ix q.Roots.l (j : Int) = 0 := ⟨fun x => x.1 (by rw [← hu]; exact e), fun z => ⟨fun _ => z, fun e' => by rw [← hu] at e'; omega⟩⟩
        rw [e]
        by_cases z : ix q.Roots.l (j : Int) = 0
        · rw [if_pos (hr.2 z)]
          simp [z]
        · rw [if_neg (fun x => z (hr.1 x))]
          simp [z]
      · have hr : rootOk c q.Roots.l j ↔ numOk (ix q.Roots.l (j : Int)) := ⟨fun x => x.2 (by rw [← hu]; exact e), fun z => ⟨fun e' => by rw [← hu] at e'; omega, fun _ => z⟩⟩
        rw [e]
        by_cases z : numOk (ix q.Roots.l (j : Int))
        · rw [if_pos (hr.2 z)]
          simp [z]
        · rw [if_neg (fun x => z (hr.1 x))]
          simp [z]
    have hQ : QueueOk q ↔ ∀ i, i < 12 → rootOk c q.Roots.l i := by
      unfold QueueOk
      rw [hc, Int.toNat_natCast, ← hc]
      exact ⟨fun x => x.2.2, fun x => ⟨hh.1, hh.2, x⟩⟩
    have h0 : (q.Count, (0 : Int)) = (((c / 2 ^ 0 : Nat) : Int), ((0 : Nat) : Int)) := by rw [hc]; simp
    by_cases hall : ∀ i, i < 12 → rootOk c q.Roots.l i
    · have : loopM (rickyardref11_Right.s0 400 q) 400 (q.Count, 0) = some (.inr ()) := by
        refine loopM_run (S := fun j => (((c / 2 ^ j : Nat) : Int), (j : Int))) 12 h0.symm (fun j hj => by rw [hst j hj, if_pos (hall j hj)]) ?_ (by omega)
        unfold rickyardref11_Right.s0
        simp
      rw [this, decide_eq_true (hQ.2 hall)]
      rfl
    · have : loopM (rickyardref11_Right.s0 400 q) 400 (q.Count, 0) = some (.inl false) := by
        refine loopM_bad (S := fun j => (((c / 2 ^ j : Nat) : Int), (j : Int))) 12 (fun j => rootOk c q.Roots.l j) h0.symm ?_ (fun j hj _ hg => by rw [hst j hj, if_pos hg]) (fun j hj _ hg => by rw [hst j hj, if_neg hg]) (by omega)
        apply Classical.byContradiction
        intro hx
        exact hall fun i hi => Classical.byContradiction fun hg => hx ⟨i, hi, hg⟩
      rw [this, decide_eq_false (fun x => hall (hQ.1 x))]
      rfl
  · rw [if_neg hh, decide_eq_false (fun x : QueueOk q => hh ⟨x.1, x.2.1⟩)]
theorem octs_bytes (s : List UInt8) : Bytes (s.map ofB) := by
  intro x hx
  obtain ⟨b, _, rfl⟩ := List.mem_map.1 hx
  have := b.toNat_lt
  unfold ofB
  omega
theorem octs_back (s : List UInt8) : (s.map ofB).map toB = s := by
  rw [List.map_map]
  have : ∀ b ∈ s, (toB ∘ ofB) b = b := by
    intro b _
    show UInt8.ofNat (Int.toNat ((b.toNat : Nat) : Int)) = b
    rw [Int.toNat_natCast]
    exact UInt8.ofNat_toNat
  rw [List.map_congr_left this, List.map_id']
def queueE (q : S_api_Queue) : List Int := (lay (u64n q.Count) 4 ++ rowE q.Roots.l 12) ++ q.Name.map ofB
theorem queueE_len (q : S_api_Queue) : (queueE q).length = 28 + q.Name.length := by
  simp [queueE, lay_len, rowE_len]
  omega
theorem queueE_bytes (q : S_api_Queue) : Bytes (queueE q) := ((lay_bytes _ _).app (rowE_bytes _ _)).app (octs_bytes _)
theorem QueueOk.len {q : S_api_Queue} (h : QueueOk q) (hs : q.Name.length ≤ 300) : q.Name.length ≤ 24 := NameOk.len h.1 hs
theorem queuePut_eq {q : S_api_Queue} (hs : q.Name.length ≤ 300) : label_PutQueue.f 400 q = some (if QueueOk q then (sealed (summed 5 (q.Name.length : Int) (queueE q)), true) else ([], false)) := by
  unfold label_PutQueue.f
  rw [queueRight_eq hs]
  by_cases h : QueueOk q
  · have hl := h.len hs
    have hlay0 : octet_Lay.f 400 (IntKind.u64.wrap q.Count) 4 = some (lay (u64n q.Count) 4) := olay64 (n := 4) (by decide) (by decide)
    have hloop : loopM (label_PutQueue.s0 400 q) 400 (lay (u64n q.Count) 4, 0) = some (lay (u64n q.Count) 4 ++ rowE q.Roots.l 12) := by
      refine loopM_run (S := fun j => (lay (u64n q.Count) 4 ++ rowE q.Roots.l j, (j : Int))) 12 (by simp [rowE]) ?_ ?_ (by omega)
      · intro j hj
        unfold label_PutQueue.s0
        have h1 : (j : Int) < 12 := by omega
        have c1 : 0 ≤ (j : Int) ∧ (j : Int) < 12 := by omega
        have w3 : IntKind.i64.wrap ((j : Int) + 1) = ((j + 1 : Nat) : Int) := by rw [w64 (by omega) (by omega)]; omega
        have hlay : octet_Lay.f 400 (IntKind.u64.wrap (ix q.Roots.l (j : Int))) 2 = some (lay (u64n (ix q.Roots.l (j : Int))) 2) := olay64 (n := 2) (by decide) (by omega)
        have hlim : (lay (u64n q.Count) 4 ++ rowE q.Roots.l j).length + (lay (u64n (ix q.Roots.l (j : Int))) 2).length ≤ LIM := lim_of' (by rw [List.length_append, rowE_len, lay_len, lay_len]; omega)
        have c0 : 0 ≤ (j : Int) := c1.1
        simp only [h1, c0, and_self, decide_true, if_true, w3, getIx, hlay, Option.bind_some, if_pos hlim]
        rw [rowE, rowE, flat_succ, List.append_assoc]
      · unfold label_PutQueue.s0
        simp
    have hlim : (lay (u64n q.Count) 4 ++ rowE q.Roots.l 12).length + q.Name.length ≤ LIM := lim_of' (by rw [List.length_append, rowE_len, lay_len]; omega)
    have hq := seal_eq (fu := 400) (k := 5) (t := (q.Name.length : Int)) (queueE_bytes q) (by omega) (by omega) (by rw [queueE_len]; omega) (by decide)
    unfold queueE at hq
    unfold queueE
    simp only [h, decide_true, Bool.not_true, Bool.false_eq_true, if_false, Option.bind_some, hlay0, hloop, if_pos hlim, hq, if_true]
  · simp [h]
theorem rqueuePut_eq {q : S_api_Queue} (hl : q.Name.length ≤ 28) : rickyardref11_Put.f 400 q = some ((sealed (summed 5 (q.Name.length : Int) (queueE q))).map toB) := by
  unfold rickyardref11_Put.f
  have hlay0 : rickyardref01_Lay.f 400 (IntKind.u64.wrap q.Count) 4 = some ((lay (u64n q.Count) 4).map toB) := rlay64 (n := 4) (by decide) (by decide)
  have hloop : loopM (rickyardref11_Put.s0 400 q) 400 ((lay (u64n q.Count) 4).map toB, 0) = some ((lay (u64n q.Count) 4 ++ rowE q.Roots.l 12).map toB) := by
    refine loopM_run (S := fun j => ((lay (u64n q.Count) 4 ++ rowE q.Roots.l j).map toB, (j : Int))) 12 (by simp [rowE]) ?_ ?_ (by omega)
    · intro j hj
      unfold rickyardref11_Put.s0
      have h1 : (j : Int) < 12 := by omega
      have c1 : 0 ≤ (j : Int) ∧ (j : Int) < 12 := by omega
      have w3 : IntKind.i64.wrap ((j : Int) + 1) = ((j + 1 : Nat) : Int) := by rw [w64 (by omega) (by omega)]; omega
      have hlay : rickyardref01_Lay.f 400 (IntKind.u64.wrap (ix q.Roots.l (j : Int))) 2 = some ((lay (u64n (ix q.Roots.l (j : Int))) 2).map toB) := rlay64 (n := 2) (by decide) (by omega)
      have hlim : ((lay (u64n q.Count) 4 ++ rowE q.Roots.l j).map toB).length + ((lay (u64n (ix q.Roots.l (j : Int))) 2).map toB).length ≤ LIM := lim_of' (by rw [List.length_map, List.length_map, List.length_append, rowE_len, lay_len, lay_len]; omega)
      have c0 : 0 ≤ (j : Int) := c1.1
      simp only [h1, c0, and_self, decide_true, if_true, w3, getIx, hlay, Option.bind_some, if_pos hlim]
      rw [← List.map_append, rowE, rowE, flat_succ, List.append_assoc]
    · unfold rickyardref11_Put.s0
      simp
  have hlim : ((lay (u64n q.Count) 4 ++ rowE q.Roots.l 12).map toB).length + q.Name.length ≤ LIM := lim_of' (by rw [List.length_map, List.length_append, rowE_len, lay_len]; omega)
  have hq := rseal_eq (fu := 400) (k := 5) (t := (q.Name.length : Int)) (queueE_bytes q) (by omega) (by omega) (by rw [queueE_len]; omega) (by decide)
  have e : (lay (u64n q.Count) 4 ++ rowE q.Roots.l 12).map toB ++ q.Name = (queueE q).map toB := by
    unfold queueE
    rw [List.map_append (l₁ := lay (u64n q.Count) 4 ++ rowE q.Roots.l 12), octs_back]
  simp only [hlay0, Option.bind_some, hloop, if_pos hlim, e, hq]
def rootsOf (body : List Int) : Arr 12 Int := fillA (fun i => intAt body (4 + 2 * i) 2) (Arr.rep 12 (0 : Int)) 12
def queueOf (body : List Int) (t : Nat) : S_api_Queue := ⟨(part body 28 t).map toB, intAt body 0 4, rootsOf body⟩
theorem rootsOf_l (body : List Int) : (rootsOf body).l = (List.range 12).map fun i => intAt body (4 + 2 * i) 2 := fillA_all _ _
theorem queueE_of {body : List Int} (hb : Bytes body) {t : Nat} (h : 28 + t ≤ body.length) : queueE (queueOf body t) = body.take (28 + t) := by
  unfold queueE queueOf
  have e1 : lay (u64n (intAt body 0 4)) 4 = part body 0 4 := lay_part hb (by omega) (by decide)
  have e2 : rowE (rootsOf body).l 12 = part body 4 24 := by
    have : part body 4 24 = (List.range 12).flatMap (fieldAt (body.drop 4) 2) := (field_flat (w := 2) 12 (by rw [List.length_drop]; omega)).symm
    rw [this]
    apply flat_congr
    intro i hi
    rw [rootsOf_l, ix_map hi]
    have := lay_part (l := body) (i := 4 + 2 * i) (n := 2) hb (by omega) (by decide)
    rw [this]
    unfold part fieldAt
    rw [List.drop_drop]
  have e3 : ((part body 28 t).map toB).map ofB = part body 28 t := of_toB (part_bytes hb 28 t)
  rw [e1, e2, e3]
  unfold part
  rw [List.drop_zero, ← List.take_add, ← List.take_add]
def noQ : S_api_Queue := ⟨[], 0, Arr.rep 12 (0 : Int)⟩
def GetQ (b : List Int) : Prop := Is b ∧ ix b 4 = 5 ∧ ix b 5 ≤ 24 ∧ QueueOk (queueOf (b.drop 8) (ix b 5).toNat) ∧ ∀ y ∈ (b.drop 8).drop (28 + (ix b 5).toNat), y = 0
instance (b : List Int) : Decidable (GetQ b) := inferInstanceAs (Decidable (_ ∧ _))
theorem queueGet_eq {b : List Int} (hb : Bytes b) (hl : b.length ≤ 9000000000000000000) : label_GetQueue.f 400 b = some (if GetQ b then (queueOf (b.drop 8) (ix b 5).toNat, true) else (noQ, false)) := by
  unfold label_GetQueue.f
  rw [open_eq hb hl (by decide)]
  by_cases hi : Is b
  · have h8 := is_body hi
    obtain ⟨b4, b5⟩ := is_tag hb hi
    rw [if_pos hi]
    simp only [Option.bind_some, Bool.not_true, Bool.false_eq_true, if_false]
    by_cases h4 : ix b 4 = 5
    · by_cases h5 : ix b 5 ≤ 24
      · have h5' : ¬ ix b 5 > 24 := by omega
        obtain ⟨t, ht⟩ : ∃ t : Nat, ix b 5 = (t : Int) := ⟨(ix b 5).toNat, by omega⟩
        have hbd := hb.drop 8
        obtain ⟨body, hbody⟩ : ∃ body, body = b.drop 8 := ⟨_, rfl⟩
        rw [← hbody] at h8 hbd
        have hloop : loopM (label_GetQueue.s0 400 (ix b 4, ix b 5, body, true)) 400 (0, ⟨(part body 28 t).map toB, intAt body 0 4, Arr.rep 12 (0 : Int)⟩) = some (queueOf body t) := by
          refine loopM_run (S := fun j => ((j : Int), (⟨(part body 28 t).map toB, intAt body 0 4, fillA (fun i => intAt body (4 + 2 * i) 2) (Arr.rep 12 (0 : Int)) j⟩ : S_api_Queue))) 12 rfl ?_ ?_ (by omega)
          · intro j hj
            unfold label_GetQueue.s0
            have h1 : (j : Int) < 12 := by omega
            have cj : 0 ≤ (j : Int) ∧ (j : Int) < 12 := by omega
            have w3 : IntKind.i64.wrap ((j : Int) + 1) = ((j + 1 : Nat) : Int) := by rw [w64 (by omega) (by omega)]; omega
            have w4 : IntKind.i64.wrap (4 + IntKind.i64.wrap (2 * (j : Int))) = ((4 + 2 * j : Nat) : Int) := by rw [w64 (n := 2 * (j : Int)) (by omega) (by omega), w64 (by omega) (by omega)]; omega
            have w5 : IntKind.i64.wrap (((4 + 2 * j : Nat) : Int) + 2) = ((4 + 2 * j + 2 : Nat) : Int) := by rw [w64 (by omega) (by omega)]; omega
            have hpl := part_len (l := body) (i := 4 + 2 * j) (n := 2) (by omega)
            have hr : octet_Read.f 400 (cut body ((4 + 2 * j : Nat) : Int) ((4 + 2 * j + 2 : Nat) : Int)) = some ((num (part body (4 + 2 * j) 2) : Nat) : Int) := by
              have := read_eq (fu := 400) (part_bytes hbd (4 + 2 * j) 2) (by omega) (by omega)
              rw [cut_eq]
              exact this
            have c1 : (0 : Int) ≤ ((4 + 2 * j : Nat) : Int) ∧ ((4 + 2 * j : Nat) : Int) ≤ ((4 + 2 * j + 2 : Nat) : Int) ∧ ((4 + 2 * j + 2 : Nat) : Int) ≤ (body.length : Int) := by omega
            simp only [h1, decide_true, if_true, w3, w4, w5, if_pos c1, hr, Option.bind_some, if_pos cj]
            rfl
          · unfold label_GetQueue.s0
            simp [queueOf, rootsOf]
        have w1 : IntKind.i64.wrap (28 + (t : Int)) = ((28 + t : Nat) : Int) := by rw [w64 (by omega) (by omega)]; omega
        have w6 : IntKind.i64.wrap (IntKind.i64.wrap ((body.length : Int) - 28) - (t : Int)) = ((56 - (28 + t) : Nat) : Int) := by rw [w64 (n := (body.length : Int) - 28) (by omega) (by omega), w64 (by omega) (by omega)]; omega
        have hn := noughts_eq (fu := 400) (b := body) (i := 28 + t) (n := 56 - (28 + t)) (by omega) (by omega) (by omega)
        have e8 : (body.drop (28 + t)).take (56 - (28 + t)) = body.drop (28 + t) := List.take_of_length_le (by rw [List.length_drop, h8]; omega)
        rw [e8] at hn
        have hr0 : octet_Read.f 400 (cut body 0 4) = some ((num (part body 0 4) : Nat) : Int) := by
          have : cut body 0 4 = part body 0 4 := cut_eq body 0 4
          rw [this]
          have hpl := part_len (l := body) (i := 0) (n := 4) (by omega)
          exact read_eq (fu := 400) (part_bytes hbd 0 4) (by omega) (by omega)
        have en : cut body 28 ((28 + t : Nat) : Int) = part body 28 t := cut_eq body 28 t
        have c2 : (0 : Int) ≤ 28 ∧ (28 : Int) ≤ ((28 + t : Nat) : Int) ∧ ((28 + t : Nat) : Int) ≤ (body.length : Int) := by omega
        have c3 : (4 : Int) ≤ (body.length : Int) := by omega
        have hqn : (queueOf body t).Name.length ≤ 300 := by
          show ((part body 28 t).map toB).length ≤ 300
          rw [List.length_map, part_len (by omega)]
          omega
        rw [← hbody]
        have hie : IntKind.i64.wrap ((num (part body 0 4) : Nat) : Int) = intAt body 0 4 := rfl
        simp only [h4, h5', decide_true, decide_false, Bool.not_true, Bool.false_eq_true, if_false] at hloop ⊢
        simp only [ht, w1, w6, hn, Option.bind_some] at hloop ⊢
        have hgi : GetQ b ↔ (QueueOk (queueOf body t) ∧ ∀ y ∈ body.drop (28 + t), y = 0) := by
          unfold GetQ
          rw [ht, ← hbody, Int.toNat_natCast]
          exact ⟨fun x => x.2.2.2, fun x => ⟨hi, h4, by omega, x⟩⟩
        rw [Int.toNat_natCast]
        by_cases hz : ∀ y ∈ body.drop (28 + t), y = 0
        · rw [decide_eq_true hz]
          simp only [Bool.not_true, Bool.false_eq_true, if_false]
          rw [if_pos c2, if_pos c3, hr0, Option.bind_some, en, hie, hloop, Option.bind_some, queueRight_eq hqn]
          by_cases hr : QueueOk (queueOf body t)
          · rw [if_pos (hgi.2 ⟨hr, hz⟩), decide_eq_true hr]
            rfl
          · rw [if_neg (fun x => hr (hgi.1 x).1), decide_eq_false hr]
            rfl
        · rw [decide_eq_false hz, if_neg (fun x => hz (hgi.1 x).2)]
          rfl
      · have h5' : ix b 5 > 24 := by omega
        have hg : ¬ GetQ b := fun x => h5 x.2.2.1
        rw [if_neg hg, decide_eq_true h4, decide_eq_true h5']
        rfl
    · have hg : ¬ GetQ b := fun x => h4 x.2.1
      rw [if_neg hg, decide_eq_false h4]
      rfl
  · have hg : ¬ GetQ b := fun x => hi x.1
    rw [if_neg hi, if_neg hg]
    rfl
theorem rqueueGet_eq {b : List Int} (hb : Bytes b) : rickyardref11_Get.f 400 b = some (if GetQ b then (queueOf (b.drop 8) (ix b 5).toNat, true) else (noQ, false)) := by
  unfold rickyardref11_Get.f
  rw [ropen_eq hb (by decide)]
  by_cases hi : Is b
  · have h8 := is_body hi
    obtain ⟨b4, b5⟩ := is_tag hb hi
    rw [if_pos hi]
    simp only [Option.bind_some, Bool.not_true, Bool.false_eq_true, if_false]
    by_cases h4 : ix b 4 = 5
    · by_cases h5 : ix b 5 ≤ 28
      · have h5' : ¬ ix b 5 > 28 := by omega
        obtain ⟨t, ht⟩ : ∃ t : Nat, ix b 5 = (t : Int) := ⟨(ix b 5).toNat, by omega⟩
        have hbd := hb.drop 8
        obtain ⟨body, hbody⟩ : ∃ body, body = b.drop 8 := ⟨_, rfl⟩
        have hq0 : ∀ {k tg : Int} {bd : List Int}, (0 ≤ k ∧ k ≤ 255) → (0 ≤ tg ∧ tg ≤ 255) → Bytes bd → bd.length ≤ 56 → ((sealed (summed k tg bd)).map toB = b.map toB ↔ k = ix b 4 ∧ tg = ix b 5 ∧ bd ++ List.replicate (56 - bd.length) 0 = b.drop 8) := fun h1 h2 h3 h4 => sealed_map_iff hb hi h1 h2 h3 h4
        rw [← hbody] at h8 hbd
        have hloop : loopM (rickyardref11_Get.s0 400 (ix b 4, ix b 5, body.map toB, true)) 400 (0, ⟨(part body 28 t).map toB, intAt body 0 4, Arr.rep 12 (0 : Int)⟩) = some (queueOf body t) := by
          refine loopM_run (S := fun j => ((j : Int), (⟨(part body 28 t).map toB, intAt body 0 4, fillA (fun i => intAt body (4 + 2 * i) 2) (Arr.rep 12 (0 : Int)) j⟩ : S_api_Queue))) 12 rfl ?_ ?_ (by omega)
          · intro j hj
            unfold rickyardref11_Get.s0
            have h1 : (j : Int) < 12 := by omega
            have cj : 0 ≤ (j : Int) ∧ (j : Int) < 12 := by omega
            have w3 : IntKind.i64.wrap ((j : Int) + 1) = ((j + 1 : Nat) : Int) := by rw [w64 (by omega) (by omega)]; omega
            have w4 : IntKind.i64.wrap (4 + IntKind.i64.wrap (2 * (j : Int))) = ((4 + 2 * j : Nat) : Int) := by rw [w64 (n := 2 * (j : Int)) (by omega) (by omega), w64 (by omega) (by omega)]; omega
            have w5 : IntKind.i64.wrap (6 + IntKind.i64.wrap (2 * (j : Int))) = ((4 + 2 * j + 2 : Nat) : Int) := by rw [w64 (n := 2 * (j : Int)) (by omega) (by omega), w64 (by omega) (by omega)]; omega
            have hr := rintAt_eq (fu := 400) (b := body) (i := 4 + 2 * j) (n := 2) hbd (by omega) (by decide) (by decide)
            have c1 : (0 : Int) ≤ ((4 + 2 * j : Nat) : Int) ∧ ((4 + 2 * j : Nat) : Int) ≤ ((4 + 2 * j + 2 : Nat) : Int) ∧ ((4 + 2 * j + 2 : Nat) : Int) ≤ ((body.map toB).length : Int) := by rw [List.length_map]; omega
            simp only [h1, decide_true, if_true, w3, w4, w5, if_pos c1, hr, Option.bind_some, if_pos cj]
            rfl
          · unfold rickyardref11_Get.s0
            simp [queueOf, rootsOf]
        have w1 : IntKind.i64.wrap (28 + (t : Int)) = ((28 + t : Nat) : Int) := by rw [w64 (by omega) (by omega)]; omega
        have hr0 : rickyardref01_Int.f 400 (cut (body.map toB) 0 4) = some (intAt body 0 4) := rintAt_eq (fu := 400) (b := body) (i := 0) (n := 4) hbd (by omega) (by decide) (by decide)
        have en : cut (body.map toB) 28 ((28 + t : Nat) : Int) = (part body 28 t).map toB := by
          unfold cut part
          rw [Int.toNat_natCast, show (28 : Int).toNat = 28 from rfl, ← List.map_take, ← List.map_drop, List.drop_take, Nat.add_sub_cancel_left]
        have c2 : (0 : Int) ≤ 28 ∧ (28 : Int) ≤ ((28 + t : Nat) : Int) ∧ ((28 + t : Nat) : Int) ≤ ((body.map toB).length : Int) := by rw [List.length_map]; omega
        have c3 : (4 : Int) ≤ ((body.map toB).length : Int) := by rw [List.length_map]; omega
        have hqn : (queueOf body t).Name.length = t := by
          show ((part body 28 t).map toB).length = t
          rw [List.length_map, part_len (by omega)]
        rw [← hbody]
        simp only [h4, h5', decide_true, decide_false, Bool.not_true, Bool.false_eq_true, if_false] at hloop ⊢
        simp only [ht, w1, Option.bind_some] at hloop ⊢
        rw [if_pos c3, hr0, Option.bind_some, if_pos c2, en, hloop, Option.bind_some, rqueueRight_eq (by omega)]
        rw [Int.toNat_natCast]
        by_cases hr : QueueOk (queueOf body t)
        · have h24 := hr.len (by omega)
          have hgi : GetQ b ↔ ∀ y ∈ body.drop (28 + t), y = 0 := by
            unfold GetQ
            rw [ht, ← hbody, Int.toNat_natCast]
            exact ⟨fun x => x.2.2.2.2, fun x => ⟨hi, h4, by omega, hr, x⟩⟩
          have hq := hq0 (k := 5) (tg := (t : Int)) (bd := queueE (queueOf body t)) (by omega) (by omega) (queueE_bytes _) (by rw [queueE_len]; omega)
          have hfl := full_iff (body := queueE (queueOf body t)) (full := body) (by rw [queueE_len]; omega) h8
          rw [← hbody] at hq
          rw [queueE_len, hqn, queueE_of hbd (show 28 + t ≤ body.length by omega)] at hfl
          rw [queueE_len, hqn, queueE_of hbd (show 28 + t ≤ body.length by omega)] at hq
          rw [decide_eq_true hr, rqueuePut_eq (by omega), hqn, queueE_of hbd (show 28 + t ≤ body.length by omega)]
          by_cases hz : ∀ y ∈ body.drop (28 + t), y = 0
          · rw [if_pos (hgi.2 hz)]
            simp only [Option.bind_some]
            rw [decide_eq_true (hq.2 ⟨h4.symm, ht.symm, hfl.2 ⟨rfl, hz⟩⟩)]
            rfl
          · rw [if_neg (fun x => hz (hgi.1 x))]
            simp only [Option.bind_some]
            rw [decide_eq_false (fun x => hz (hfl.1 (hq.1 x).2.2).2)]
            rfl
        · have hg : ¬ GetQ b := fun x => by
            have := x.2.2.2.1
            rw [ht, ← hbody, Int.toNat_natCast] at this
            exact hr this
          rw [decide_eq_false hr, if_neg hg]
          rfl
      · have h5' : ix b 5 > 28 := by omega
        have hg : ¬ GetQ b := fun x => by have := x.2.2.1; omega
        rw [if_neg hg, decide_eq_true h4, decide_eq_true h5']
        rfl
    · have hg : ¬ GetQ b := fun x => h4 x.2.1
      rw [if_neg hg, decide_eq_false h4]
      rfl
  · have hg : ¬ GetQ b := fun x => hi x.1
    rw [if_neg hi, if_neg hg]
    rfl
theorem contains_eq {fu : Nat} {l : List Int} {x : Int} (hl : l.length ≤ 9000000000000000000) (hf : l.length < fu) : slices_Contains.f fu l x = some (decide (x ∈ l)) := by
  unfold slices_Contains.f
  have hs : ∀ j : Nat, j < l.length → slices_Index.s0 fu l x (j : Int) = some (if x ≠ ix l (j : Int) then .inr ((j + 1 : Nat) : Int) else .inl (.inl (j : Int))) := by
    intro j hj
    unfold slices_Index.s0
    have h1 : (j : Int) < (l.length : Int) := by omega
    have c0 : 0 ≤ (j : Int) := by omega
    have w3 : IntKind.i64.wrap ((j : Int) + 1) = ((j + 1 : Nat) : Int) := by rw [w64 (by omega) (by omega)]; omega
    simp only [h1, c0, and_self, decide_true, if_true, w3]
    by_cases e : x = ix l (j : Int) <;> simp [e]
  have hi : ∃ r : Int, slices_Index.f fu l x = some r ∧ (r ≥ 0 ↔ x ∈ l) := by
    unfold slices_Index.f
    by_cases hk : x ∈ l
    · have hmin : ∀ m j, j ≤ m → (j < l.length ∧ x = ix l (j : Int)) → ∃ q, (q < l.length ∧ x = ix l (q : Int)) ∧ ∀ i, i < q → x ≠ ix l (i : Int) := by
        intro m
        induction m with
        | zero =>
          intro j hj hjj
          exact ⟨j, hjj, fun i hi => by omega⟩
        | succ m ih =>
          intro j hj hjj
          by_cases hx : ∃ i, i < j ∧ x = ix l (i : Int)
          · obtain ⟨i, hi, hgi⟩ := hx
            exact ih i (by omega) ⟨by omega, hgi⟩
          · exact ⟨j, hjj, fun i hi hg => hx ⟨i, hi, hg⟩⟩
      obtain ⟨j, hj, hjx⟩ := List.getElem_of_mem hk
      obtain ⟨q, ⟨hq, hg⟩, hall⟩ := hmin j j (Nat.le_refl _) ⟨hj, by rw [ix_nat hj, hjx]⟩
      have : loopM (slices_Index.s0 fu l x) fu 0 = some (.inl (q : Int)) :=
        loopM_run (S := fun j => (j : Int)) q rfl (fun i hi => by rw [hs i (by omega), if_pos (hall i hi)]) (by rw [hs q hq, if_neg (fun h => h hg)]) (by omega)
      rw [this]
      refine ⟨(q : Int), rfl, ?_⟩
      simp only [hk, iff_true]
      omega
    · have : loopM (slices_Index.s0 fu l x) fu 0 = some (.inr ()) := by
        refine loopM_run (S := fun j => (j : Int)) l.length rfl (fun j hj => ?_) ?_ hf
        · rw [hs j hj, if_pos]
          intro e
          rw [ix_nat hj] at e
          exact hk (by rw [e]; exact List.getElem_mem hj)
        · unfold slices_Index.s0
          simp
      rw [this]
      exact ⟨-1, rfl, by simp [hk]⟩
  obtain ⟨r, hr, hrk⟩ := hi
  rw [hr]
  exact congrArg some (decide_eq_decide.2 hrk)
def geoOk (g : S_api_Geometry) : Prop := (16 ≤ g.Blocks ∧ g.Blocks ≤ 3072) ∧ (1 ≤ g.Slots ∧ g.Slots ≤ 1792) ∧ (1 ≤ g.Gens ∧ g.Gens ≤ 4294967295)
instance (g : S_api_Geometry) : Decidable (geoOk g) := inferInstanceAs (Decidable (_ ∧ _))
theorem geo_form (g : S_api_Geometry) : (if (decide (g.Blocks ≥ 16)) = true then (if (decide (g.Blocks ≤ 3072)) = true then (if (decide (g.Slots ≥ 1)) = true then (if (decide (g.Slots ≤ 1792)) = true then (if (decide (g.Gens ≥ 1)) = true then (decide (g.Gens ≤ 4294967295)) else false) else false) else false) else false) else false) = decide (geoOk g) := by
  rw [Bool.eq_iff_iff]
  unfold geoOk
  simp only [decide_eq_true_eq, ge_iff_le]
  by_cases c1 : 16 ≤ g.Blocks
  · by_cases c2 : g.Blocks ≤ 3072
    · by_cases c3 : 1 ≤ g.Slots
      · by_cases c4 : g.Slots ≤ 1792
        · by_cases c5 : 1 ≤ g.Gens <;> simp [c1, c2, c3, c4, c5]
        · simp [c1, c2, c3, c4]
      · simp [c1, c2, c3]
    · simp [c1, c2]
  · simp [c1]
theorem geom_eq (fu : Nat) (g : S_api_Geometry) : geom_Right.f fu g = some (decide (geoOk g)) := by
  rw [← geo_form g]
  unfold geom_Right.f
  generalize decide (g.Blocks ≥ 16) = b1
  generalize decide (g.Blocks ≤ 3072) = b2
  generalize decide (g.Slots ≥ 1) = b3
  generalize decide (g.Slots ≤ 1792) = b4
  generalize decide (g.Gens ≥ 1) = b5
  cases b1 <;> cases b2 <;> cases b3 <;> cases b4 <;> cases b5 <;> rfl
theorem rgeom_eq (fu : Nat) (g : S_api_Geometry) : rickyardref12_Right.f fu g = some (decide (geoOk g)) := by
  rw [← geo_form g]
  unfold rickyardref12_Right.f
  generalize decide (g.Blocks ≥ 16) = b1
  generalize decide (g.Blocks ≤ 3072) = b2
  generalize decide (g.Slots ≥ 1) = b3
  generalize decide (g.Slots ≤ 1792) = b4
  generalize decide (g.Gens ≥ 1) = b5
  cases b1 <;> cases b2 <;> cases b3 <;> cases b4 <;> cases b5 <;> rfl
def chartsN (g : S_api_Geometry) : Int := (g.Blocks + 383) / 384
theorem charts_eq {fu : Nat} {g : S_api_Geometry} (h : geoOk g) : geom_Charts.f fu g = some (chartsN g) := by
  unfold geom_Charts.f geom_up.f
  rw [geom_eq, decide_eq_true h]
  unfold geoOk at h
  have w1 : IntKind.i64.wrap (g.Blocks + 384) = g.Blocks + 384 := w64 (by omega) (by omega)
  have w2 : IntKind.i64.wrap (g.Blocks + 384 - 1) = g.Blocks + 383 := by rw [w64 (by omega) (by omega)]; omega
  have e1 : Int.tdiv (g.Blocks + 383) 384 = (g.Blocks + 383) / 384 := Int.tdiv_eq_ediv_of_nonneg (by omega)
  have w3 : IntKind.i64.wrap ((g.Blocks + 383) / 384) = (g.Blocks + 383) / 384 := w64 (by omega) (by omega)
  simp [w1, w2, e1, w3, chartsN]
theorem rcharts_eq {fu : Nat} {g : S_api_Geometry} (h : geoOk g) (hf : 100 < fu) : rickyardref12_Charts.f fu g = some (chartsN g) := by
  unfold rickyardref12_Charts.f rickyardref12_Need.f
  unfold geoOk at h
  obtain ⟨n, hn⟩ : ∃ n : Nat, chartsN g = (n : Int) := ⟨(chartsN g).toNat, by unfold chartsN; omega⟩
  have hn' := hn
  unfold chartsN at hn'
  have : loopM (rickyardref12_Need.s0 fu g.Blocks 384) fu 0 = some (n : Int) := by
    refine loopM_run (S := fun j => (j : Int)) n rfl (fun j hj => ?_) ?_ (by omega)
    · unfold rickyardref12_Need.s0
      have w1 : IntKind.i64.wrap ((j : Int) * 384) = (j : Int) * 384 := w64 (by omega) (by omega)
      have w3 : IntKind.i64.wrap ((j : Int) + 1) = ((j + 1 : Nat) : Int) := by rw [w64 (by omega) (by omega)]; omega
      have h1 : (j : Int) * 384 < g.Blocks := by omega
      simp only [w1, w3, h1, decide_true, if_true]
    · unfold rickyardref12_Need.s0
      have w1 : IntKind.i64.wrap ((n : Int) * 384) = (n : Int) * 384 := w64 (by omega) (by omega)
      have h1 : ¬ (n : Int) * 384 < g.Blocks := by omega
      simp only [w1, h1, decide_false, Bool.false_eq_true, if_false]
  rw [this, hn]
  rfl
def inB (s : S_api_Super) (x : Int) : Prop := 2 ≤ x ∧ x < s.Tickets.Geometry.Blocks
instance (s : S_api_Super) (x : Int) : Decidable (inB s x) := inferInstanceAs (Decidable (_ ∧ _))
def supA (s : S_api_Super) : Prop := (1 ≤ s.Epoch ∧ s.Epoch ≤ 4611686018427387904) ∧ geoOk s.Tickets.Geometry
instance (s : S_api_Super) : Decidable (supA s) := inferInstanceAs (Decidable (_ ∧ _))
def supB (s : S_api_Super) : Prop := (0 ≤ s.Tickets.High ∧ s.Tickets.High ≤ s.Tickets.Geometry.Slots) ∧ (0 ≤ s.Tickets.Free ∧ s.Tickets.Free ≤ s.Tickets.High)
instance (s : S_api_Super) : Decidable (supB s) := inferInstanceAs (Decidable (_ ∧ _))
def topOk (s : S_api_Super) : Prop := (s.Tickets.High = 0 → s.Tickets.Top = 0) ∧ (s.Tickets.High ≠ 0 → inB s s.Tickets.Top)
instance (s : S_api_Super) : Decidable (topOk s) := inferInstanceAs (Decidable (_ ∧ _))
def dirNOk (s : S_api_Super) : Prop := s.Dir ≠ 0 → inB s s.Dir
instance (s : S_api_Super) : Decidable (dirNOk s) := inferInstanceAs (Decidable (_ → _))
def apartC (l : List Int) : Prop := ∀ j, j < l.length → ix l (j : Int) ∉ l.take j
instance (l : List Int) : Decidable (apartC l) := inferInstanceAs (Decidable (∀ j, j < l.length → _))
def insC (s : S_api_Super) : Prop := ∀ j, j < s.Charts.length → inB s (ix s.Charts (j : Int))
instance (s : S_api_Super) : Decidable (insC s) := inferInstanceAs (Decidable (∀ j, j < s.Charts.length → _))
def SupOk (s : S_api_Super) : Prop := supA s ∧ supB s ∧ topOk s ∧ dirNOk s ∧ (s.Charts.length : Int) = chartsN s.Tickets.Geometry ∧ insC s ∧ apartC s.Charts
instance (s : S_api_Super) : Decidable (SupOk s) := inferInstanceAs (Decidable (_ ∧ _))
theorem SupOk.len {s : S_api_Super} (h : SupOk s) : s.Charts.length ≤ 8 ∧ 1 ≤ s.Charts.length := by
  have h1 := h.1.2
  have h2 := h.2.2.2.2.1
  unfold geoOk at h1
  unfold chartsN at h2
  omega
theorem in_eq (fu : Nat) (x : Int) (s : S_api_Super) : super_Right_1_z1.f fu x s = some (decide (inB s x)) := by
  unfold super_Right_1_z1.f inB
  by_cases h : 2 ≤ x <;> simp [h]
def lenOk (s : S_api_Super) : Prop := (s.Charts.length : Int) = chartsN s.Tickets.Geometry
instance (s : S_api_Super) : Decidable (lenOk s) := inferInstanceAs (Decidable (_ = _))
theorem sup_loop {fu : Nat} {s : S_api_Super} (hl : s.Charts.length ≤ 50) (hf : 100 < fu) : loopM (super_Right.s0 fu s) fu 0 = some (if insC s ∧ apartC s.Charts then .inr () else .inl false) := by
  have hs : ∀ j : Nat, j < s.Charts.length → super_Right.s0 fu s (j : Int) = some (if inB s (ix s.Charts (j : Int)) ∧ ix s.Charts (j : Int) ∉ s.Charts.take j then .inr ((j + 1 : Nat) : Int) else .inl (.inl false)) := by
    intro j hj
    unfold super_Right.s0
    have h1 : (j : Int) < (s.Charts.length : Int) := by omega
    have h2 : (j : Int) ≤ (s.Charts.length : Int) := by omega
    have c0 : 0 ≤ (j : Int) := by omega
    have w3 : IntKind.i64.wrap ((j : Int) + 1) = ((j + 1 : Nat) : Int) := by rw [w64 (by omega) (by omega)]; omega
    have ec : cut s.Charts 0 (j : Int) = s.Charts.take j := by unfold cut; simp
    have hc : slices_Contains.f fu (s.Charts.take j) (ix s.Charts (j : Int)) = some (decide (ix s.Charts (j : Int) ∈ s.Charts.take j)) := contains_eq (by rw [List.length_take]; omega) (by rw [List.length_take]; omega)
    simp only [h1, h2, c0, and_self, decide_true, if_true, w3, in_eq, Option.bind_some, ec, hc]
    by_cases g1 : inB s (ix s.Charts (j : Int))
    · by_cases g2 : ix s.Charts (j : Int) ∈ s.Charts.take j <;> simp [g1, g2, c0, h2, ec, hc, w3]
    · simp [g1]
  by_cases h : insC s ∧ apartC s.Charts
  · rw [if_pos h]
    refine loopM_run (S := fun j => (j : Int)) s.Charts.length rfl (fun j hj => by rw [hs j hj, if_pos ⟨h.1 j hj, h.2 j hj⟩]) ?_ (by omega)
    unfold super_Right.s0
    simp
  · rw [if_neg h]
    refine loopM_bad (S := fun j => (j : Int)) s.Charts.length (fun j => inB s (ix s.Charts (j : Int)) ∧ ix s.Charts (j : Int) ∉ s.Charts.take j) rfl ?_ (fun j hj _ hg => by rw [hs j hj, if_pos hg]) (fun j hj _ hg => by rw [hs j hj, if_neg hg]) (by omega)
    apply Classical.byContradiction
    intro hx
    exact h ⟨fun i hi => Classical.byContradiction fun hg => hx ⟨i, hi, fun q => hg q.1⟩, fun i hi => Classical.byContradiction fun hg => hx ⟨i, hi, fun q => hg q.2⟩⟩
theorem superRight_eq {fu : Nat} {s : S_api_Super} (hf : 100 < fu) : super_Right.f fu s = some (decide (SupOk s)) := by
  unfold super_Right.f
  rw [show super_Right.s1 fu s = super_Right.s0 fu s from rfl, show super_Right.s2 fu s = super_Right.s0 fu s from rfl, show super_Right.s3 fu s = super_Right.s0 fu s from rfl, show super_Right.s4 fu s = super_Right.s0 fu s from rfl, show super_Right.s5 fu s = super_Right.s0 fu s from rfl, show super_Right.s6 fu s = super_Right.s0 fu s from rfl, show super_Right.s7 fu s = super_Right.s0 fu s from rfl]
  rw [geom_eq, Option.bind_some]
  by_cases hA : supA s
  · have hA' := hA
    unfold supA at hA'
    have c1 : ¬ s.Epoch < 1 := by omega
    have c2 : ¬ s.Epoch > 4611686018427387904 := by omega
    have hg := hA'.2
    rw [decide_eq_false c1, decide_eq_false c2, decide_eq_true hg]
    by_cases hB : supB s
    · have hB' := hB
      unfold supB at hB'
      have c3 : ¬ s.Tickets.High < 0 := by omega
      have c4 : ¬ s.Tickets.High > s.Tickets.Geometry.Slots := by omega
      have c5 : ¬ s.Tickets.Free < 0 := by omega
      have c6 : ¬ s.Tickets.Free > s.Tickets.High := by omega
      rw [decide_eq_false c3, decide_eq_false c4, decide_eq_false c5, decide_eq_false c6]
      simp only [Bool.not_true, Bool.false_eq_true, if_false, in_eq, charts_eq hg, Option.bind_some]
      generalize hK : (if (!decide ((s.Charts.length : Int) = chartsN s.Tickets.Geometry)) = true then some false else _) = K
      have key : K = some (decide (lenOk s ∧ insC s ∧ apartC s.Charts)) := by
        rw [← hK]
        by_cases hT : lenOk s
        · have hT' := hT
          unfold lenOk at hT'
          rw [decide_eq_true hT']
          have hlen : s.Charts.length ≤ 50 := by
            unfold chartsN at hT'
            unfold geoOk at hg
            omega
          rw [sup_loop hlen hf]
          by_cases hq : insC s ∧ apartC s.Charts
          · rw [if_pos hq, decide_eq_true (⟨hT, hq⟩ : lenOk s ∧ insC s ∧ apartC s.Charts)]
            rfl
          · rw [if_neg hq, decide_eq_false (fun x : lenOk s ∧ insC s ∧ apartC s.Charts => hq x.2)]
            rfl
        · have hT' : ¬ (s.Charts.length : Int) = chartsN s.Tickets.Geometry := hT
          rw [decide_eq_false hT', decide_eq_false (fun x : lenOk s ∧ insC s ∧ apartC s.Charts => hT x.1)]
          rfl
      have hS : SupOk s ↔ topOk s ∧ dirNOk s ∧ lenOk s ∧ insC s ∧ apartC s.Charts := ⟨fun x => ⟨x.2.2.1, x.2.2.2.1, x.2.2.2.2.1, x.2.2.2.2.2.1, x.2.2.2.2.2.2⟩, fun x => ⟨hA, hB, x.1, x.2.1, x.2.2.1, x.2.2.2.1, x.2.2.2.2⟩⟩
      rw [key, show decide (SupOk s) = decide (topOk s ∧ dirNOk s ∧ lenOk s ∧ insC s ∧ apartC s.Charts) from decide_eq_decide.2 hS]
      by_cases h0 : s.Tickets.High = 0
      · have h1 : ¬ s.Tickets.High > 0 := by omega
        by_cases ht : s.Tickets.Top = 0
        · have hT : topOk s := ⟨fun _ => ht, fun x => absurd h0 x⟩
          by_cases hd : s.Dir = 0
          · have hD : dirNOk s := fun x => absurd hd x
            simp [h0, ht, hd, hT, hD]
          · by_cases hi : inB s s.Dir
            · have hD : dirNOk s := fun _ => hi
              simp [h0, ht, hd, hi, hT, hD]
            · have hD : ¬ dirNOk s := fun x => hi (x hd)
              simp [h0, ht, hd, hi, hT, hD]
        · have hT : ¬ topOk s := fun x => ht (x.1 h0)
          simp [h0, ht, hT]
      · have h1 : s.Tickets.High > 0 := by omega
        by_cases ht : inB s s.Tickets.Top
        · have hT : topOk s := ⟨fun x => absurd x h0, fun _ => ht⟩
          by_cases hd : s.Dir = 0
          · have hD : dirNOk s := fun x => absurd hd x
            simp [h0, h1, ht, hd, hT, hD]
          · by_cases hi : inB s s.Dir
            · have hD : dirNOk s := fun _ => hi
              simp [h0, h1, ht, hd, hi, hT, hD]
            · have hD : ¬ dirNOk s := fun x => hi (x hd)
              simp [h0, h1, ht, hd, hi, hT, hD]
        · have hT : ¬ topOk s := fun x => ht (x.2 h0)
          simp [h0, h1, ht, hT]
    · rw [decide_eq_false (fun x : SupOk s => hB x.2.1)]
      unfold supB at hB
      by_cases c3 : s.Tickets.High < 0
      · rw [decide_eq_true c3]
        rfl
      · by_cases c4 : s.Tickets.High > s.Tickets.Geometry.Slots
        · rw [decide_eq_false c3, decide_eq_true c4]
          rfl
        · by_cases c5 : s.Tickets.Free < 0
          · rw [decide_eq_false c3, decide_eq_false c4, decide_eq_true c5]
            rfl
          · have c6 : s.Tickets.Free > s.Tickets.High := by omega
            rw [decide_eq_false c3, decide_eq_false c4, decide_eq_false c5, decide_eq_true c6]
            rfl
  · rw [decide_eq_false (fun x : SupOk s => hA x.1)]
    unfold supA at hA
    by_cases c1 : s.Epoch < 1
    · rw [decide_eq_true c1]
      rfl
    · by_cases c2 : s.Epoch > 4611686018427387904
      · rw [decide_eq_false c1, decide_eq_true c2]
        rfl
      · have c3 : ¬ geoOk s.Tickets.Geometry := fun x => hA ⟨by omega, x⟩
        rw [decide_eq_false c1, decide_eq_false c2, decide_eq_false c3]
        rfl
end Go.Proofs.YtdifnahlheogdaaGreat.Pure
