/- LabelQueues: texts merged, part 7 of 7. The last part proves that the law LabelQueues holds for every input. -/
import Derived.Test.YtjhajfkfhdnciaaPkLabelQueues6
/- Directories in plain words; the roots that are there. -/
set_option linter.unusedVariables false
set_option linter.unusedSimpArgs false
namespace Go.Proofs.Ytjhajfkfhdnciaa.Pure
open Go Go.Xw
def numOk (x : Int) : Prop := 2 ≤ x ∧ x ≤ 3071
instance (x : Int) : Decidable (numOk x) := inferInstanceAs (Decidable (_ ∧ _))
theorem bnum_eq (fu : Nat) (x : Int) : label_blockNumber.f fu x = some (decide (numOk x)) := by
  unfold label_blockNumber.f
  by_cases h : x ≥ 2
  · by_cases h2 : x < 3072
    · rw [decide_eq_true h, decide_eq_true h2, decide_eq_true (show numOk x from ⟨h, by omega⟩)]
      rfl
    · rw [decide_eq_true h, decide_eq_false h2, decide_eq_false (fun y : numOk x => by have := y.2; omega)]
      rfl
  · rw [decide_eq_false h, decide_eq_false (fun y : numOk x => h y.1)]
    rfl
theorem rbnum_eq (fu : Nat) (x : Int) : rickyardref08_Block.f fu x = some (decide (numOk x)) := by
  unfold rickyardref08_Block.f
  by_cases h : x ≥ 2
  · by_cases h2 : x ≤ 3071
    · rw [decide_eq_true h, decide_eq_true h2, decide_eq_true (show numOk x from ⟨h, by omega⟩)]
      rfl
    · rw [decide_eq_true h, decide_eq_false h2, decide_eq_false (fun y : numOk x => h2 y.2)]
      rfl
  · rw [decide_eq_false h, decide_eq_false (fun y : numOk x => h y.1)]
    rfl
theorem among_eq {fu : Nat} {l : List Int} {x : Int} (hl : l.length ≤ 9000000000000000000) (hf : l.length < fu) : slices_Contains.f fu l x = some (decide (x ∈ l)) := by
  unfold slices_Contains.f
  have hs : ∀ j : Nat, j < l.length → slices_Index.s0 fu l x (j : Int) = some (if x ≠ ix l (j : Int) then .inr ((j + 1 : Nat) : Int) else .inl (.inl (j : Int))) := by
    intro j hj
    unfold slices_Index.s0
    have h1 : (j : Int) < (l.length : Int) := by omega
    have c0 : 0 ≤ (j : Int) := by omega
    have w3 : IntKind.i64.wrap ((j : Int) + 1) = ((j + 1 : Nat) : Int) := by rw [w64 (by omega) (by omega)]; omega
    simp only [h1, c0, and_self, decide_true, if_true, w3]
    by_cases e : x = ix l (j : Int) <;> simp [e]
  have hi : ∃ r : Int, slices_Index.f fu l x = some r ∧ (r ≥ 0 ↔ x ∈ l) := by
    unfold slices_Index.f
    by_cases hk : x ∈ l
    · have hmin : ∀ m j, j ≤ m → (j < l.length ∧ x = ix l (j : Int)) → ∃ q, (q < l.length ∧ x = ix l (q : Int)) ∧ ∀ i, i < q → x ≠ ix l (i : Int) := by
        intro m
        induction m with
        | zero =>
          intro j hj hjj
          exact ⟨j, hjj, fun i hi => by omega⟩
        | succ m ih =>
          intro j hj hjj
          by_cases hx : ∃ i, i < j ∧ x = ix l (i : Int)
          · obtain ⟨i, hi, hgi⟩ := hx
            exact ih i (by omega) ⟨by omega, hgi⟩
          · exact ⟨j, hjj, fun i hi hg => hx ⟨i, hi, hg⟩⟩
      obtain ⟨j, hj, hjx⟩ := List.getElem_of_mem hk
      obtain ⟨q, ⟨hq, hg⟩, hall⟩ := hmin j j (Nat.le_refl _) ⟨hj, by rw [ix_nat hj, hjx]⟩
      have : loopM (slices_Index.s0 fu l x) fu 0 = some (.inl (q : Int)) :=
        loopM_run (S := fun j => (j : Int)) q rfl (fun i hi => by rw [hs i (by omega), if_pos (hall i hi)]) (by rw [hs q hq, if_neg (fun h => h hg)]) (by omega)
      rw [this]
      refine ⟨(q : Int), rfl, ?_⟩
      simp only [hk, iff_true]
      omega
    · have : loopM (slices_Index.s0 fu l x) fu 0 = some (.inr ()) := by
        refine loopM_run (S := fun j => (j : Int)) l.length rfl (fun j hj => ?_) ?_ hf
        · rw [hs j hj, if_pos]
          intro e
          rw [ix_nat hj] at e
          exact hk (by rw [e]; exact List.getElem_mem hj)
        · unfold slices_Index.s0
          simp
      rw [this]
      exact ⟨-1, rfl, by simp [hk]⟩
  obtain ⟨r, hr, hrk⟩ := hi
  rw [hr]
  exact congrArg some (decide_eq_decide.2 hrk)
def dirAt (l : List Int) (j : Nat) : Prop := numOk (ix l (j : Int)) ∧ ix l (j : Int) ∉ l.take j
instance (l : List Int) (j : Nat) : Decidable (dirAt l j) := inferInstanceAs (Decidable (_ ∧ _))
def DirOk (l : List Int) : Prop := (1 ≤ l.length ∧ l.length ≤ 16) ∧ ∀ j, j < l.length → dirAt l j
instance (l : List Int) : Decidable (DirOk l) := inferInstanceAs (Decidable (_ ∧ _))
theorem dirRight_eq {fu : Nat} {l : List Int} (hf : 100 < fu) : label_RightDir.f fu ⟨l⟩ = some (decide (DirOk l)) := by
  unfold label_RightDir.f
  by_cases hl : 1 ≤ l.length ∧ l.length ≤ 16
  · have c1 : ¬ (l.length : Int) < 1 := by omega
    have c2 : ¬ (l.length : Int) > 16 := by omega
    have hs : ∀ j : Nat, j < l.length → label_RightDir.s0 fu ⟨l⟩ (j : Int) = some (if dirAt l j then .inr ((j + 1 : Nat) : Int) else .inl (.inl false)) := by
      intro j hj
      unfold label_RightDir.s0
      have h1 : (j : Int) < (l.length : Int) := by omega
      have h2 : (j : Int) ≤ (l.length : Int) := by omega
      have c0 : 0 ≤ (j : Int) := by omega
      have w3 : IntKind.i64.wrap ((j : Int) + 1) = ((j + 1 : Nat) : Int) := by rw [w64 (by omega) (by omega)]; omega
      have ec : cut l 0 (j : Int) = l.take j := by unfold cut; simp
      have hc : slices_Contains.f fu (l.take j) (ix l (j : Int)) = some (decide (ix l (j : Int) ∈ l.take j)) := among_eq (by rw [List.length_take]; omega) (by rw [List.length_take]; omega)
      simp only [h1, h2, c0, and_self, decide_true, if_true, w3, bnum_eq, Option.bind_some, ec, hc]
      unfold dirAt
      by_cases g1 : numOk (ix l (j : Int))
      · by_cases g2 : ix l (j : Int) ∈ l.take j <;> simp [g1, g2]
      · simp [g1]
    rw [decide_eq_false c1, decide_eq_false c2]
    simp only [Bool.false_eq_true, if_false]
    by_cases h : ∀ j, j < l.length → dirAt l j
    · have : loopM (label_RightDir.s0 fu ⟨l⟩) fu 0 = some (.inr ()) := by
        refine loopM_run (S := fun j => (j : Int)) l.length rfl (fun j hj => by rw [hs j hj, if_pos (h j hj)]) ?_ (by omega)
        unfold label_RightDir.s0
        simp
      have hD : DirOk l := ⟨hl, h⟩
      rw [this, decide_eq_true hD]
      rfl
    · have : loopM (label_RightDir.s0 fu ⟨l⟩) fu 0 = some (.inl false) := by
        refine loopM_bad (S := fun j => (j : Int)) l.length (fun j => dirAt l j) rfl ?_ (fun j hj _ hg => by rw [hs j hj, if_pos hg]) (fun j hj _ hg => by rw [hs j hj, if_neg hg]) (by omega)
        apply Classical.byContradiction
        intro hx
        exact h fun i hi => Classical.byContradiction fun hg => hx ⟨i, hi, hg⟩
      have hD : ¬ DirOk l := fun x => h x.2
      rw [this, decide_eq_false hD]
      rfl
  · have hD : ¬ DirOk l := fun x => hl x.1
    rw [decide_eq_false hD]
    by_cases c1 : (l.length : Int) < 1
    · rw [decide_eq_true c1]
      rfl
    · have c2 : (l.length : Int) > 16 := by omega
      rw [decide_eq_false c1, decide_eq_true c2]
      rfl
theorem rd2_eq {fu : Nat} {l : List Int} {out : List UInt8} {j : Nat} (hj : j < l.length) (hl : l.length ≤ 50) (hf : 100 < fu) : loopM (rickyardref11_Dir.s2 fu l (out, (j : Int))) fu 0 = some (if ix l (j : Int) ∉ l.take j then .inr () else .inl (.inl (.inl ([], false)))) := by
  have hs : ∀ i : Nat, i < j → rickyardref11_Dir.s2 fu l (out, (j : Int)) (i : Int) = some (if ix l (i : Int) ≠ ix l (j : Int) then .inr ((i + 1 : Nat) : Int) else .inl (.inl (.inl (.inl ([], false))))) := by
    intro i hi
    unfold rickyardref11_Dir.s2
    have h1 : (i : Int) < (j : Int) := by omega
    have h2 : (i : Int) < (l.length : Int) := by omega
    have h3 : (j : Int) < (l.length : Int) := by omega
    have c0 : 0 ≤ (i : Int) := by omega
    have c1 : 0 ≤ (j : Int) := by omega
    have w3 : IntKind.i64.wrap ((i : Int) + 1) = ((i + 1 : Nat) : Int) := by rw [w64 (by omega) (by omega)]; omega
    simp only [h1, h2, h3, c0, c1, and_self, decide_true, if_true, w3]
    by_cases e : ix l (i : Int) = ix l (j : Int) <;> simp [e]
  have hmem : ix l (j : Int) ∉ l.take j ↔ ∀ i, i < j → ix l (i : Int) ≠ ix l (j : Int) := by
    constructor
    · intro h i hi e
      apply h
      rw [← e, ix_nat (show i < l.length by omega)]
      exact List.mem_take_iff_getElem.2 ⟨i, by omega, rfl⟩
    · intro h hm
      obtain ⟨i, hi, he⟩ := List.mem_take_iff_getElem.1 hm
      exact h i (by omega) (by rw [ix_nat (show i < l.length by omega)]; exact he)
  by_cases h : ix l (j : Int) ∉ l.take j
  · rw [if_pos h]
    refine loopM_run (S := fun i => (i : Int)) j rfl (fun i hi => by rw [hs i hi, if_pos (hmem.1 h i hi)]) ?_ (by omega)
    unfold rickyardref11_Dir.s2
    simp
  · rw [if_neg h]
    refine loopM_bad (S := fun i => (i : Int)) j (fun i => ix l (i : Int) ≠ ix l (j : Int)) rfl ?_ (fun i hi _ hg => by rw [hs i hi, if_pos hg]) (fun i hi _ hg => by rw [hs i hi, if_neg hg]) (by omega)
    apply Classical.byContradiction
    intro hx
    exact h (hmem.2 fun i hi => Classical.byContradiction fun hg => hx ⟨i, hi, hg⟩)
theorem rdir_eq {fu : Nat} {l : List Int} (hf : 100 < fu) : rickyardref11_Dir.f fu l = some (if DirOk l then ((sealed (summed 6 (l.length : Int) (rowE l l.length))).map toB, true) else ([], false)) := by
  unfold rickyardref11_Dir.f
  by_cases hl : 1 ≤ l.length ∧ l.length ≤ 16
  · have c1 : ¬ (l.length : Int) < 1 := by omega
    have c2 : ¬ (l.length : Int) > 16 := by omega
    have hs : ∀ j : Nat, j < l.length → rickyardref11_Dir.s1 fu l ((rowE l j).map toB, (j : Int)) = some (if dirAt l j then .inr ((rowE l (j + 1)).map toB, ((j + 1 : Nat) : Int)) else .inl (.inl ([], false))) := by
      intro j hj
      unfold rickyardref11_Dir.s1
      have h1 : (j : Int) < (l.length : Int) := by omega
      have c0 : 0 ≤ (j : Int) := by omega
      have w3 : IntKind.i64.wrap ((j : Int) + 1) = ((j + 1 : Nat) : Int) := by rw [w64 (by omega) (by omega)]; omega
      have hlay : rickyardref01_Lay.f fu (IntKind.u64.wrap (ix l (j : Int))) 2 = some ((lay (u64n (ix l (j : Int))) 2).map toB) := rlay64 (n := 2) (by decide) (by omega)
      have hlim : ((rowE l j).map toB).length + ((lay (u64n (ix l (j : Int))) 2).map toB).length ≤ LIM := lim_of' (by rw [List.length_map, List.length_map, rowE_len, lay_len]; omega)
      have e : (rowE l (j + 1)).map toB = (rowE l j).map toB ++ (lay (u64n (ix l (j : Int))) 2).map toB := by rw [← List.map_append, rowE, rowE, flat_succ]
      simp only [h1, c0, and_self, decide_true, if_true, w3, rbnum_eq, Option.bind_some, rd2_eq (out := (rowE l j).map toB) hj (by omega) hf, hlay, hlim, e]
      by_cases g1 : numOk (ix l (j : Int))
      · by_cases g2 : ix l (j : Int) ∉ l.take j
        · rw [decide_eq_true g1, if_pos g2, if_pos (show dirAt l j from ⟨g1, g2⟩)]
          rfl
        · rw [decide_eq_true g1, if_neg g2, if_neg (show ¬ dirAt l j from fun x => g2 x.2)]
          rfl
      · rw [decide_eq_false g1, if_neg (show ¬ dirAt l j from fun x => g1 x.1)]
        rfl
    rw [decide_eq_false c1, decide_eq_false c2]
    simp only [Bool.false_eq_true, if_false]
    by_cases h : ∀ j, j < l.length → dirAt l j
    · have : loopM (rickyardref11_Dir.s1 fu l) fu ([], 0) = some (.inr ((rowE l l.length).map toB)) := by
        refine loopM_run (S := fun j => ((rowE l j).map toB, (j : Int))) l.length (by simp [rowE]) (fun j hj => by rw [hs j hj, if_pos (h j hj)]) ?_ (by omega)
        unfold rickyardref11_Dir.s1
        simp
      have hD : DirOk l := ⟨hl, h⟩
      have hq := rseal_eq (fu := fu) (k := 6) (t := (l.length : Int)) (rowE_bytes l l.length) (by omega) (by omega) (by rw [rowE_len]; omega) hf
      rw [this, if_pos hD]
      simp only [Option.bind_some, hq]
    · have : loopM (rickyardref11_Dir.s1 fu l) fu ([], 0) = some (.inl ([], false)) := by
        refine loopM_bad (S := fun j => ((rowE l j).map toB, (j : Int))) l.length (fun j => dirAt l j) (by simp [rowE]) ?_ (fun j hj _ hg => by rw [hs j hj, if_pos hg]) (fun j hj _ hg => by rw [hs j hj, if_neg hg]) (by omega)
        apply Classical.byContradiction
        intro hx
        exact h fun i hi => Classical.byContradiction fun hg => hx ⟨i, hi, hg⟩
      have hD : ¬ DirOk l := fun x => h x.2
      rw [this, if_neg hD]
      rfl
  · have hD : ¬ DirOk l := fun x => hl x.1
    rw [if_neg hD]
    by_cases c1 : (l.length : Int) < 1
    · rw [decide_eq_true c1]
      rfl
    · have c2 : (l.length : Int) > 16 := by omega
      rw [decide_eq_false c1, decide_eq_true c2]
      rfl
theorem dirPut_eq {fu : Nat} {l : List Int} (hf : 100 < fu) : label_PutDir.f fu ⟨l⟩ = some (if DirOk l then (sealed (summed 6 (l.length : Int) (rowE l l.length)), true) else ([], false)) := by
  unfold label_PutDir.f
  rw [dirRight_eq hf]
  by_cases h : DirOk l
  · have hl := h.1
    have hloop : loopM (label_PutDir.s0 fu ⟨l⟩) fu ([], 0) = some (rowE l l.length) := by
      refine loopM_run (S := fun j => (rowE l j, (j : Int))) l.length (by simp [rowE]) ?_ ?_ (by omega)
      · intro j hj
        unfold label_PutDir.s0
        have h1 : (j : Int) < (l.length : Int) := by omega
        have c0 : 0 ≤ (j : Int) := by omega
        have w3 : IntKind.i64.wrap ((j : Int) + 1) = ((j + 1 : Nat) : Int) := by rw [w64 (by omega) (by omega)]; omega
        have hlay : octet_Lay.f fu (IntKind.u64.wrap (ix l (j : Int))) 2 = some (lay (u64n (ix l (j : Int))) 2) := olay64 (n := 2) (by decide) (by omega)
        have hlim : (rowE l j).length + (lay (u64n (ix l (j : Int))) 2).length ≤ LIM := lim_of' (by rw [rowE_len, lay_len]; omega)
        simp only [h1, c0, and_self, decide_true, if_true, w3, hlay, Option.bind_some, hlim]
        rw [rowE, rowE, flat_succ]
      · unfold label_PutDir.s0
        simp
    have hq := seal_eq (fu := fu) (k := 6) (t := (l.length : Int)) (rowE_bytes l l.length) (by omega) (by omega) (by rw [rowE_len]; omega) hf
    simp only [h, decide_true, Bool.not_true, Bool.false_eq_true, if_false, Option.bind_some, hloop, hq, if_true]
  · simp [h]
def dirOf (body : List Int) (t : Nat) : List Int := (List.range t).map fun i => ((num (fieldAt body 2 i) : Nat) : Int)
theorem dirOf_len (body : List Int) (t : Nat) : (dirOf body t).length = t := by simp [dirOf]
theorem dirE_of {body : List Int} (hb : Bytes body) {t : Nat} (h : 2 * t ≤ body.length) : rowE (dirOf body t) t = body.take (2 * t) := by
  rw [← field_flat (w := 2) t h]
  apply flat_congr
  intro i hi
  unfold dirOf
  rw [ix_map hi]
  have hfl := fieldAt_len h hi
  have hfb := fieldAt_bytes hb 2 i
  have hn := num_lt hfb
  rw [hfl] at hn
  rw [u64n_of (by omega) (by omega), Int.toNat_natCast]
  have := lay_num hfb
  rwa [hfl] at this
theorem dirOf_E {l : List Int} (h : DirOk l) (t : List Int) : dirOf (rowE l l.length ++ t) l.length = l := by
  apply ix_ext (dirOf_len _ _)
  intro i hi
  rw [dirOf_len] at hi
  unfold dirOf
  rw [ix_map hi]
  have := (h.2 i hi).1
  unfold numOk at this
  rw [rowE, flat_field (fun i => lay_len _ _) hi, num_lay, u64n_of (by omega) (by omega)]
  omega
def GetD (b : List Int) : Prop := Is b ∧ ix b 4 = 6 ∧ ix b 5 ≤ 16 ∧ DirOk (dirOf (b.drop 8) (ix b 5).toNat) ∧ ∀ y ∈ (b.drop 8).drop (2 * (ix b 5).toNat), y = 0
instance (b : List Int) : Decidable (GetD b) := inferInstanceAs (Decidable (_ ∧ _))
theorem dirGet_eq {fu : Nat} {b : List Int} (hb : Bytes b) (hl : b.length ≤ 9000000000000000000) (hf : 100 < fu) : label_GetDir.f fu b = some (if GetD b then (⟨dirOf (b.drop 8) (ix b 5).toNat⟩, true) else (⟨[]⟩, false)) := by
  unfold label_GetDir.f
  rw [open_eq hb hl hf]
  by_cases hi : Is b
  · have h8 := is_body hi
    obtain ⟨b4, b5⟩ := is_tag hb hi
    rw [if_pos hi]
    simp only [Option.bind_some, Bool.not_true, Bool.false_eq_true, if_false]
    by_cases h4 : ix b 4 = 6
    · by_cases h5 : ix b 5 ≤ 16
      · have h5' : ¬ ix b 5 > 16 := by omega
        obtain ⟨t, ht⟩ : ∃ t : Nat, ix b 5 = (t : Int) := ⟨(ix b 5).toNat, by omega⟩
        have hbd := hb.drop 8
        obtain ⟨body, hbody⟩ : ∃ body, body = b.drop 8 := ⟨_, rfl⟩
        rw [← hbody] at h8 hbd
        have hloop : loopM (label_GetDir.s0 fu (ix b 4, ix b 5, body, true)) fu (0, []) = some (dirOf body t) := by
          refine loopM_run (S := fun j => ((j : Int), dirOf body j)) t (by simp [dirOf]) ?_ ?_ (by omega)
          · intro j hj
            unfold label_GetDir.s0
            have h1 : (j : Int) < ix b 5 := by omega
            have w3 : IntKind.i64.wrap ((j : Int) + 1) = ((j + 1 : Nat) : Int) := by rw [w64 (by omega) (by omega)]; omega
            have w4 : IntKind.i64.wrap (2 * (j : Int)) = ((2 * j : Nat) : Int) := by rw [w64 (by omega) (by omega)]; omega
            have w5 : IntKind.i64.wrap (2 * ((j + 1 : Nat) : Int)) = ((2 * j + 2 : Nat) : Int) := by rw [w64 (by omega) (by omega)]; omega
            have hfl := fieldAt_len (l := body) (w := 2) (n := t) (by omega) hj
            have hfb := fieldAt_bytes hbd 2 j
            have hr : octet_Read.f fu (cut body ((2 * j : Nat) : Int) ((2 * j + 2 : Nat) : Int)) = some ((num (fieldAt body 2 j) : Nat) : Int) := by
              rw [cut_eq]
              have := read_eq (fu := fu) hfb (by omega) (by omega)
              exact this
            have w6 := num_small hfb (by omega)
            have c1 : (0 : Int) ≤ ((2 * j : Nat) : Int) ∧ ((2 * j : Nat) : Int) ≤ ((2 * j + 2 : Nat) : Int) ∧ ((2 * j + 2 : Nat) : Int) ≤ (body.length : Int) := by omega
            have hlim : (dirOf body j).length + ([((num (fieldAt body 2 j) : Nat) : Int)] : List Int).length ≤ LIM := lim_of' (by rw [dirOf_len]; simp; omega)
            simp only [h1, decide_true, if_true, w3, w4, w5, if_pos c1, hr, Option.bind_some, w6, if_pos hlim]
            simp [dirOf, List.range_succ]
          · unfold label_GetDir.s0
            simp [ht]
        have w1 : IntKind.i64.wrap (2 * (t : Int)) = ((2 * t : Nat) : Int) := by rw [w64 (by omega) (by omega)]; omega
        have w6 : IntKind.i64.wrap ((body.length : Int) - ((2 * t : Nat) : Int)) = ((56 - 2 * t : Nat) : Int) := by rw [w64 (by omega) (by omega)]; omega
        have hn := noughts_eq (fu := fu) (b := body) (i := 2 * t) (n := 56 - 2 * t) (by omega) (by omega) (by omega)
        have e8 : (body.drop (2 * t)).take (56 - 2 * t) = body.drop (2 * t) := List.take_of_length_le (by rw [List.length_drop, h8]; omega)
        rw [e8] at hn
        rw [← hbody]
        simp only [h4, h5', decide_true, decide_false, Bool.not_true, Bool.false_eq_true, if_false] at hloop ⊢
        simp only [ht, w1, w6, hn, Option.bind_some] at hloop ⊢
        simp only [hloop, dirRight_eq hf, Option.bind_some]
        have hgi : GetD b ↔ (DirOk (dirOf body t) ∧ ∀ y ∈ body.drop (2 * t), y = 0) := by
          unfold GetD
          rw [ht, ← hbody, Int.toNat_natCast]
          exact ⟨fun x => x.2.2.2, fun x => ⟨hi, h4, by omega, x⟩⟩
        rw [Int.toNat_natCast]
        by_cases hz : ∀ y ∈ body.drop (2 * t), y = 0
        · rw [decide_eq_true hz]
          by_cases hr : DirOk (dirOf body t)
          · rw [if_pos (hgi.2 ⟨hr, hz⟩), decide_eq_true hr]
            rfl
          · rw [if_neg (fun x => hr (hgi.1 x).1), decide_eq_false hr]
            rfl
        · rw [decide_eq_false hz, if_neg (fun x => hz (hgi.1 x).2)]
          rfl
      · have h5' : ix b 5 > 16 := by omega
        have hg : ¬ GetD b := fun x => h5 x.2.2.1
        rw [if_neg hg, decide_eq_true h4, decide_eq_true h5']
        rfl
    · have hg : ¬ GetD b := fun x => h4 x.2.1
      rw [if_neg hg, decide_eq_false h4]
      rfl
  · have hg : ¬ GetD b := fun x => hi x.1
    rw [if_neg hi, if_neg hg]
    rfl
theorem rdirGet_eq {fu : Nat} {b : List Int} (hb : Bytes b) (hf : 100 < fu) : rickyardref11_GetDir.f fu b = some (if GetD b then (dirOf (b.drop 8) (ix b 5).toNat, true) else ([], false)) := by
  unfold rickyardref11_GetDir.f
  rw [ropen_eq hb hf]
  by_cases hi : Is b
  · have h8 := is_body hi
    obtain ⟨b4, b5⟩ := is_tag hb hi
    rw [if_pos hi]
    simp only [Option.bind_some, Bool.not_true, Bool.false_eq_true, if_false]
    by_cases h4 : ix b 4 = 6
    · by_cases h5 : ix b 5 ≤ 16
      · have h5' : ¬ ix b 5 > 16 := by omega
        obtain ⟨t, ht⟩ : ∃ t : Nat, ix b 5 = (t : Int) := ⟨(ix b 5).toNat, by omega⟩
        have hbd := hb.drop 8
        obtain ⟨body, hbody⟩ : ∃ body, body = b.drop 8 := ⟨_, rfl⟩
        have hq0 : ∀ {k tg : Int} {bd : List Int}, (0 ≤ k ∧ k ≤ 255) → (0 ≤ tg ∧ tg ≤ 255) → Bytes bd → bd.length ≤ 56 → ((sealed (summed k tg bd)).map toB = b.map toB ↔ k = ix b 4 ∧ tg = ix b 5 ∧ bd ++ List.replicate (56 - bd.length) 0 = b.drop 8) := fun h1 h2 h3 h4 => sealed_map_iff hb hi h1 h2 h3 h4
        rw [← hbody] at h8 hbd
        have hloop : loopM (rickyardref11_GetDir.s0 fu (ix b 4, ix b 5, body.map toB, true)) fu ([], 0) = some (dirOf body t) := by
          refine loopM_run (S := fun j => (dirOf body j, (j : Int))) t (by simp [dirOf]) ?_ ?_ (by omega)
          · intro j hj
            unfold rickyardref11_GetDir.s0
            have h1 : (j : Int) < ix b 5 := by omega
            have w3 : IntKind.i64.wrap ((j : Int) + 1) = ((j + 1 : Nat) : Int) := by rw [w64 (by omega) (by omega)]; omega
            have w4 : IntKind.i64.wrap (2 * (j : Int)) = ((2 * j : Nat) : Int) := by rw [w64 (by omega) (by omega)]; omega
            have w5 : IntKind.i64.wrap (((2 * j : Nat) : Int) + 2) = ((2 * j + 2 : Nat) : Int) := by rw [w64 (by omega) (by omega)]; omega
            have hfl := fieldAt_len (l := body) (w := 2) (n := t) (by omega) hj
            have hfb := fieldAt_bytes hbd 2 j
            have hr : rickyardref01_Int.f fu (cut (body.map toB) ((2 * j : Nat) : Int) ((2 * j + 2 : Nat) : Int)) = some ((num (fieldAt body 2 j) : Nat) : Int) := by
              have := rintAt_eq (fu := fu) (b := body) (i := 2 * j) (n := 2) hbd (by omega) (by decide) hf
              rw [intAt_small hbd (by omega) (by decide)] at this
              exact this
            have c1 : (0 : Int) ≤ ((2 * j : Nat) : Int) ∧ ((2 * j : Nat) : Int) ≤ ((2 * j + 2 : Nat) : Int) ∧ ((2 * j + 2 : Nat) : Int) ≤ ((body.map toB).length : Int) := by rw [List.length_map]; omega
            have hlim : (dirOf body j).length + ([((num (fieldAt body 2 j) : Nat) : Int)] : List Int).length ≤ LIM := lim_of' (by rw [dirOf_len]; simp; omega)
            simp only [h1, decide_true, if_true, w3, w4, w5, if_pos c1, hr, Option.bind_some, if_pos hlim]
            simp [dirOf, List.range_succ]
          · unfold rickyardref11_GetDir.s0
            simp [ht]
        have hgi : GetD b ↔ (DirOk (dirOf body t) ∧ ∀ y ∈ body.drop (2 * t), y = 0) := by
          unfold GetD
          rw [ht, ← hbody, Int.toNat_natCast]
          exact ⟨fun x => x.2.2.2, fun x => ⟨hi, h4, by omega, x⟩⟩
        rw [← hbody]
        simp only [h4, h5', decide_true, decide_false, Bool.not_true, Bool.false_eq_true, if_false] at hloop ⊢
        rw [hloop]
        simp only [Option.bind_some, rdir_eq hf]
        have hq := hq0 (k := 6) (tg := (t : Int)) (bd := rowE (dirOf body t) t) (by omega) (by omega) (rowE_bytes _ _) (by rw [rowE_len]; omega)
        have hfl := full_iff (body := rowE (dirOf body t) t) (full := body) (by rw [rowE_len]; omega) h8
        rw [← hbody] at hq
        rw [rowE_len, dirE_of hbd (show 2 * t ≤ body.length by omega)] at hfl
        rw [rowE_len, dirE_of hbd (show 2 * t ≤ body.length by omega)] at hq
        rw [ht, Int.toNat_natCast, dirOf_len, dirE_of hbd (show 2 * t ≤ body.length by omega)]
        by_cases hr : DirOk (dirOf body t)
        · rw [if_pos hr]
          by_cases hz : ∀ y ∈ body.drop (2 * t), y = 0
          · rw [if_pos (hgi.2 ⟨hr, hz⟩)]
            simp only
            rw [decide_eq_true (hq.2 ⟨h4.symm, ht.symm, hfl.2 ⟨rfl, hz⟩⟩)]
            rfl
          · rw [if_neg (fun x => hz (hgi.1 x).2)]
            simp only
            rw [decide_eq_false (fun x => hz (hfl.1 (hq.1 x).2.2).2)]
            rfl
        · rw [if_neg hr, if_neg (fun x => hr (hgi.1 x).1)]
          rfl
      · have h5' : ix b 5 > 16 := by omega
        have hg : ¬ GetD b := fun x => h5 x.2.2.1
        rw [if_neg hg, decide_eq_true h4, decide_eq_true h5']
        rfl
    · have hg : ¬ GetD b := fun x => h4 x.2.1
      rw [if_neg hg, decide_eq_false h4]
      rfl
  · have hg : ¬ GetD b := fun x => hi x.1
    rw [if_neg hi, if_neg hg]
    rfl
theorem dirGet_put {fu : Nat} {l : List Int} (h : DirOk l) (hf : 100 < fu) : label_GetDir.f fu (sealed (summed 6 (l.length : Int) (rowE l l.length))) = some (⟨l⟩, true) ∧ (sealed (summed 6 (l.length : Int) (rowE l l.length))).length = 64 := by
  have hl := h.1
  have hel := rowE_len l l.length
  obtain ⟨p4, p5, p8⟩ := sealed_parts 6 (l.length : Int) (rowE l l.length)
  have hsl := sealed_len (summed_len (k := 6) (t := (l.length : Int)) (body := rowE l l.length) (by omega))
  have hno := dirOf_E h (List.replicate (56 - (rowE l l.length).length) 0)
  have hg : GetD (sealed (summed 6 (l.length : Int) (rowE l l.length))) := by
    refine ⟨is_sealed (by decide) (by omega), p4, by rw [p5]; omega, ?_, ?_⟩
    · rw [p8, p5, Int.toNat_natCast, hno]
      exact h
    · rw [p8, p5, Int.toNat_natCast, ← hel, List.drop_left' rfl]
      intro y hy
      exact List.eq_of_mem_replicate hy
  rw [dirGet_eq (sealed_bytes (summed_bytes (by omega) (by omega) (rowE_bytes l l.length))) (by omega) hf, if_pos hg, p8, p5, Int.toNat_natCast, hno]
  exact ⟨rfl, hsl⟩
/-! ### Roots that are there -/
def nz (x : Int) : Bool := !decide (x = 0)
/-- The array, and how many were kept, when the first j were looked at. -/
def delA (a : Arr 12 Int) (i0 : Nat) : Nat → Nat × Arr 12 Int
  | 0 => (i0, a)
  | k + 1 => if nz (ix (delA a i0 k).2.l ((i0 + 1 + k : Nat) : Int)) = true then ((delA a i0 k).1 + 1, Arr.set (delA a i0 k).2 ((delA a i0 k).1 : Int) (ix (delA a i0 k).2.l ((i0 + 1 + k : Nat) : Int))) else delA a i0 k
theorem delA_inv (a : Arr 12 Int) (i0 : Nat) (h0 : i0 < 12) (hz : ix a.l (i0 : Int) = 0) (hb : ∀ i, i < i0 → ix a.l (i : Int) ≠ 0) : ∀ k, i0 + 1 + k ≤ 12 →
    (delA a i0 k).1 ≤ i0 + k ∧ (delA a i0 k).2.l.take (delA a i0 k).1 = (a.l.take (i0 + 1 + k)).filter nz ∧ (delA a i0 k).2.l.drop (i0 + 1 + k) = a.l.drop (i0 + 1 + k)
  | 0, _ => by
    have hl : i0 < a.l.length := by rw [a.h]; exact h0
    refine ⟨Nat.le_refl _, ?_, rfl⟩
    show a.l.take i0 = (a.l.take (i0 + 1)).filter nz
    rw [List.take_add_one, List.getElem?_eq_getElem hl, List.filter_append]
    have e1 : nz a.l[i0] = false := by
      rw [← ix_nat hl, hz]
      rfl
    have e2 : (a.l.take i0).filter nz = a.l.take i0 := by
      apply List.filter_eq_self.2
      intro x hx
      obtain ⟨i, hi, rfl⟩ := List.mem_take_iff_getElem.1 hx
      have := hb i (by omega)
      rw [ix_nat (by omega)] at this
      simp [nz, this]
    rw [e2]
    simp [e1]
  | k + 1, hk => by
    obtain ⟨q1, q2, q3⟩ := delA_inv a i0 h0 hz hb k (by omega)
    have hl : i0 + 1 + k < a.l.length := by rw [a.h]; omega
    have hl2 : i0 + 1 + k < (delA a i0 k).2.l.length := by rw [(delA a i0 k).2.h]; omega
    have hx : ix (delA a i0 k).2.l ((i0 + 1 + k : Nat) : Int) = a.l[i0 + 1 + k] := by
      rw [ix_nat hl2]
      have := congrArg (fun l => l[0]?) q3
      simp only [List.getElem?_drop, Nat.add_zero, List.getElem?_eq_getElem hl, List.getElem?_eq_getElem hl2] at this
      exact Option.some.inj this
    have hd : (delA a i0 k).2.l.drop (i0 + 1 + (k + 1)) = a.l.drop (i0 + 1 + (k + 1)) := by
      have := congrArg (fun l => l.drop 1) q3
      simpa [List.drop_drop, Nat.add_assoc] using this
    have ht : (a.l.take (i0 + 1 + (k + 1))).filter nz = (a.l.take (i0 + 1 + k)).filter nz ++ (if nz a.l[i0 + 1 + k] = true then [a.l[i0 + 1 + k]] else []) := by
      rw [show i0 + 1 + (k + 1) = i0 + 1 + k + 1 from rfl, List.take_add_one, List.getElem?_eq_getElem hl, List.filter_append]
      by_cases e : nz a.l[i0 + 1 + k] = true <;> simp [e]
    unfold delA
    rw [hx, ht]
    by_cases e : nz a.l[i0 + 1 + k] = true
    · rw [if_pos e, if_pos e]
      refine ⟨by simp only; omega, ?_, ?_⟩
      · show (List.set (delA a i0 k).2.l (Int.toNat ((delA a i0 k).1 : Int)) _).take ((delA a i0 k).1 + 1) = _
        rw [Int.toNat_natCast, List.take_add_one, List.take_set_of_le (Nat.le_refl _), q2, List.getElem?_set_self (by omega)]
        rfl
      · show (List.set (delA a i0 k).2.l (Int.toNat ((delA a i0 k).1 : Int)) _).drop _ = _
        rw [Int.toNat_natCast, List.drop_set_of_lt (by omega), hd]
    · rw [if_neg e, if_neg e, List.append_nil]
      exact ⟨by omega, q2, hd⟩
theorem trees_eq {fu : Nat} {a : Arr 12 Int} (hf : 100 < fu) : label_Trees.f fu a = some (a.l.filter nz) := by
  unfold label_Trees.f slices_DeleteFunc__label_Trees_1w.f slices_IndexFunc__label_Trees_1.f
  have hal := a.h
  have hs : ∀ j : Nat, j < a.l.length → slices_IndexFunc__label_Trees_1.s0 fu a.l (j : Int) = some (if ix a.l (j : Int) ≠ 0 then .inr ((j + 1 : Nat) : Int) else .inl (.inl (j : Int))) := by
    intro j hj
    unfold slices_IndexFunc__label_Trees_1.s0 label_Trees_1.f
    have h1 : (j : Int) < (a.l.length : Int) := by omega
    have c0 : 0 ≤ (j : Int) := by omega
    have w3 : IntKind.i64.wrap ((j : Int) + 1) = ((j + 1 : Nat) : Int) := by rw [w64 (by omega) (by omega)]; omega
    simp only [h1, c0, and_self, decide_true, if_true, w3, Option.bind_some]
    by_cases e : ix a.l (j : Int) = 0 <;> simp [e]
  by_cases hall : ∀ j, j < a.l.length → ix a.l (j : Int) ≠ 0
  · have : loopM (slices_IndexFunc__label_Trees_1.s0 fu a.l) fu 0 = some (.inr ()) := by
      refine loopM_run (S := fun j => (j : Int)) a.l.length rfl (fun j hj => by rw [hs j hj, if_pos (hall j hj)]) ?_ (by omega)
      unfold slices_IndexFunc__label_Trees_1.s0
      simp
    have hfil : a.l.filter nz = a.l := by
      apply List.filter_eq_self.2
      intro x hx
      obtain ⟨j, hj, rfl⟩ := List.getElem_of_mem hx
      have := hall j hj
      rw [ix_nat hj] at this
      simp [nz, this]
    rw [this, hfil]
    rfl
  · have hmin : ∀ m j, j ≤ m → (j < a.l.length ∧ ix a.l (j : Int) = 0) → ∃ q, (q < a.l.length ∧ ix a.l (q : Int) = 0) ∧ ∀ i, i < q → ix a.l (i : Int) ≠ 0 := by
      intro m
      induction m with
      | zero =>
        intro j hj hjj
        exact ⟨j, hjj, fun i hi => by omega⟩
      | succ m ih =>
        intro j hj hjj
        by_cases hx : ∃ i, i < j ∧ ix a.l (i : Int) = 0
        · obtain ⟨i, hi, hgi⟩ := hx
          exact ih i (by omega) ⟨by omega, hgi⟩
        · exact ⟨j, hjj, fun i hi hg => hx ⟨i, hi, hg⟩⟩
    have hex : ∃ j, j < a.l.length ∧ ix a.l (j : Int) = 0 := by
      apply Classical.byContradiction
      intro hx
      exact hall fun i hi hg => hx ⟨i, hi, hg⟩
    obtain ⟨j, hj⟩ := hex
    obtain ⟨q, ⟨hq, hg⟩, hbef⟩ := hmin j j (Nat.le_refl _) hj
    have hidx : loopM (slices_IndexFunc__label_Trees_1.s0 fu a.l) fu 0 = some (.inl (q : Int)) :=
      loopM_run (S := fun j => (j : Int)) q rfl (fun i hi => by rw [hs i (by omega), if_pos (hbef i hi)]) (by rw [hs q hq, if_neg (fun h => h hg)]) (by omega)
    have inv := delA_inv a q (by omega) hg hbef
    have hloop : loopM (slices_DeleteFunc__label_Trees_1w.s0 fu) fu ((q : Int), ((q + 1 : Nat) : Int), a) = some (((delA a q (11 - q)).1 : Int), (delA a q (11 - q)).2) := by
      refine loopM_run (S := fun k => (((delA a q k).1 : Int), ((q + 1 + k : Nat) : Int), (delA a q k).2)) (11 - q) rfl ?_ ?_ (by omega)
      · intro k hk
        obtain ⟨q1, q2, q3⟩ := inv k (by omega)
        have hdl := (delA a q k).2.h
        unfold slices_DeleteFunc__label_Trees_1w.s0 label_Trees_1.f
        have h1 : ((q + 1 + k : Nat) : Int) < ((delA a q k).2.l.length : Int) := by omega
        have c0 : 0 ≤ ((q + 1 + k : Nat) : Int) := by omega
        have c1 : 0 ≤ ((delA a q k).1 : Int) ∧ ((delA a q k).1 : Int) < ((delA a q k).2.l.length : Int) := by omega
        have w3 : IntKind.i64.wrap (((q + 1 + k : Nat) : Int) + 1) = ((q + 1 + (k + 1) : Nat) : Int) := by rw [w64 (by omega) (by omega)]; omega
        have w4 : IntKind.i64.wrap (((delA a q k).1 : Int) + 1) = (((delA a q k).1 + 1 : Nat) : Int) := by rw [w64 (by omega) (by omega)]; omega
        simp only [h1, c0, and_self, decide_true, if_true, w3, w4, Option.bind_some, if_pos c1]
        conv => rhs; unfold delA
        by_cases e : nz (ix (delA a q k).2.l ((q + 1 + k : Nat) : Int)) = true
        · rw [if_pos e]
          unfold nz at e
          rw [if_pos e]
          rfl
        · rw [if_neg e]
          unfold nz at e
          rw [if_neg e]
          rfl
      · unfold slices_DeleteFunc__label_Trees_1w.s0
        have hdl := (delA a q (11 - q)).2.h
        have : ¬ ((q + 1 + (11 - q) : Nat) : Int) < ((delA a q (11 - q)).2.l.length : Int) := by omega
        simp only [this, decide_false, Bool.false_eq_true, if_false]
    obtain ⟨q1, q2, q3⟩ := inv (11 - q) (by omega)
    have hdl := (delA a q (11 - q)).2.h
    have w1 : IntKind.i64.wrap ((q : Int) + 1) = ((q + 1 : Nat) : Int) := by rw [w64 (by omega) (by omega)]; omega
    have hne : ¬ (q : Int) = -1 := by omega
    rw [hidx]
    simp only [Option.bind_some, hne, decide_false, Bool.false_eq_true, if_false, w1, hloop, Int.toNat_natCast]
    have cl := (Arr.clr (delA a q (11 - q)).2 (delA a q (11 - q)).1 (0 : Int)).h
    rw [if_pos (by omega), if_pos (by omega), if_pos (by omega)]
    have e1 : cut (Arr.clr (delA a q (11 - q)).2 (delA a q (11 - q)).1 (0 : Int)).l 0 ((delA a q (11 - q)).1 : Int) = (delA a q (11 - q)).2.l.take (delA a q (11 - q)).1 := by
      unfold cut
      rw [Int.toNat_natCast]
      show ((((delA a q (11 - q)).2.l.take (delA a q (11 - q)).1) ++ List.replicate _ 0).take (delA a q (11 - q)).1).drop 0 = _
      rw [List.drop_zero]
      exact List.take_left' (by rw [List.length_take]; omega)
    have e2 : a.l.take (q + 1 + (11 - q)) = a.l := List.take_of_length_le (by omega)
    rw [Option.bind_some, e1, q2, e2]
end Go.Proofs.Ytjhajfkfhdnciaa.Pure

/- rickyard/rickyardref11.Get: its model, and that the Go function computes it: written by gen.py. -/
set_option linter.unusedVariables false
namespace Go.Proofs.Ytjhajfkfhdnciaa
open Go Go.Xw
def rickyardref11_Get.s0 (fu : Nat) (t7 : Int × Int × (List UInt8) × Bool) : (Int × S_api_Queue) → Option (Sum S_api_Queue (Int × S_api_Queue)) := fun s36 => (if (decide (s36.1 < 12)) = true then (if (0 : Int) ≤ (IntKind.i64.wrap (4 + (IntKind.i64.wrap (2 * s36.1)))) ∧ (IntKind.i64.wrap (4 + (IntKind.i64.wrap (2 * s36.1)))) ≤ (IntKind.i64.wrap (6 + (IntKind.i64.wrap (2 * s36.1)))) ∧ (IntKind.i64.wrap (6 + (IntKind.i64.wrap (2 * s36.1)))) ≤ (List.length t7.2.2.1 : Int) then ((rickyardref01_Int.f fu (cut t7.2.2.1 (IntKind.i64.wrap (4 + (IntKind.i64.wrap (2 * s36.1)))) (IntKind.i64.wrap (6 + (IntKind.i64.wrap (2 * s36.1))))) : Option Int).bind fun t45 => (if 0 ≤ s36.1 ∧ s36.1 < 12 then some (Sum.inr ((IntKind.i64.wrap (s36.1 + 1)), (⟨s36.2.Name, s36.2.Count, (Arr.set s36.2.Roots s36.1 t45)⟩ : S_api_Queue))) else none)) else none) else some (Sum.inl (s36.2)))
def rickyardref11_Get.f (fu : Nat) (a0 : List Int) : Option (S_api_Queue × Bool) := ((rickyardref07_Open.f fu a0 : Option (Int × Int × (List UInt8) × Bool)).bind fun t7 => (if (if (!t7.2.2.2) = true then true else (if (!decide (t7.1 = 5)) = true then true else (decide (t7.2.1 > 28)))) = true then some ((⟨[], (0 : Int), (Arr.rep 12 (0 : Int))⟩ : S_api_Queue), false) else (if (4 : Int) ≤ (List.length t7.2.2.1 : Int) then ((rickyardref01_Int.f fu (cut t7.2.2.1 0 4) : Option Int).bind fun t18 => (if (0 : Int) ≤ 28 ∧ 28 ≤ (IntKind.i64.wrap (28 + t7.2.1)) ∧ (IntKind.i64.wrap (28 + t7.2.1)) ≤ (List.length t7.2.2.1 : Int) then ((loopM (rickyardref11_Get.s0 fu t7) fu (0, (⟨(cut t7.2.2.1 28 (IntKind.i64.wrap (28 + t7.2.1))), t18, (Arr.rep 12 (0 : Int))⟩ : S_api_Queue))).bind fun e37 => ((((rickyardref11_Right.f fu e37 : Option Bool).bind fun t56 => (if (!t56) = true then some (true) else ((rickyardref11_Put.f fu e37 : Option (List UInt8)).bind fun t63 => some ((!decide (t63 = (List.map toB a0))))))) : Option Bool).bind fun x54 => (if x54 = true then some ((⟨[], (0 : Int), (Arr.rep 12 (0 : Int))⟩ : S_api_Queue), false) else some (e37, true)))) else none)) else none)))
set_option maxRecDepth 100000 in
set_option maxHeartbeats 400000 in
theorem rickyardref11_Get.ok (fu : Nat) (w : World) (a0 : List Int) (V0_0 : Value) (R0_0 : Rd (kI .u8) w V0_0 a0) (r : S_api_Queue × Bool) (h : rickyardref11_Get.f fu a0 = some r) :
    Calls Try.prog 84 (([V0_0] : List Value).toArray) w (fun e w' => ∃ v, e = .returned v ∧ v = .tuple #[aggV [Seg.cell (sv r.1.Name), Seg.cell (.int .i64 r.1.Count), Kd.seg (kA 12 (kI .i64)) r.1.Roots], .bool r.2] ∧ Gr w w') := by
  unfold rickyardref11_Get.f at h
  have fB : Gr w w := Fr.refl _ _
  refine calls_cw Try.func84 rfl Try.ntmps84 rfl ?_
  refine cw_seq ?_
  refine cw_region ?_
  refine ol_op (by exact opv_alloc (ss := [Seg.cell (sv []), Seg.cell (.int .i64 (0 : Int)), Kd.seg (kA 12 (kI .i64)) (Arr.rep 12 (0 : Int))]) rfl ze98 rfl) rfl rfl rfl ?_
  rintro _ w6 ⟨G1, rfl, b2, q3, z4⟩
  have z4 := Nat.le_trans fB.size z4
  have fB := fB.gr q3
  refine ol_val (v := .bool false) (by exact xr_assign rfl rfl) rfl rfl rfl ?_
  refine ol_nil ?_
  refine cw_seq ?_
  refine cw_region ?_
  refine ol_val (v := V0_0) (by exact xr_move rfl rfl) rfl rfl rfl ?_
  obtain ⟨t7, k8, h⟩ := bs h
  refine ol_op (by exact opv_call rfl cal32 (ac rfl an) (rickyardref07_Open.ok fu _ a0 V0_0 (R0_0.gr fB) _ k8)) rfl rfl rfl ?_
  rintro _ w10 ⟨rfl, q9⟩
  have b2 := b2.gr q9
  have fB := fB.gr q9
  refine ol_val (v := .tuple #[.int .i64 t7.1, .int .i64 t7.2.1, sv t7.2.2.1, .bool t7.2.2.2]) (by exact xr_move rfl rfl) rfl rfl rfl ?_
  refine ol_val (v := .int .i64 t7.1) (by exact xr_extract rfl rfl rfl) rfl rfl rfl ?_
  refine ol_val (v := .int .i64 t7.2.1) (by exact xr_extract rfl rfl rfl) rfl rfl rfl ?_
  refine ol_val (v := sv t7.2.2.1) (by exact xr_extract rfl rfl rfl) rfl rfl rfl ?_
  refine ol_val (v := .bool t7.2.2.2) (by exact xr_extract rfl rfl rfl) rfl rfl rfl ?_
  refine ol_val (v := .int .i64 t7.1) (by exact xr_assign rfl rfl) rfl rfl rfl ?_
  refine ol_val (v := .int .i64 t7.2.1) (by exact xr_assign rfl rfl) rfl rfl rfl ?_
  refine ol_val (v := sv t7.2.2.1) (by exact xr_assign rfl rfl) rfl rfl rfl ?_
  refine ol_val (v := .bool t7.2.2.2) (by exact xr_assign rfl rfl) rfl rfl rfl ?_
  refine ol_nil ?_
  refine cw_seq ?_
  refine cw_seq ?_
  refine cw_mid (fun ρ' w' => ρ' 0 = V0_0 ∧ ρ' 2 = .pointer (some ⟨G1, 0, none⟩) ∧ ρ' 5 = .int .i64 t7.2.1 ∧ ρ' 6 = sv t7.2.2.1 ∧ ρ' 26 = .bool (if (!t7.2.2.2) = true then true else (if (!decide (t7.1 = 5)) = true then true else (decide (t7.2.1 > 28)))) ∧ w10 = w') ?_ ?_
  · skip
    refine cw_region ?_
    refine ol_val (v := .bool t7.2.2.2) (by exact xr_move rfl rfl) rfl rfl rfl ?_
    refine ol_val (v := .bool (!t7.2.2.2)) (by exact xr_not rfl rfl) rfl rfl rfl ?_
    refine ol_val (v := .bool (!t7.2.2.2)) (by exact xr_move rfl rfl) rfl rfl rfl ?_
    rcases bt (!t7.2.2.2) with c11 | c11
    · skip
      refine ol_gskip rfl rfl rfl rfl rfl c11 ?_
      refine ol_gskip rfl rfl rfl rfl rfl c11 ?_
      refine ol_val (v := .bool true) (by exact xr_pickT rfl rfl c11 rfl) rfl rfl rfl ?_
      refine ol_val (v := .bool true) (by exact xr_move rfl rfl) rfl rfl rfl ?_
      refine ol_gskip rfl rfl rfl rfl rfl rfl ?_
      refine ol_gskip rfl rfl rfl rfl rfl rfl ?_
      refine ol_val (v := .bool true) (by exact xr_pickT rfl rfl rfl rfl) rfl rfl rfl ?_
      refine ol_nil ?_
      refine thn_i ?_
      exact ⟨rfl, rfl, rfl, rfl, (rfl).trans (congrArg (fun z => (.bool z : Value)) (show true = (if (!t7.2.2.2) = true then true else (if (!decide (t7.1 = 5)) = true then true else (decide (t7.2.1 > 28)))) from by rw [ite_t c11])), rfl⟩
    · skip
      refine ol_gval (v := .int .i64 t7.1) (by exact xr_move rfl rfl) rfl rfl rfl rfl rfl c11 ?_
      refine ol_gval (v := .bool (!decide (t7.1 = 5))) (by exact xr_neI rfl Try.underlying3 rfl rfl rfl) rfl rfl rfl rfl rfl c11 ?_
      refine ol_val (v := .bool (!decide (t7.1 = 5))) (by exact xr_pickF rfl rfl c11 rfl) rfl rfl rfl ?_
      refine ol_val (v := .bool (!decide (t7.1 = 5))) (by exact xr_move rfl rfl) rfl rfl rfl ?_
      rcases bt (!decide (t7.1 = 5)) with c12 | c12
      · skip
        refine ol_gskip rfl rfl rfl rfl rfl c12 ?_
        refine ol_gskip rfl rfl rfl rfl rfl c12 ?_
        refine ol_val (v := .bool true) (by exact xr_pickT rfl rfl c12 rfl) rfl rfl rfl ?_
        refine ol_nil ?_
        refine thn_i ?_
        exact ⟨rfl, rfl, rfl, rfl, (rfl).trans (congrArg (fun z => (.bool z : Value)) (show true = (if (!t7.2.2.2) = true then true else (if (!decide (t7.1 = 5)) = true then true else (decide (t7.2.1 > 28)))) from by rw [ite_f c11, ite_t c12])), rfl⟩
      · skip
        refine ol_gval (v := .int .i64 t7.2.1) (by exact xr_move rfl rfl) rfl rfl rfl rfl rfl c12 ?_
        refine ol_gval (v := .bool (decide (t7.2.1 > 28))) (by exact xr_gtr rfl rfl rfl) rfl rfl rfl rfl rfl c12 ?_
        refine ol_val (v := .bool (decide (t7.2.1 > 28))) (by exact xr_pickF rfl rfl c12 rfl) rfl rfl rfl ?_
        refine ol_nil ?_
        refine thn_i ?_
        exact ⟨rfl, rfl, rfl, rfl, (rfl).trans (congrArg (fun z => (.bool z : Value)) (show (decide (t7.2.1 > 28)) = (if (!t7.2.2.2) = true then true else (if (!decide (t7.1 = 5)) = true then true else (decide (t7.2.1 > 28)))) from by rw [ite_f c11, ite_f c12])), rfl⟩
  · skip
    rintro ρ13 _ ⟨e0, e2, e5, e6, e26, rfl⟩
    rcases is h with ⟨c14, h⟩ | ⟨c14, h⟩
    · refine cw_condT e26 c14 ?_
      refine cw_seq ?_
      refine cw_region ?_
      refine ol_val (v := aggV [Seg.cell (sv []), Seg.cell (.int .i64 (0 : Int)), Kd.seg (kA 12 (kI .i64)) (Arr.rep 12 (0 : Int))]) (by exact xr_build (vals := []) rfl trivial (bl98_ _)) rfl rfl rfl ?_
      refine ol_op0 (by exact opv_store (ss' := [Seg.cell (sv []), Seg.cell (.int .i64 (0 : Int)), Kd.seg (kA 12 (kI .i64)) (Arr.rep 12 (0 : Int))]) (xs := cellsOf [Seg.cell (sv []), Seg.cell (.int .i64 (0 : Int)), Kd.seg (kA 12 (kI .i64)) (Arr.rep 12 (0 : Int))]) rfl sz98 e2 rfl rfl (len_cellsOf _) (one_cellsOf _) b2 (Spl.segs _ 0 3 [Seg.cell (sv []), Seg.cell (.int .i64 (0 : Int)), Kd.seg (kA 12 (kI .i64)) (Arr.rep 12 (0 : Int))] rfl rfl)) rfl rfl ?_
      rintro _ w16 ⟨b2, q15⟩
      have fB := fB.wr q15 z4
      refine ol_val (v := .bool false) (by exact xr_assign rfl rfl) rfl rfl rfl ?_
      refine ol_nil ?_
      refine cw_ret ?_
      repeat (first | with_reducible refine thn_r ?_ | with_reducible refine blk_r ?_)
      obtain rfl := Option.some.inj h
      refine fin_cell_tmp Try.results84 e2 ag98 sz98 b2 (by rfl) rfl ?_
      exact ⟨_, rfl, rfl, fB⟩
    · refine cw_condF e26 c14 ?_
      refine cw_skip ?_
      refine cw_seq ?_
      obtain ⟨g17, h⟩ := gs h
      obtain ⟨t18, k19, h⟩ := bs h
      obtain ⟨g21, h⟩ := gs h
      refine cw_drawL 9 [fun vz wz => vz = (sv t7.2.2.1 : Value), fun vz wz => vz = (sv (cut t7.2.2.1 0 4) : Value), fun vz wz => vz = (.int .i64 t18 : Value), fun vz wz => vz = (sv t7.2.2.1 : Value), fun vz wz => vz = (.int .i64 t7.2.1 : Value), fun vz wz => vz = (.int .i64 (IntKind.i64.wrap (28 + t7.2.1)) : Value), fun vz wz => vz = (sv (cut t7.2.2.1 28 (IntKind.i64.wrap (28 + t7.2.1))) : Value), fun vz wz => vz = (aggV [Seg.cell (sv (cut t7.2.2.1 28 (IntKind.i64.wrap (28 + t7.2.1)))), Seg.cell (.int .i64 t18), Kd.seg (kA 12 (kI .i64)) (Arr.rep 12 (0 : Int))] : Value), fun vz wz => ∃ G22 : Nat, ∃ b23 : Blk wz G22 98 [Seg.cell (sv []), Seg.cell (.int .i64 (0 : Int)), Kd.seg (kA 12 (kI .i64)) (Arr.rep 12 (0 : Int))], ∃ z25 : w10.heap.size ≤ G22, vz = (.pointer (some ⟨G22, 0, none⟩) : Value)] mo rfl ⟨fun _ _ _ h _ => h, fun _ _ _ h _ => h, fun _ _ _ h _ => h, fun _ _ _ h _ => h, fun _ _ _ h _ => h, fun _ _ _ h _ => h, fun _ _ _ h _ => h, fun _ _ _ h _ => h, fun _ _ _ ⟨G22, b23, z25, h⟩ q => ⟨G22, b23.gr q, z25, h⟩, trivial⟩ ?_ ?_
      · refine ⟨?_, ?_, ?_, ?_, ?_, ?_, ?_, ?_, ?_, trivial⟩
        · intro ρz wz hz hk hd
          exact sk_val (v := sv t7.2.2.1) (by exact xr_move rfl ((hk 6 rfl).trans e6)) rfl rfl
        · intro ρz wz hz hk hd
          have d28 := hd 0 rfl 28 rfl
          exact sk_val (v := sv (cut t7.2.2.1 0 4)) (by exact xr_str_h rfl Try.underlying9 d28 rfl (by decide) g17) rfl rfl
        · intro ρz wz hz hk hd
          have d29 := hd 1 rfl 29 rfl
          refine sk_op (by exact opv_call rfl cal103 (ac d29 an) (rickyardref01_Int.ok fu _ (cut t7.2.2.1 0 4) _ k19)) rfl ?_
          rintro _ wy ⟨rfl, q20⟩
          exact ⟨rfl, q20⟩
        · intro ρz wz hz hk hd
          exact sk_val (v := sv t7.2.2.1) (by exact xr_move rfl ((hk 6 rfl).trans e6)) rfl rfl
        · intro ρz wz hz hk hd
          exact sk_val (v := .int .i64 t7.2.1) (by exact xr_move rfl ((hk 5 rfl).trans e5)) rfl rfl
        · intro ρz wz hz hk hd
          have d32 := hd 4 rfl 32 rfl
          exact sk_val (v := .int .i64 (IntKind.i64.wrap (28 + t7.2.1))) (by exact xr_add rfl rfl d32) rfl rfl
        · intro ρz wz hz hk hd
          have d31 := hd 3 rfl 31 rfl
          have d33 := hd 5 rfl 33 rfl
          exact sk_val (v := sv (cut t7.2.2.1 28 (IntKind.i64.wrap (28 + t7.2.1)))) (by exact xr_str_lh rfl Try.underlying9 d31 rfl d33 g21.1 g21.2.1 g21.2.2) rfl rfl
        · intro ρz wz hz hk hd
          have d30 := hd 2 rfl 30 rfl
          have d34 := hd 6 rfl 34 rfl
          exact sk_val (by exact xr_build (vals := [(1, .int .i64 t18), (0, sv (cut t7.2.2.1 28 (IntKind.i64.wrap (28 + t7.2.1))))]) rfl ⟨rfl, d30, ⟨rfl, d34, trivial⟩⟩ (bl98_1_0 t18 (cut t7.2.2.1 28 (IntKind.i64.wrap (28 + t7.2.1))) _)) rfl rfl
        · intro ρz wz hz hk hd
          refine sk_op (by exact opv_alloc (ss := [Seg.cell (sv []), Seg.cell (.int .i64 (0 : Int)), Kd.seg (kA 12 (kI .i64)) (Arr.rep 12 (0 : Int))]) rfl ze98 rfl) rfl ?_
          rintro _ wy ⟨G22, rfl, b23, q24, z25⟩
          exact ⟨⟨G22, b23, Nat.le_trans hz.size z25, rfl⟩, q24⟩
      · intro ρ27 w28 q29 hk hd
        have e0 := (hk 0 rfl).trans e0
        have e2 := (hk 2 rfl).trans e2
        have e6 := (hk 6 rfl).trans e6
        obtain ⟨G30, b31, z32, e8⟩ := hd 8 rfl 8 rfl
        have e35 := hd 7 rfl 35 rfl
        have n33 := b2.ne z32
        have z32 := Nat.le_trans fB.size z32
        have b2 := b2.gr q29
        have fB := fB.gr q29
        refine ol_op0 (by exact opv_store (ss' := [Seg.cell (sv (cut t7.2.2.1 28 (IntKind.i64.wrap (28 + t7.2.1)))), Seg.cell (.int .i64 t18), Kd.seg (kA 12 (kI .i64)) (Arr.rep 12 (0 : Int))]) (xs := cellsOf [Seg.cell (sv (cut t7.2.2.1 28 (IntKind.i64.wrap (28 + t7.2.1)))), Seg.cell (.int .i64 t18), Kd.seg (kA 12 (kI .i64)) (Arr.rep 12 (0 : Int))]) rfl sz98 e8 e35 rfl (len_cellsOf _) (one_cellsOf _) b31 (Spl.segs _ 0 3 [Seg.cell (sv (cut t7.2.2.1 28 (IntKind.i64.wrap (28 + t7.2.1)))), Seg.cell (.int .i64 t18), Kd.seg (kA 12 (kI .i64)) (Arr.rep 12 (0 : Int))] rfl rfl)) rfl rfl ?_
        rintro _ w35 ⟨b31, q34⟩
        have b2 := b2.wr q34 n33
        have fB := fB.wr q34 z32
        refine ol_nil ?_
        refine cw_seq ?_
        refine cw_seq ?_
        refine cw_region ?_
        refine ol_val (v := .int .i64 0) (by exact xr_assign rfl rfl) rfl rfl rfl ?_
        refine ol_nil ?_
        obtain ⟨e37, l38, h39⟩ := bs h
        refine cw_mid (fun ρ' w' => ρ' 0 = V0_0 ∧ ρ' 2 = .pointer (some ⟨G1, 0, none⟩) ∧ ρ' 8 = .pointer (some ⟨G30, 0, none⟩) ∧ Blk w' G1 98 [Seg.cell (sv []), Seg.cell (.int .i64 (0 : Int)), Kd.seg (kA 12 (kI .i64)) (Arr.rep 12 (0 : Int))] ∧ Blk w' G30 98 [Seg.cell (sv e37.Name), Seg.cell (.int .i64 e37.Count), Kd.seg (kA 12 (kI .i64)) e37.Roots] ∧ Gr w w') ?_ ?_
        · refine cw_block ?_
          refine cw_round (fun (s36 : Int × S_api_Queue) ρ' w' => ρ' 0 = V0_0 ∧ ρ' 2 = .pointer (some ⟨G1, 0, none⟩) ∧ ρ' 6 = sv t7.2.2.1 ∧ ρ' 8 = .pointer (some ⟨G30, 0, none⟩) ∧ ρ' 9 = .int .i64 s36.1 ∧ Blk w' G1 98 [Seg.cell (sv []), Seg.cell (.int .i64 (0 : Int)), Kd.seg (kA 12 (kI .i64)) (Arr.rep 12 (0 : Int))] ∧ Blk w' G30 98 [Seg.cell (sv s36.2.Name), Seg.cell (.int .i64 s36.2.Count), Kd.seg (kA 12 (kI .i64)) s36.2.Roots] ∧ Gr w w') l38 ?_ ?_
          · skip
            exact ⟨e0, e2, e6, e8, rfl, b2, b31, fB⟩
          · rintro s36 x42 ρ40 w41 ⟨e0, e2, e6, e8, e9, b2, b31, fB⟩ h
            unfold rickyardref11_Get.s0 at h
            refine cw_seq ?_
            refine cw_seq ?_
            refine cw_region ?_
            refine ol_val (v := .int .i64 s36.1) (by exact xr_move rfl e9) rfl rfl rfl ?_
            refine ol_val (v := .bool (decide (s36.1 < 12))) (by exact xr_lss rfl rfl rfl) rfl rfl rfl ?_
            refine ol_nil ?_
            rcases is h with ⟨c43, h⟩ | ⟨c43, h⟩
            · refine cw_condT rfl c43 ?_
              refine cw_skip ?_
              refine cw_seq ?_
              refine cw_block ?_
              refine cw_region ?_
              refine ol_val (v := .int .i64 s36.1) (by exact xr_move rfl e9) rfl rfl rfl ?_
              refine ol_val (v := sv t7.2.2.1) (by exact xr_move rfl e6) rfl rfl rfl ?_
              refine ol_val (v := .int .i64 s36.1) (by exact xr_move rfl e9) rfl rfl rfl ?_
              refine ol_val (v := .int .i64 (IntKind.i64.wrap (2 * s36.1))) (by exact xr_mul rfl rfl rfl) rfl rfl rfl ?_
              refine ol_val (v := .int .i64 (IntKind.i64.wrap (4 + (IntKind.i64.wrap (2 * s36.1))))) (by exact xr_add rfl rfl rfl) rfl rfl rfl ?_
              refine ol_val (v := .int .i64 s36.1) (by exact xr_move rfl e9) rfl rfl rfl ?_
              refine ol_val (v := .int .i64 (IntKind.i64.wrap (2 * s36.1))) (by exact xr_mul rfl rfl rfl) rfl rfl rfl ?_
              refine ol_val (v := .int .i64 (IntKind.i64.wrap (6 + (IntKind.i64.wrap (2 * s36.1))))) (by exact xr_add rfl rfl rfl) rfl rfl rfl ?_
              obtain ⟨g44, h⟩ := gs h
              refine ol_val (v := sv (cut t7.2.2.1 (IntKind.i64.wrap (4 + (IntKind.i64.wrap (2 * s36.1)))) (IntKind.i64.wrap (6 + (IntKind.i64.wrap (2 * s36.1)))))) (by exact xr_str_lh rfl Try.underlying9 rfl rfl rfl g44.1 g44.2.1 g44.2.2) rfl rfl rfl ?_
              obtain ⟨t45, k46, h⟩ := bs h
              refine ol_op (by exact opv_call rfl cal103 (ac rfl an) (rickyardref01_Int.ok fu _ (cut t7.2.2.1 (IntKind.i64.wrap (4 + (IntKind.i64.wrap (2 * s36.1)))) (IntKind.i64.wrap (6 + (IntKind.i64.wrap (2 * s36.1))))) _ k46)) rfl rfl rfl ?_
              rintro _ w48 ⟨rfl, q47⟩
              have b2 := b2.gr q47
              have b31 := b31.gr q47
              have fB := fB.gr q47
              refine ol_val (v := .pointer (some ⟨G30, 2, none⟩)) (by exact xr_fieldAddr (p := 0) (q := 2) rfl fl98_2 e8) rfl rfl rfl ?_
              obtain ⟨g49, h⟩ := gs h
              refine ol_val (v := .pointer (some ⟨G30, 2 + Int.toNat s36.1 * 1, none⟩)) (by exact xr_indexA (p := 2) (s := 1) rfl Try.underlying96 sz3 rfl rfl g49.1 g49.2) rfl rfl rfl ?_
              refine ol_op0 (by exact opv_store (ss' := [Seg.cell (sv s36.2.Name), Seg.cell (.int .i64 s36.2.Count), Kd.seg (kA 12 (kI .i64)) (Arr.set s36.2.Roots s36.1 t45)]) (xs := cellsOf [Seg.cell (.int .i64 t45)]) rfl sz3 rfl rfl rfl (len_cellsOf _) (one_cellsOf _) b31 (Spl.seg_in _ 2 (Kd.seg (kA 12 (kI .i64)) (Arr.set s36.2.Roots s36.1 t45)) rfl rfl (Spl.arr s36.2.Roots s36.1 t45 g49.1 g49.2 (Spl.whole ((Kd.len _ _).trans (Kd.len _ _).symm))))) rfl rfl ?_
              rintro _ w51 ⟨b31, q50⟩
              have b2 := b2.wr q50 n33
              have fB := fB.wr q50 z32
              refine ol_nil ?_
              refine blk_i ?_
              refine cw_region ?_
              refine ol_val (v := .int .i64 s36.1) (by exact xr_move rfl e9) rfl rfl rfl ?_
              refine ol_val (v := .int .i64 (IntKind.i64.wrap (s36.1 + 1))) (by exact xr_add rfl rfl rfl) rfl rfl rfl ?_
              refine ol_val (v := .int .i64 (IntKind.i64.wrap (s36.1 + 1))) (by exact xr_assign rfl rfl) rfl rfl rfl ?_
              refine ol_nil ?_
              obtain rfl := Option.some.inj h
              refine lp_in ?_
              exact ⟨e0, e2, e6, e8, rfl, b2, b31, fB⟩
            · refine cw_condF rfl c43 ?_
              refine cw_exit ?_
              repeat (first | with_reducible refine thn_e ?_ | with_reducible refine blk_e rfl ?_)
              obtain rfl := Option.some.inj h
              refine lp_exit ?_
              rintro rfl
              refine thn_x ?_
              exact ⟨e0, e2, e8, b2, b31, fB⟩
        · rintro ρ52 w53 ⟨e0, e2, e8, b2, b31, fB⟩
          have h := h39
          refine cw_seq ?_
          refine cw_seq ?_
          obtain ⟨x54, j55, h⟩ := bs h
          refine cw_mid (fun ρ' w' => ρ' 2 = .pointer (some ⟨G1, 0, none⟩) ∧ ρ' 8 = .pointer (some ⟨G30, 0, none⟩) ∧ ρ' 61 = .bool x54 ∧ Gr w53 w') ?_ ?_
          · skip
            obtain ⟨t56, k57, j55⟩ := bs j55
            rcases is j55 with ⟨c59, j55⟩ | ⟨c59, j55⟩
            · skip
              refine cw_drawL 9 [fun vz wz => vz = (aggV [Seg.cell (sv e37.Name), Seg.cell (.int .i64 e37.Count), Kd.seg (kA 12 (kI .i64)) e37.Roots] : Value), fun vz wz => vz = (.bool t56 : Value), fun vz wz => vz = (.bool (!t56) : Value), fun vz wz => vz = (.bool (!t56) : Value), fun vz _ => vz = undef, fun vz _ => vz = undef, fun vz _ => vz = undef, fun vz _ => vz = undef, fun vz _ => vz = undef] mo rfl ⟨fun _ _ _ h _ => h, fun _ _ _ h _ => h, fun _ _ _ h _ => h, fun _ _ _ h _ => h, fun _ _ _ h _ => h, fun _ _ _ h _ => h, fun _ _ _ h _ => h, fun _ _ _ h _ => h, fun _ _ _ h _ => h, trivial⟩ ?_ ?_
              · refine ⟨?_, ?_, ?_, ?_, ?_, ?_, ?_, ?_, ?_, trivial⟩
                · intro ρz wz hz hk hd
                  exact sk_val (by exact xr_loadS (ss := [Seg.cell (sv e37.Name), Seg.cell (.int .i64 e37.Count), Kd.seg (kA 12 (kI .i64)) e37.Roots]) rfl ag98 sz98 rfl ((hk 8 rfl).trans e8) ((b31.gr hz).segs 0 3 rfl)) rfl rfl
                · intro ρz wz hz hk hd
                  have d52 := hd 0 rfl 52 rfl
                  refine sk_op (by exact opv_call rfl cal75 (ac d52 an) (rickyardref11_Right.ok fu _ e37 _ k57)) rfl ?_
                  rintro _ wy ⟨rfl, q58⟩
                  exact ⟨rfl, q58⟩
                · intro ρz wz hz hk hd
                  have d53 := hd 1 rfl 53 rfl
                  exact sk_val (v := .bool (!t56)) (by exact xr_not rfl d53) rfl rfl
                · intro ρz wz hz hk hd
                  have d54 := hd 2 rfl 54 rfl
                  exact sk_val (v := .bool (!t56)) (by exact xr_move rfl d54) rfl rfl
                · intro ρz wz hz hk hd
                  have d55 := hd 3 rfl 55 rfl
                  exact sk_skip rfl rfl d55 c59 rfl
                · intro ρz wz hz hk hd
                  have d55 := hd 3 rfl 55 rfl
                  exact sk_skip rfl rfl d55 c59 rfl
                · intro ρz wz hz hk hd
                  have d55 := hd 3 rfl 55 rfl
                  exact sk_skip rfl rfl d55 c59 rfl
                · intro ρz wz hz hk hd
                  have d55 := hd 3 rfl 55 rfl
                  exact sk_skip rfl rfl d55 c59 rfl
                · intro ρz wz hz hk hd
                  have d55 := hd 3 rfl 55 rfl
                  exact sk_skip rfl rfl d55 c59 rfl
              · intro ρ60 w61 q62 hk hd
                have e2 := (hk 2 rfl).trans e2
                have e8 := (hk 8 rfl).trans e8
                have e55 := hd 3 rfl 55 rfl
                have b2 := b2.gr q62
                have b31 := b31.gr q62
                have fB := fB.gr q62
                refine ol_val (v := .bool true) (by exact xr_pickT rfl e55 c59 rfl) rfl rfl rfl ?_
                refine ol_nil ?_
                obtain rfl := Option.some.inj j55
                refine thn_i ?_
                exact ⟨e2, e8, rfl, q62⟩
            · skip
              obtain ⟨t63, k64, j55⟩ := bs j55
              refine cw_drawL 9 [fun vz wz => vz = (aggV [Seg.cell (sv e37.Name), Seg.cell (.int .i64 e37.Count), Kd.seg (kA 12 (kI .i64)) e37.Roots] : Value), fun vz wz => vz = (.bool t56 : Value), fun vz wz => vz = (.bool (!t56) : Value), fun vz wz => vz = (.bool (!t56) : Value), fun vz wz => vz = (aggV [Seg.cell (sv e37.Name), Seg.cell (.int .i64 e37.Count), Kd.seg (kA 12 (kI .i64)) e37.Roots] : Value), fun vz wz => vz = (sv t63 : Value), fun vz wz => vz = (V0_0 : Value), fun vz wz => vz = (sv (List.map toB a0) : Value), fun vz wz => vz = (.bool (!decide (t63 = (List.map toB a0))) : Value)] mo rfl ⟨fun _ _ _ h _ => h, fun _ _ _ h _ => h, fun _ _ _ h _ => h, fun _ _ _ h _ => h, fun _ _ _ h _ => h, fun _ _ _ h _ => h, fun _ _ _ h _ => h, fun _ _ _ h _ => h, fun _ _ _ h _ => h, trivial⟩ ?_ ?_
              · refine ⟨?_, ?_, ?_, ?_, ?_, ?_, ?_, ?_, ?_, trivial⟩
                · intro ρz wz hz hk hd
                  exact sk_val (by exact xr_loadS (ss := [Seg.cell (sv e37.Name), Seg.cell (.int .i64 e37.Count), Kd.seg (kA 12 (kI .i64)) e37.Roots]) rfl ag98 sz98 rfl ((hk 8 rfl).trans e8) ((b31.gr hz).segs 0 3 rfl)) rfl rfl
                · intro ρz wz hz hk hd
                  have d52 := hd 0 rfl 52 rfl
                  refine sk_op (by exact opv_call rfl cal75 (ac d52 an) (rickyardref11_Right.ok fu _ e37 _ k57)) rfl ?_
                  rintro _ wy ⟨rfl, q58⟩
                  exact ⟨rfl, q58⟩
                · intro ρz wz hz hk hd
                  have d53 := hd 1 rfl 53 rfl
                  exact sk_val (v := .bool (!t56)) (by exact xr_not rfl d53) rfl rfl
                · intro ρz wz hz hk hd
                  have d54 := hd 2 rfl 54 rfl
                  exact sk_val (v := .bool (!t56)) (by exact xr_move rfl d54) rfl rfl
                · intro ρz wz hz hk hd
                  have d55 := hd 3 rfl 55 rfl
                  exact sk_gval (by exact xr_loadS (ss := [Seg.cell (sv e37.Name), Seg.cell (.int .i64 e37.Count), Kd.seg (kA 12 (kI .i64)) e37.Roots]) rfl ag98 sz98 rfl ((hk 8 rfl).trans e8) ((b31.gr hz).segs 0 3 rfl)) rfl rfl d55 c59 rfl
                · intro ρz wz hz hk hd
                  have d56 := hd 4 rfl 56 rfl
                  have d55 := hd 3 rfl 55 rfl
                  refine sk_gop (by exact opv_call rfl cal78 (ac d56 an) (rickyardref11_Put.ok fu _ e37 _ k64)) rfl rfl d55 c59 ?_
                  rintro _ wy ⟨rfl, q65⟩
                  exact ⟨rfl, q65⟩
                · intro ρz wz hz hk hd
                  have d55 := hd 3 rfl 55 rfl
                  exact sk_gval (v := V0_0) (by exact xr_move rfl ((hk 0 rfl).trans e0)) rfl rfl d55 c59 rfl
                · intro ρz wz hz hk hd
                  have d58 := hd 6 rfl 58 rfl
                  have d55 := hd 3 rfl 55 rfl
                  exact sk_gval (v := sv (List.map toB a0)) (by exact xr_toStr rfl Try.underlying22 Try.underlying5 Try.underlying9 d58 (R0_0.gr (fB.gr hz))) rfl rfl d55 c59 rfl
                · intro ρz wz hz hk hd
                  have d57 := hd 5 rfl 57 rfl
                  have d59 := hd 7 rfl 59 rfl
                  have d55 := hd 3 rfl 55 rfl
                  exact sk_gval (v := .bool (!decide (t63 = (List.map toB a0)))) (by exact xr_neStr rfl Try.underlying9 d57 d59) rfl rfl d55 c59 rfl
              · intro ρ66 w67 q68 hk hd
                have e2 := (hk 2 rfl).trans e2
                have e8 := (hk 8 rfl).trans e8
                have e55 := hd 3 rfl 55 rfl
                have e60 := hd 8 rfl 60 rfl
                have b2 := b2.gr q68
                have b31 := b31.gr q68
                have fB := fB.gr q68
                refine ol_val (v := .bool (!decide (t63 = (List.map toB a0)))) (by exact xr_pickF rfl e55 c59 e60) rfl rfl rfl ?_
                refine ol_nil ?_
                obtain rfl := Option.some.inj j55
                refine thn_i ?_
                exact ⟨e2, e8, rfl, q68⟩
          · skip
            rintro ρ69 w70 ⟨e2, e8, e61, q71⟩
            have b2 := b2.gr q71
            have b31 := b31.gr q71
            have fB := fB.gr q71
            rcases is h with ⟨c72, h⟩ | ⟨c72, h⟩
            · refine cw_condT e61 c72 ?_
              refine cw_seq ?_
              refine cw_region ?_
              refine ol_val (v := aggV [Seg.cell (sv []), Seg.cell (.int .i64 (0 : Int)), Kd.seg (kA 12 (kI .i64)) (Arr.rep 12 (0 : Int))]) (by exact xr_build (vals := []) rfl trivial (bl98_ _)) rfl rfl rfl ?_
              refine ol_op0 (by exact opv_store (ss' := [Seg.cell (sv []), Seg.cell (.int .i64 (0 : Int)), Kd.seg (kA 12 (kI .i64)) (Arr.rep 12 (0 : Int))]) (xs := cellsOf [Seg.cell (sv []), Seg.cell (.int .i64 (0 : Int)), Kd.seg (kA 12 (kI .i64)) (Arr.rep 12 (0 : Int))]) rfl sz98 e2 rfl rfl (len_cellsOf _) (one_cellsOf _) b2 (Spl.segs _ 0 3 [Seg.cell (sv []), Seg.cell (.int .i64 (0 : Int)), Kd.seg (kA 12 (kI .i64)) (Arr.rep 12 (0 : Int))] rfl rfl)) rfl rfl ?_
              rintro _ w74 ⟨b2, q73⟩
              have fB := fB.wr q73 z4
              refine ol_val (v := .bool false) (by exact xr_assign rfl rfl) rfl rfl rfl ?_
              refine ol_nil ?_
              refine cw_ret ?_
              repeat (first | with_reducible refine thn_r ?_ | with_reducible refine blk_r ?_)
              obtain rfl := Option.some.inj h
              refine fin_cell_tmp Try.results84 e2 ag98 sz98 b2 (by rfl) rfl ?_
              exact ⟨_, rfl, rfl, fB⟩
            · refine cw_condF e61 c72 ?_
              refine cw_skip ?_
              refine cw_seq ?_
              refine cw_region ?_
              refine ol_val (v := aggV [Seg.cell (sv e37.Name), Seg.cell (.int .i64 e37.Count), Kd.seg (kA 12 (kI .i64)) e37.Roots]) (by exact xr_loadS (ss := [Seg.cell (sv e37.Name), Seg.cell (.int .i64 e37.Count), Kd.seg (kA 12 (kI .i64)) e37.Roots]) rfl ag98 sz98 rfl e8 (b31.segs 0 3 rfl)) rfl rfl rfl ?_
              refine ol_op0 (by exact opv_store (ss' := [Seg.cell (sv e37.Name), Seg.cell (.int .i64 e37.Count), Kd.seg (kA 12 (kI .i64)) e37.Roots]) (xs := cellsOf [Seg.cell (sv e37.Name), Seg.cell (.int .i64 e37.Count), Kd.seg (kA 12 (kI .i64)) e37.Roots]) rfl sz98 e2 rfl rfl (len_cellsOf _) (one_cellsOf _) b2 (Spl.segs _ 0 3 [Seg.cell (sv e37.Name), Seg.cell (.int .i64 e37.Count), Kd.seg (kA 12 (kI .i64)) e37.Roots] rfl rfl)) rfl rfl ?_
              rintro _ w76 ⟨b2, q75⟩
              have fB := fB.wr q75 z4
              refine ol_val (v := .bool true) (by exact xr_assign rfl rfl) rfl rfl rfl ?_
              refine ol_nil ?_
              refine cw_ret ?_
              repeat (first | with_reducible refine thn_r ?_ | with_reducible refine blk_r ?_)
              obtain rfl := Option.some.inj h
              refine fin_cell_tmp Try.results84 e2 ag98 sz98 b2 (by rfl) rfl ?_
              exact ⟨_, rfl, rfl, fB⟩
end Go.Proofs.Ytjhajfkfhdnciaa

/- Labels of queues: what is right, laid and read. -/
set_option linter.unusedVariables false
set_option linter.unusedSimpArgs false
namespace Go.Proofs.Ytjhajfkfhdnciaa.Pure
open Go Go.Xw
theorem fst4_wide {c0 c1 c2 c3 n : Nat} : (fst4 c0 c1 c2 c3 n).2 ≤ 3 ∨ 65536 ≤ (fst4 c0 c1 c2 c3 n).1 := by
  unfold fst4
  by_cases h0 : c0 < 128
  · rw [if_pos h0]
    exact .inl (by simp)
  · rw [if_neg h0]
    by_cases h2 : (194 ≤ c0 ∧ c0 ≤ 223) ∧ (1 < n ∧ 128 ≤ c1 ∧ c1 ≤ 191)
    · rw [if_pos h2]
      exact .inl (by simp)
    · rw [if_neg h2]
      by_cases h3 : (224 ≤ c0 ∧ c0 ≤ 239) ∧ (1 < n ∧ (if c0 = 224 then 160 else 128) ≤ c1 ∧ c1 ≤ (if c0 = 237 then 159 else 191)) ∧ (2 < n ∧ 128 ≤ c2 ∧ c2 ≤ 191)
      · rw [if_pos h3]
        exact .inl (by simp)
      · rw [if_neg h3]
        by_cases h4 : (240 ≤ c0 ∧ c0 ≤ 244) ∧ (1 < n ∧ (if c0 = 240 then 144 else 128) ≤ c1 ∧ c1 ≤ (if c0 = 244 then 143 else 191)) ∧ (2 < n ∧ 128 ≤ c2 ∧ c2 ≤ 191) ∧ (3 < n ∧ 128 ≤ c3 ∧ c3 ≤ 191)
        · rw [if_pos h4]
          right
          have h5 := h4.1
          have h6 := h4.2.1.2.1
          simp only
          by_cases e : c0 = 240
          · rw [if_pos e] at h6
            omega
          · rw [if_neg e] at h6
            omega
        · rw [if_neg h4]
          exact .inl (by simp)
theorem rs_wide : ∀ (k : Nat) (m : List UInt8), m.length ≤ k → (∀ r ∈ rs k m, runeOk r) → m.length ≤ 3 * (rs k m).length
  | 0, m, hk, _ => by omega
  | k + 1, m, hk, h => by
    unfold rs at h ⊢
    by_cases hm : m = []
    · subst hm
      simp
    · rw [if_neg hm] at h ⊢
      have hp := List.length_pos_iff.2 hm
      obtain ⟨h1, h2⟩ := first_wide hp
      have ih := rs_wide k (m.drop (first m).2) (by rw [List.length_drop]; omega) fun r hr => h r (List.mem_cons_of_mem _ hr)
      have h0 := h _ List.mem_cons_self
      have hw : (first m).2 ≤ 3 := by
        rcases fst4_wide (c0 := oct m 0) (c1 := oct m 1) (c2 := oct m 2) (c3 := oct m 3) (n := m.length) with e | e
        · exact e
        · have e' : 65536 ≤ (first m).1 := e
          unfold runeOk at h0
          omega
      rw [List.length_drop] at ih
      rw [List.length_cons]
      omega
theorem NameOk.len {s : List UInt8} (h : NameOk s) (hs : s.length ≤ 300) : s.length ≤ 24 := by
  have := rs_wide 399 s (by omega) h.2
  have := h.1.2
  omega
/-! ### Bits -/
theorem bit64 {c i : Nat} (hc : c < 9223372036854775808) (hi : i < 64) : bAnd .i64 (shR .i64 (c : Int) (i : Int)) 1 = ((c / 2 ^ i % 2 : Nat) : Int) := by
  have e1 : shR .i64 (c : Int) (i : Int) = ((c / 2 ^ i : Nat) : Int) := by
    unfold shR
    rw [Int.toNat_natCast, show min i IntKind.i64.bits = i from Nat.min_eq_left (by show i ≤ 64; omega)]
    rw [show ((2 : Int) ^ i) = ((2 ^ i : Nat) : Int) by push_cast; rfl]
    rw [Int.fdiv_eq_ediv_of_nonneg _ (Int.natCast_nonneg _)]
    rfl
  rw [e1]
  have hq : c / 2 ^ i < 9223372036854775808 := Nat.lt_of_le_of_lt (Nat.div_le_self _ _) hc
  generalize c / 2 ^ i = q at *
  unfold bAnd
  have e2 : (BitVec.ofInt IntKind.i64.bits (q : Int) &&& BitVec.ofInt IntKind.i64.bits 1).toNat = q % 2 := by
    rw [BitVec.toNat_and]
    have a1 : (BitVec.ofInt IntKind.i64.bits (q : Int)).toNat = q := by
      show (BitVec.ofInt 64 (q : Int)).toNat = q
      rw [BitVec.toNat_ofInt]
      omega
    have a2 : (BitVec.ofInt IntKind.i64.bits 1).toNat = 1 := rfl
    rw [a1, a2, Nat.and_one_is_mod]
  rw [e2, w64 (by omega) (by omega)]
/-! ### What is right -/
def rootOk (c : Nat) (l : List Int) (i : Nat) : Prop := (c / 2 ^ i % 2 = 0 → ix l (i : Int) = 0) ∧ (c / 2 ^ i % 2 = 1 → numOk (ix l (i : Int)))
instance (c : Nat) (l : List Int) (i : Nat) : Decidable (rootOk c l i) := inferInstanceAs (Decidable (_ ∧ _))
def QueueOk (q : S_api_Queue) : Prop := NameOk q.Name ∧ (0 ≤ q.Count ∧ q.Count ≤ 4095) ∧ ∀ i, i < 12 → rootOk q.Count.toNat q.Roots.l i
instance (q : S_api_Queue) : Decidable (QueueOk q) := inferInstanceAs (Decidable (_ ∧ _))
theorem getIx {n : Nat} (a : Arr n Int) (i : Nat) : Arr.get a (i : Int) = ix a.l (i : Int) := rfl
theorem queue_head {q : S_api_Queue} (hs : q.Name.length ≤ 300) : (((name_Right.f 400 q.Name : Option Bool).bind fun t9 => (if (!t9) = true then some (true) else (if (decide (q.Count < 0)) = true then some (true) else some ((decide (q.Count ≥ 4096)))))) : Option Bool) = some (!decide (NameOk q.Name ∧ (0 ≤ q.Count ∧ q.Count ≤ 4095))) := by
  rw [name_eq hs, Option.bind_some]
  by_cases h1 : NameOk q.Name
  · rw [decide_eq_true h1]
    by_cases h2 : q.Count < 0
    · rw [decide_eq_true h2, decide_eq_false (fun x : NameOk q.Name ∧ (0 ≤ q.Count ∧ q.Count ≤ 4095) => by have := x.2.1; omega)]
      rfl
    · rw [decide_eq_false h2]
      by_cases h3 : q.Count ≥ 4096
      · rw [decide_eq_true h3, decide_eq_false (fun x : NameOk q.Name ∧ (0 ≤ q.Count ∧ q.Count ≤ 4095) => by have := x.2.2; omega)]
        rfl
      · rw [decide_eq_false h3, decide_eq_true (show NameOk q.Name ∧ (0 ≤ q.Count ∧ q.Count ≤ 4095) from ⟨h1, by omega, by omega⟩)]
        rfl
  · rw [decide_eq_false h1, decide_eq_false (fun x : NameOk q.Name ∧ (0 ≤ q.Count ∧ q.Count ≤ 4095) => h1 x.1)]
    rfl
theorem rqueue_head {q : S_api_Queue} (hs : q.Name.length ≤ 300) : (((rickyardref04_Right.f 400 q.Name : Option Bool).bind fun t9 => (if (!t9) = true then some (true) else (if (decide (q.Count < 0)) = true then some (true) else some ((decide (q.Count > 4095)))))) : Option Bool) = some (!decide (NameOk q.Name ∧ (0 ≤ q.Count ∧ q.Count ≤ 4095))) := by
  rw [rname_eq hs, Option.bind_some]
  by_cases h1 : NameOk q.Name
  · rw [decide_eq_true h1]
    by_cases h2 : q.Count < 0
    · rw [decide_eq_true h2, decide_eq_false (fun x : NameOk q.Name ∧ (0 ≤ q.Count ∧ q.Count ≤ 4095) => by have := x.2.1; omega)]
      rfl
    · rw [decide_eq_false h2]
      by_cases h3 : q.Count > 4095
      · rw [decide_eq_true h3, decide_eq_false (fun x : NameOk q.Name ∧ (0 ≤ q.Count ∧ q.Count ≤ 4095) => by have := x.2.2; omega)]
        rfl
      · rw [decide_eq_false h3, decide_eq_true (show NameOk q.Name ∧ (0 ≤ q.Count ∧ q.Count ≤ 4095) from ⟨h1, by omega, by omega⟩)]
        rfl
  · rw [decide_eq_false h1, decide_eq_false (fun x : NameOk q.Name ∧ (0 ≤ q.Count ∧ q.Count ≤ 4095) => h1 x.1)]
    rfl
theorem queueRight_eq {q : S_api_Queue} (hs : q.Name.length ≤ 300) : label_RightQueue.f 400 q = some (decide (QueueOk q)) := by
  unfold label_RightQueue.f
  rw [queue_head hs, Option.bind_some]
  by_cases hh : NameOk q.Name ∧ (0 ≤ q.Count ∧ q.Count ≤ 4095)
  · rw [decide_eq_true hh]
    obtain ⟨c, hc⟩ : ∃ c : Nat, q.Count = (c : Int) := ⟨q.Count.toNat, by omega⟩
    have hst : ∀ j : Nat, j < 12 → label_RightQueue.s0 400 q (j : Int) = some (if rootOk c q.Roots.l j then .inr ((j + 1 : Nat) : Int) else .inl (.inl false)) := by
      intro j hj
      unfold label_RightQueue.s0
      have h1 : (j : Int) < 12 := by omega
      have c0 : 0 ≤ (j : Int) := by omega
      have c1 : 0 ≤ (j : Int) ∧ (j : Int) < 12 := by omega
      have w3 : IntKind.i64.wrap ((j : Int) + 1) = ((j + 1 : Nat) : Int) := by rw [w64 (by omega) (by omega)]; omega
      have hb := bit64 (c := c) (i := j) (by omega) (by omega)
      rw [hc, hb]
      simp only [h1, c0, decide_true, if_true, if_pos c1, w3, bnum_eq, Option.bind_some, getIx]
      have hm : c / 2 ^ j % 2 = 0 ∨ c / 2 ^ j % 2 = 1 := by omega
      rcases hm with e | e
      · have hr : rootOk c q.Roots.l j ↔ ix q.Roots.l (j : Int) = 0 := ⟨fun x => x.1 e, fun z => ⟨fun _ => z, fun e' => by omega⟩⟩
        rw [e]
        by_cases z : ix q.Roots.l (j : Int) = 0
        · rw [if_pos (hr.2 z)]
          simp [z]
        · rw [if_neg (fun x => z (hr.1 x))]
          simp [z]
      · have hr : rootOk c q.Roots.l j ↔ numOk (ix q.Roots.l (j : Int)) := ⟨fun x => x.2 e, fun z => ⟨fun e' => by omega, fun _ => z⟩⟩
        rw [e]
        by_cases z : numOk (ix q.Roots.l (j : Int))
        · rw [if_pos (hr.2 z)]
          simp [z]
        · rw [if_neg (fun x => z (hr.1 x))]
          simp [z]
    have hQ : QueueOk q ↔ ∀ i, i < 12 → rootOk c q.Roots.l i := by
      unfold QueueOk
      rw [hc, Int.toNat_natCast, ← hc]
      exact ⟨fun x => x.2.2, fun x => ⟨hh.1, hh.2, x⟩⟩
    by_cases hall : ∀ i, i < 12 → rootOk c q.Roots.l i
    · have : loopM (label_RightQueue.s0 400 q) 400 0 = some (.inr ()) := by
        refine loopM_run (S := fun j => (j : Int)) 12 rfl (fun j hj => by rw [hst j hj, if_pos (hall j hj)]) ?_ (by omega)
        unfold label_RightQueue.s0
        simp
      rw [this, decide_eq_true (hQ.2 hall)]
      rfl
    · have : loopM (label_RightQueue.s0 400 q) 400 0 = some (.inl false) := by
        refine loopM_bad (S := fun j => (j : Int)) 12 (fun j => rootOk c q.Roots.l j) rfl ?_ (fun j hj _ hg => by rw [hst j hj, if_pos hg]) (fun j hj _ hg => by rw [hst j hj, if_neg hg]) (by omega)
        apply Classical.byContradiction
        intro hx
        exact hall fun i hi => Classical.byContradiction fun hg => hx ⟨i, hi, hg⟩
      rw [this, decide_eq_false (fun x => hall (hQ.1 x))]
      rfl
  · rw [decide_eq_false hh, decide_eq_false (fun x : QueueOk q => hh ⟨x.1, x.2.1⟩)]
    rfl
theorem rqueueRight_eq {q : S_api_Queue} (hs : q.Name.length ≤ 300) : rickyardref11_Right.f 400 q = some (decide (QueueOk q)) := by
  unfold rickyardref11_Right.f
  rw [rqueue_head hs, Option.bind_some]
  by_cases hh : NameOk q.Name ∧ (0 ≤ q.Count ∧ q.Count ≤ 4095)
  · rw [decide_eq_true hh]
    obtain ⟨c, hc⟩ : ∃ c : Nat, q.Count = (c : Int) := ⟨q.Count.toNat, by omega⟩
    have hst : ∀ j : Nat, j < 12 → rickyardref11_Right.s0 400 q (((c / 2 ^ j : Nat) : Int), (j : Int)) = some (if rootOk c q.Roots.l j then .inr (((c / 2 ^ (j + 1) : Nat) : Int), ((j + 1 : Nat) : Int)) else .inl (.inl false)) := by
      intro j hj
      unfold rickyardref11_Right.s0
      have h1 : (j : Int) < 12 := by omega
      have c1 : 0 ≤ (j : Int) ∧ (j : Int) < 12 := by omega
      have w3 : IntKind.i64.wrap ((j : Int) + 1) = ((j + 1 : Nat) : Int) := by rw [w64 (by omega) (by omega)]; omega
      have hle : c / 2 ^ j ≤ c := Nat.div_le_self _ _
      have hd : c / 2 ^ (j + 1) = c / 2 ^ j / 2 := by rw [Nat.pow_succ, Nat.div_div_eq_div_mul]
      rw [hd]
      obtain ⟨u, hu⟩ : ∃ u, u = c / 2 ^ j := ⟨_, rfl⟩
      rw [← hu] at hle ⊢
      have w4 : IntKind.i64.wrap (Int.tdiv (u : Int) 2) = ((u / 2 : Nat) : Int) := by
        rw [show Int.tdiv (u : Int) 2 = ((u / 2 : Nat) : Int) from rfl, w64 (by omega) (by omega)]
      have hmo : Int.tmod (u : Int) 2 = ((u % 2 : Nat) : Int) := rfl
      simp only [h1, decide_true, if_true, if_pos c1, w3, w4, hmo, rbnum_eq, Option.bind_some, getIx]
      have hm : u % 2 = 0 ∨ u % 2 = 1 := by omega
      rcases hm with e | e
      · have hr : rootOk c q.Roots.l j ↔ ix q.Roots.l (j : Int) = 0 := ⟨fun x => x.1 (by rw [← hu]; exact e), fun z => ⟨fun _ => z, fun e' => by rw [← hu] at e'; omega⟩⟩
        rw [e]
        by_cases z : ix q.Roots.l (j : Int) = 0
        · rw [if_pos (hr.2 z)]
          simp [z]
        · rw [if_neg (fun x => z (hr.1 x))]
          simp [z]
      · have hr : rootOk c q.Roots.l j ↔ numOk (ix q.Roots.l (j : Int)) := ⟨fun x => x.2 (by rw [← hu]; exact e), fun z => ⟨fun e' => by rw [← hu] at e'; omega, fun _ => z⟩⟩
        rw [e]
        by_cases z : numOk (ix q.Roots.l (j : Int))
        · rw [if_pos (hr.2 z)]
          simp [z]
        · rw [if_neg (fun x => z (hr.1 x))]
          simp [z]
    have hQ : QueueOk q ↔ ∀ i, i < 12 → rootOk c q.Roots.l i := by
      unfold QueueOk
      rw [hc, Int.toNat_natCast, ← hc]
      exact ⟨fun x => x.2.2, fun x => ⟨hh.1, hh.2, x⟩⟩
    have h0 : (q.Count, (0 : Int)) = (((c / 2 ^ 0 : Nat) : Int), ((0 : Nat) : Int)) := by rw [hc]; simp
    by_cases hall : ∀ i, i < 12 → rootOk c q.Roots.l i
    · have : loopM (rickyardref11_Right.s0 400 q) 400 (q.Count, 0) = some (.inr ()) := by
        refine loopM_run (S := fun j => (((c / 2 ^ j : Nat) : Int), (j : Int))) 12 h0.symm (fun j hj => by rw [hst j hj, if_pos (hall j hj)]) ?_ (by omega)
        unfold rickyardref11_Right.s0
        simp
      rw [this, decide_eq_true (hQ.2 hall)]
      rfl
    · have : loopM (rickyardref11_Right.s0 400 q) 400 (q.Count, 0) = some (.inl false) := by
        refine loopM_bad (S := fun j => (((c / 2 ^ j : Nat) : Int), (j : Int))) 12 (fun j => rootOk c q.Roots.l j) h0.symm ?_ (fun j hj _ hg => by rw [hst j hj, if_pos hg]) (fun j hj _ hg => by rw [hst j hj, if_neg hg]) (by omega)
        apply Classical.byContradiction
        intro hx
        exact hall fun i hi => Classical.byContradiction fun hg => hx ⟨i, hi, hg⟩
      rw [this, decide_eq_false (fun x => hall (hQ.1 x))]
      rfl
  · rw [decide_eq_false hh, decide_eq_false (fun x : QueueOk q => hh ⟨x.1, x.2.1⟩)]
    rfl
/-! ### What is laid -/
theorem octs_bytes (s : List UInt8) : Bytes (s.map ofB) := by
  intro x hx
  obtain ⟨b, _, rfl⟩ := List.mem_map.1 hx
  have := b.toNat_lt
  unfold ofB
  omega
theorem octs_back (s : List UInt8) : (s.map ofB).map toB = s := by
  rw [List.map_map]
  have : ∀ b ∈ s, (toB ∘ ofB) b = b := by
    intro b _
    show UInt8.ofNat (Int.toNat ((b.toNat : Nat) : Int)) = b
    rw [Int.toNat_natCast]
    exact UInt8.ofNat_toNat
  rw [List.map_congr_left this, List.map_id']
def queueE (q : S_api_Queue) : List Int := (lay (u64n q.Count) 4 ++ rowE q.Roots.l 12) ++ q.Name.map ofB
theorem queueE_len (q : S_api_Queue) : (queueE q).length = 28 + q.Name.length := by
  simp [queueE, lay_len, rowE_len]
  omega
theorem queueE_bytes (q : S_api_Queue) : Bytes (queueE q) := ((lay_bytes _ _).app (rowE_bytes _ _)).app (octs_bytes _)
theorem QueueOk.len {q : S_api_Queue} (h : QueueOk q) (hs : q.Name.length ≤ 300) : q.Name.length ≤ 24 := NameOk.len h.1 hs
theorem queuePut_eq {q : S_api_Queue} (hs : q.Name.length ≤ 300) : label_PutQueue.f 400 q = some (if QueueOk q then (sealed (summed 5 (q.Name.length : Int) (queueE q)), true) else ([], false)) := by
  unfold label_PutQueue.f
  rw [queueRight_eq hs]
  by_cases h : QueueOk q
  · have hl := h.len hs
    have hlay0 : octet_Lay.f 400 (IntKind.u64.wrap q.Count) 4 = some (lay (u64n q.Count) 4) := olay64 (n := 4) (by decide) (by decide)
    have hloop : loopM (label_PutQueue.s0 400 q) 400 (lay (u64n q.Count) 4, 0) = some (lay (u64n q.Count) 4 ++ rowE q.Roots.l 12) := by
      refine loopM_run (S := fun j => (lay (u64n q.Count) 4 ++ rowE q.Roots.l j, (j : Int))) 12 (by simp [rowE]) ?_ ?_ (by omega)
      · intro j hj
        unfold label_PutQueue.s0
        have h1 : (j : Int) < 12 := by omega
        have c1 : 0 ≤ (j : Int) ∧ (j : Int) < 12 := by omega
        have w3 : IntKind.i64.wrap ((j : Int) + 1) = ((j + 1 : Nat) : Int) := by rw [w64 (by omega) (by omega)]; omega
        have hlay : octet_Lay.f 400 (IntKind.u64.wrap (ix q.Roots.l (j : Int))) 2 = some (lay (u64n (ix q.Roots.l (j : Int))) 2) := olay64 (n := 2) (by decide) (by omega)
        have hlim : (lay (u64n q.Count) 4 ++ rowE q.Roots.l j).length + (lay (u64n (ix q.Roots.l (j : Int))) 2).length ≤ LIM := lim_of' (by rw [List.length_append, rowE_len, lay_len, lay_len]; omega)
        have c0 : 0 ≤ (j : Int) := c1.1
        simp only [h1, c0, and_self, decide_true, if_true, w3, getIx, hlay, Option.bind_some, if_pos hlim]
        rw [rowE, rowE, flat_succ, List.append_assoc]
      · unfold label_PutQueue.s0
        simp
    have hlim : (lay (u64n q.Count) 4 ++ rowE q.Roots.l 12).length + q.Name.length ≤ LIM := lim_of' (by rw [List.length_append, rowE_len, lay_len]; omega)
    have hq := seal_eq (fu := 400) (k := 5) (t := (q.Name.length : Int)) (queueE_bytes q) (by omega) (by omega) (by rw [queueE_len]; omega) (by decide)
    unfold queueE at hq
    unfold queueE
    simp only [h, decide_true, Bool.not_true, Bool.false_eq_true, if_false, Option.bind_some, hlay0, hloop, if_pos hlim, hq, if_true]
  · simp [h]
theorem rqueuePut_eq {q : S_api_Queue} (hl : q.Name.length ≤ 28) : rickyardref11_Put.f 400 q = some ((sealed (summed 5 (q.Name.length : Int) (queueE q))).map toB) := by
  unfold rickyardref11_Put.f
  have hlay0 : rickyardref01_Lay.f 400 (IntKind.u64.wrap q.Count) 4 = some ((lay (u64n q.Count) 4).map toB) := rlay64 (n := 4) (by decide) (by decide)
  have hloop : loopM (rickyardref11_Put.s0 400 q) 400 ((lay (u64n q.Count) 4).map toB, 0) = some ((lay (u64n q.Count) 4 ++ rowE q.Roots.l 12).map toB) := by
    refine loopM_run (S := fun j => ((lay (u64n q.Count) 4 ++ rowE q.Roots.l j).map toB, (j : Int))) 12 (by simp [rowE]) ?_ ?_ (by omega)
    · intro j hj
      unfold rickyardref11_Put.s0
      have h1 : (j : Int) < 12 := by omega
      have c1 : 0 ≤ (j : Int) ∧ (j : Int) < 12 := by omega
      have w3 : IntKind.i64.wrap ((j : Int) + 1) = ((j + 1 : Nat) : Int) := by rw [w64 (by omega) (by omega)]; omega
      have hlay : rickyardref01_Lay.f 400 (IntKind.u64.wrap (ix q.Roots.l (j : Int))) 2 = some ((lay (u64n (ix q.Roots.l (j : Int))) 2).map toB) := rlay64 (n := 2) (by decide) (by omega)
      have hlim : ((lay (u64n q.Count) 4 ++ rowE q.Roots.l j).map toB).length + ((lay (u64n (ix q.Roots.l (j : Int))) 2).map toB).length ≤ LIM := lim_of' (by rw [List.length_map, List.length_map, List.length_append, rowE_len, lay_len, lay_len]; omega)
      have c0 : 0 ≤ (j : Int) := c1.1
      simp only [h1, c0, and_self, decide_true, if_true, w3, getIx, hlay, Option.bind_some, if_pos hlim]
      rw [← List.map_append, rowE, rowE, flat_succ, List.append_assoc]
    · unfold rickyardref11_Put.s0
      simp
  have hlim : ((lay (u64n q.Count) 4 ++ rowE q.Roots.l 12).map toB).length + q.Name.length ≤ LIM := lim_of' (by rw [List.length_map, List.length_append, rowE_len, lay_len]; omega)
  have hq := rseal_eq (fu := 400) (k := 5) (t := (q.Name.length : Int)) (queueE_bytes q) (by omega) (by omega) (by rw [queueE_len]; omega) (by decide)
  have e : (lay (u64n q.Count) 4 ++ rowE q.Roots.l 12).map toB ++ q.Name = (queueE q).map toB := by
    unfold queueE
    rw [List.map_append (l₁ := lay (u64n q.Count) 4 ++ rowE q.Roots.l 12), octs_back]
  simp only [hlay0, Option.bind_some, hloop, if_pos hlim, e, hq]
/-! ### What is read -/
def rootsOf (body : List Int) : Arr 12 Int := fillA (fun i => intAt body (4 + 2 * i) 2) (Arr.rep 12 (0 : Int)) 12
def queueOf (body : List Int) (t : Nat) : S_api_Queue := ⟨(part body 28 t).map toB, intAt body 0 4, rootsOf body⟩
theorem rootsOf_l (body : List Int) : (rootsOf body).l = (List.range 12).map fun i => intAt body (4 + 2 * i) 2 := fillA_all _ _
theorem queueE_of {body : List Int} (hb : Bytes body) {t : Nat} (h : 28 + t ≤ body.length) : queueE (queueOf body t) = body.take (28 + t) := by
  unfold queueE queueOf
  have e1 : lay (u64n (intAt body 0 4)) 4 = part body 0 4 := lay_part hb (by omega) (by decide)
  have e2 : rowE (rootsOf body).l 12 = part body 4 24 := by
    have : part body 4 24 = (List.range 12).flatMap (fieldAt (body.drop 4) 2) := (field_flat (w := 2) 12 (by rw [List.length_drop]; omega)).symm
    rw [this]
    apply flat_congr
    intro i hi
    rw [rootsOf_l, ix_map hi]
    have := lay_part (l := body) (i := 4 + 2 * i) (n := 2) hb (by omega) (by decide)
    rw [this]
    unfold part fieldAt
    rw [List.drop_drop]
  have e3 : ((part body 28 t).map toB).map ofB = part body 28 t := of_toB (part_bytes hb 28 t)
  rw [e1, e2, e3]
  unfold part
  rw [List.drop_zero, ← List.take_add, ← List.take_add]
theorem queueOf_E {q : S_api_Queue} (hs : q.Name.length ≤ 300) (h : QueueOk q) (t : List Int) : queueOf (queueE q ++ t) q.Name.length = q := by
  obtain ⟨nm, c, a⟩ := q
  have hc := h.2.1
  have hr := h.2.2
  simp only at hc hr hs ⊢
  unfold queueOf
  have ec : part (queueE ⟨nm, c, a⟩ ++ t) 0 4 = lay (u64n c) 4 := by
    unfold part queueE
    rw [List.drop_zero, List.append_assoc, List.append_assoc]
    exact List.take_left' (lay_len _ _)
  have en : part (queueE ⟨nm, c, a⟩ ++ t) 28 nm.length = nm.map ofB := by
    unfold part queueE
    rw [List.append_assoc, List.drop_left' (by rw [List.length_append, lay_len, rowE_len])]
    exact List.take_left' (by rw [List.length_map])
  have e1 : intAt (queueE ⟨nm, c, a⟩ ++ t) 0 4 = c := by
    unfold intAt
    rw [ec, num_lay, u64n_of (by omega) (by omega), w64 (by omega) (by omega)]
    omega
  have e2 : rootsOf (queueE ⟨nm, c, a⟩ ++ t) = a := by
    have : (rootsOf (queueE ⟨nm, c, a⟩ ++ t)).l = a.l := by
      have hal := a.h
      rw [rootsOf_l]
      apply ix_ext (by simp [hal])
      intro i hi
      rw [List.length_map, List.length_range] at hi
      rw [ix_map hi]
      have hp : part (queueE ⟨nm, c, a⟩ ++ t) (4 + 2 * i) 2 = lay (u64n (ix a.l (i : Int))) 2 := by
        have : part (queueE ⟨nm, c, a⟩ ++ t) (4 + 2 * i) 2 = fieldAt (rowE a.l 12 ++ (nm.map ofB ++ t)) 2 i := by
          unfold part fieldAt queueE
          rw [← List.drop_drop, List.append_assoc, List.append_assoc, List.drop_left' (lay_len _ _)]
        rw [this, rowE, flat_field (fun i => lay_len _ _) hi]
      unfold intAt
      have hri := hr i hi
      have hv : 0 ≤ ix a.l (i : Int) ∧ ix a.l (i : Int) ≤ 3071 := by
        have hm : c.toNat / 2 ^ i % 2 = 0 ∨ c.toNat / 2 ^ i % 2 = 1 := by omega
        rcases hm with e | e
        · rw [hri.1 e]
          omega
        · have := hri.2 e
          unfold numOk at this
          omega
      rw [hp, num_lay, u64n_of (by omega) (by omega), w64 (by omega) (by omega)]
      omega
    cases a
    generalize rootsOf _ = b at *
    cases b
    simp only at this
    subst this
    rfl
  rw [e1, e2, en, octs_back]
def noQ : S_api_Queue := ⟨[], 0, Arr.rep 12 (0 : Int)⟩
def GetQ (b : List Int) : Prop := Is b ∧ ix b 4 = 5 ∧ ix b 5 ≤ 24 ∧ QueueOk (queueOf (b.drop 8) (ix b 5).toNat) ∧ ∀ y ∈ (b.drop 8).drop (28 + (ix b 5).toNat), y = 0
instance (b : List Int) : Decidable (GetQ b) := inferInstanceAs (Decidable (_ ∧ _))
theorem fillA_succ {n : Nat} {α : Type} (f : Nat → α) (a : Arr n α) (j : Nat) : fillA f a (j + 1) = Arr.set (fillA f a j) (j : Int) (f j) := rfl
theorem queueGet_eq {b : List Int} (hb : Bytes b) (hl : b.length ≤ 9000000000000000000) : label_GetQueue.f 400 b = some (if GetQ b then (queueOf (b.drop 8) (ix b 5).toNat, true) else (noQ, false)) := by
  unfold label_GetQueue.f
  rw [open_eq hb hl (by decide)]
  by_cases hi : Is b
  · have h8 := is_body hi
    obtain ⟨b4, b5⟩ := is_tag hb hi
    rw [if_pos hi]
    simp only [Option.bind_some, Bool.not_true, Bool.false_eq_true, if_false]
    by_cases h4 : ix b 4 = 5
    · by_cases h5 : ix b 5 ≤ 24
      · have h5' : ¬ ix b 5 > 24 := by omega
        obtain ⟨t, ht⟩ : ∃ t : Nat, ix b 5 = (t : Int) := ⟨(ix b 5).toNat, by omega⟩
        have hbd := hb.drop 8
        obtain ⟨body, hbody⟩ : ∃ body, body = b.drop 8 := ⟨_, rfl⟩
        rw [← hbody] at h8 hbd
        have hloop : loopM (label_GetQueue.s0 400 (ix b 4, ix b 5, body, true)) 400 (0, ⟨(part body 28 t).map toB, intAt body 0 4, Arr.rep 12 (0 : Int)⟩) = some (queueOf body t) := by
          refine loopM_run (S := fun j => ((j : Int), (⟨(part body 28 t).map toB, intAt body 0 4, fillA (fun i => intAt body (4 + 2 * i) 2) (Arr.rep 12 (0 : Int)) j⟩ : S_api_Queue))) 12 rfl ?_ ?_ (by omega)
          · intro j hj
            unfold label_GetQueue.s0
            have h1 : (j : Int) < 12 := by omega
            have cj : 0 ≤ (j : Int) ∧ (j : Int) < 12 := by omega
            have w3 : IntKind.i64.wrap ((j : Int) + 1) = ((j + 1 : Nat) : Int) := by rw [w64 (by omega) (by omega)]; omega
            have w4 : IntKind.i64.wrap (4 + IntKind.i64.wrap (2 * (j : Int))) = ((4 + 2 * j : Nat) : Int) := by rw [w64 (n := 2 * (j : Int)) (by omega) (by omega), w64 (by omega) (by omega)]; omega
            have w5 : IntKind.i64.wrap (((4 + 2 * j : Nat) : Int) + 2) = ((4 + 2 * j + 2 : Nat) : Int) := by rw [w64 (by omega) (by omega)]; omega
            have hpl := part_len (l := body) (i := 4 + 2 * j) (n := 2) (by omega)
            have hr : octet_Read.f 400 (cut body ((4 + 2 * j : Nat) : Int) ((4 + 2 * j + 2 : Nat) : Int)) = some ((num (part body (4 + 2 * j) 2) : Nat) : Int) := by
              have := read_eq (fu := 400) (part_bytes hbd (4 + 2 * j) 2) (by omega) (by omega)
              rw [cut_eq]
              exact this
            have c1 : (0 : Int) ≤ ((4 + 2 * j : Nat) : Int) ∧ ((4 + 2 * j : Nat) : Int) ≤ ((4 + 2 * j + 2 : Nat) : Int) ∧ ((4 + 2 * j + 2 : Nat) : Int) ≤ (body.length : Int) := by omega
            simp only [h1, decide_true, if_true, w3, w4, w5, if_pos c1, hr, Option.bind_some, if_pos cj]
            rfl
          · unfold label_GetQueue.s0
            simp [queueOf, rootsOf]
        have w1 : IntKind.i64.wrap (28 + (t : Int)) = ((28 + t : Nat) : Int) := by rw [w64 (by omega) (by omega)]; omega
        have w6 : IntKind.i64.wrap (IntKind.i64.wrap ((body.length : Int) - 28) - (t : Int)) = ((56 - (28 + t) : Nat) : Int) := by rw [w64 (n := (body.length : Int) - 28) (by omega) (by omega), w64 (by omega) (by omega)]; omega
        have hn := noughts_eq (fu := 400) (b := body) (i := 28 + t) (n := 56 - (28 + t)) (by omega) (by omega) (by omega)
        have e8 : (body.drop (28 + t)).take (56 - (28 + t)) = body.drop (28 + t) := List.take_of_length_le (by rw [List.length_drop, h8]; omega)
        rw [e8] at hn
        have hr0 : octet_Read.f 400 (cut body 0 4) = some ((num (part body 0 4) : Nat) : Int) := by
          have : cut body 0 4 = part body 0 4 := cut_eq body 0 4
          rw [this]
          have hpl := part_len (l := body) (i := 0) (n := 4) (by omega)
          exact read_eq (fu := 400) (part_bytes hbd 0 4) (by omega) (by omega)
        have en : cut body 28 ((28 + t : Nat) : Int) = part body 28 t := cut_eq body 28 t
        have c2 : (0 : Int) ≤ 28 ∧ (28 : Int) ≤ ((28 + t : Nat) : Int) ∧ ((28 + t : Nat) : Int) ≤ (body.length : Int) := by omega
        have c3 : (4 : Int) ≤ (body.length : Int) := by omega
        have hqn : (queueOf body t).Name.length ≤ 300 := by
          show ((part body 28 t).map toB).length ≤ 300
          rw [List.length_map, part_len (by omega)]
          omega
        rw [← hbody]
        have hie : IntKind.i64.wrap ((num (part body 0 4) : Nat) : Int) = intAt body 0 4 := rfl
        simp only [h4, h5', decide_true, decide_false, Bool.not_true, Bool.false_eq_true, if_false] at hloop ⊢
        simp only [ht, w1, w6, hn, Option.bind_some] at hloop ⊢
        have hgi : GetQ b ↔ (QueueOk (queueOf body t) ∧ ∀ y ∈ body.drop (28 + t), y = 0) := by
          unfold GetQ
          rw [ht, ← hbody, Int.toNat_natCast]
          exact ⟨fun x => x.2.2.2, fun x => ⟨hi, h4, by omega, x⟩⟩
        rw [Int.toNat_natCast]
        by_cases hz : ∀ y ∈ body.drop (28 + t), y = 0
        · rw [decide_eq_true hz]
          simp only [Bool.not_true, Bool.false_eq_true, if_false]
          rw [if_pos c2, if_pos c3, hr0, Option.bind_some, en, hie, hloop, Option.bind_some, queueRight_eq hqn]
          by_cases hr : QueueOk (queueOf body t)
          · rw [if_pos (hgi.2 ⟨hr, hz⟩), decide_eq_true hr]
            rfl
          · rw [if_neg (fun x => hr (hgi.1 x).1), decide_eq_false hr]
            rfl
        · rw [decide_eq_false hz, if_neg (fun x => hz (hgi.1 x).2)]
          rfl
      · have h5' : ix b 5 > 24 := by omega
        have hg : ¬ GetQ b := fun x => h5 x.2.2.1
        rw [if_neg hg, decide_eq_true h4, decide_eq_true h5']
        rfl
    · have hg : ¬ GetQ b := fun x => h4 x.2.1
      rw [if_neg hg, decide_eq_false h4]
      rfl
  · have hg : ¬ GetQ b := fun x => hi x.1
    rw [if_neg hi, if_neg hg]
    rfl
theorem rqueueGet_eq {b : List Int} (hb : Bytes b) : rickyardref11_Get.f 400 b = some (if GetQ b then (queueOf (b.drop 8) (ix b 5).toNat, true) else (noQ, false)) := by
  unfold rickyardref11_Get.f
  rw [ropen_eq hb (by decide)]
  by_cases hi : Is b
  · have h8 := is_body hi
    obtain ⟨b4, b5⟩ := is_tag hb hi
    rw [if_pos hi]
    simp only [Option.bind_some, Bool.not_true, Bool.false_eq_true, if_false]
    by_cases h4 : ix b 4 = 5
    · by_cases h5 : ix b 5 ≤ 28
      · have h5' : ¬ ix b 5 > 28 := by omega
        obtain ⟨t, ht⟩ : ∃ t : Nat, ix b 5 = (t : Int) := ⟨(ix b 5).toNat, by omega⟩
        have hbd := hb.drop 8
        obtain ⟨body, hbody⟩ : ∃ body, body = b.drop 8 := ⟨_, rfl⟩
        have hq0 : ∀ {k tg : Int} {bd : List Int}, (0 ≤ k ∧ k ≤ 255) → (0 ≤ tg ∧ tg ≤ 255) → Bytes bd → bd.length ≤ 56 → ((sealed (summed k tg bd)).map toB = b.map toB ↔ k = ix b 4 ∧ tg = ix b 5 ∧ bd ++ List.replicate (56 - bd.length) 0 = b.drop 8) := fun h1 h2 h3 h4 => sealed_map_iff hb hi h1 h2 h3 h4
        rw [← hbody] at h8 hbd
        have hloop : loopM (rickyardref11_Get.s0 400 (ix b 4, ix b 5, body.map toB, true)) 400 (0, ⟨(part body 28 t).map toB, intAt body 0 4, Arr.rep 12 (0 : Int)⟩) = some (queueOf body t) := by
          refine loopM_run (S := fun j => ((j : Int), (⟨(part body 28 t).map toB, intAt body 0 4, fillA (fun i => intAt body (4 + 2 * i) 2) (Arr.rep 12 (0 : Int)) j⟩ : S_api_Queue))) 12 rfl ?_ ?_ (by omega)
          · intro j hj
            unfold rickyardref11_Get.s0
            have h1 : (j : Int) < 12 := by omega
            have cj : 0 ≤ (j : Int) ∧ (j : Int) < 12 := by omega
            have w3 : IntKind.i64.wrap ((j : Int) + 1) = ((j + 1 : Nat) : Int) := by rw [w64 (by omega) (by omega)]; omega
            have w4 : IntKind.i64.wrap (4 + IntKind.i64.wrap (2 * (j : Int))) = ((4 + 2 * j : Nat) : Int) := by rw [w64 (n := 2 * (j : Int)) (by omega) (by omega), w64 (by omega) (by omega)]; omega
            have w5 : IntKind.i64.wrap (6 + IntKind.i64.wrap (2 * (j : Int))) = ((4 + 2 * j + 2 : Nat) : Int) := by rw [w64 (n := 2 * (j : Int)) (by omega) (by omega), w64 (by omega) (by omega)]; omega
            have hr := rintAt_eq (fu := 400) (b := body) (i := 4 + 2 * j) (n := 2) hbd (by omega) (by decide) (by decide)
            have c1 : (0 : Int) ≤ ((4 + 2 * j : Nat) : Int) ∧ ((4 + 2 * j : Nat) : Int) ≤ ((4 + 2 * j + 2 : Nat) : Int) ∧ ((4 + 2 * j + 2 : Nat) : Int) ≤ ((body.map toB).length : Int) := by rw [List.length_map]; omega
            simp only [h1, decide_true, if_true, w3, w4, w5, if_pos c1, hr, Option.bind_some, if_pos cj]
            rfl
          · unfold rickyardref11_Get.s0
            simp [queueOf, rootsOf]
        have w1 : IntKind.i64.wrap (28 + (t : Int)) = ((28 + t : Nat) : Int) := by rw [w64 (by omega) (by omega)]; omega
        have hr0 : rickyardref01_Int.f 400 (cut (body.map toB) 0 4) = some (intAt body 0 4) := rintAt_eq (fu := 400) (b := body) (i := 0) (n := 4) hbd (by omega) (by decide) (by decide)
        have en : cut (body.map toB) 28 ((28 + t : Nat) : Int) = (part body 28 t).map toB := by
          unfold cut part
          rw [Int.toNat_natCast, show (28 : Int).toNat = 28 from rfl, ← List.map_take, ← List.map_drop, List.drop_take, Nat.add_sub_cancel_left]
        have c2 : (0 : Int) ≤ 28 ∧ (28 : Int) ≤ ((28 + t : Nat) : Int) ∧ ((28 + t : Nat) : Int) ≤ ((body.map toB).length : Int) := by rw [List.length_map]; omega
        have c3 : (4 : Int) ≤ ((body.map toB).length : Int) := by rw [List.length_map]; omega
        have hqn : (queueOf body t).Name.length = t := by
          show ((part body 28 t).map toB).length = t
          rw [List.length_map, part_len (by omega)]
        rw [← hbody]
        simp only [h4, h5', decide_true, decide_false, Bool.not_true, Bool.false_eq_true, if_false] at hloop ⊢
        simp only [ht, w1, Option.bind_some] at hloop ⊢
        rw [if_pos c3, hr0, Option.bind_some, if_pos c2, en, hloop, Option.bind_some, rqueueRight_eq (by omega)]
        rw [Int.toNat_natCast]
        by_cases hr : QueueOk (queueOf body t)
        · have h24 := hr.len (by omega)
          have hgi : GetQ b ↔ ∀ y ∈ body.drop (28 + t), y = 0 := by
            unfold GetQ
            rw [ht, ← hbody, Int.toNat_natCast]
            exact ⟨fun x => x.2.2.2.2, fun x => ⟨hi, h4, by omega, hr, x⟩⟩
          have hq := hq0 (k := 5) (tg := (t : Int)) (bd := queueE (queueOf body t)) (by omega) (by omega) (queueE_bytes _) (by rw [queueE_len]; omega)
          have hfl := full_iff (body := queueE (queueOf body t)) (full := body) (by rw [queueE_len]; omega) h8
          rw [← hbody] at hq
          rw [queueE_len, hqn, queueE_of hbd (show 28 + t ≤ body.length by omega)] at hfl
          rw [queueE_len, hqn, queueE_of hbd (show 28 + t ≤ body.length by omega)] at hq
          rw [decide_eq_true hr, rqueuePut_eq (by omega), hqn, queueE_of hbd (show 28 + t ≤ body.length by omega)]
          by_cases hz : ∀ y ∈ body.drop (28 + t), y = 0
          · rw [if_pos (hgi.2 hz)]
            simp only [Option.bind_some]
            rw [decide_eq_true (hq.2 ⟨h4.symm, ht.symm, hfl.2 ⟨rfl, hz⟩⟩)]
            rfl
          · rw [if_neg (fun x => hz (hgi.1 x))]
            simp only [Option.bind_some]
            rw [decide_eq_false (fun x => hz (hfl.1 (hq.1 x).2.2).2)]
            rfl
        · have hg : ¬ GetQ b := fun x => by
            have := x.2.2.2.1
            rw [ht, ← hbody, Int.toNat_natCast] at this
            exact hr this
          rw [decide_eq_false hr, if_neg hg]
          rfl
      · have h5' : ix b 5 > 28 := by omega
        have hg : ¬ GetQ b := fun x => by have := x.2.2.1; omega
        rw [if_neg hg, decide_eq_true h4, decide_eq_true h5']
        rfl
    · have hg : ¬ GetQ b := fun x => h4 x.2.1
      rw [if_neg hg, decide_eq_false h4]
      rfl
  · have hg : ¬ GetQ b := fun x => hi x.1
    rw [if_neg hi, if_neg hg]
    rfl
theorem queueGet_put {q : S_api_Queue} (hs : q.Name.length ≤ 300) (h : QueueOk q) : label_GetQueue.f 400 (sealed (summed 5 (q.Name.length : Int) (queueE q))) = some (q, true) ∧ (sealed (summed 5 (q.Name.length : Int) (queueE q))).length = 64 := by
  have hl := h.len hs
  have hel := queueE_len q
  obtain ⟨p4, p5, p8⟩ := sealed_parts 5 (q.Name.length : Int) (queueE q)
  have hsl := sealed_len (summed_len (k := 5) (t := (q.Name.length : Int)) (body := queueE q) (by omega))
  have hno := queueOf_E hs h (List.replicate (56 - (queueE q).length) 0)
  have hg : GetQ (sealed (summed 5 (q.Name.length : Int) (queueE q))) := by
    refine ⟨is_sealed (by decide) (by omega), p4, by rw [p5]; omega, ?_, ?_⟩
    · rw [p8, p5, Int.toNat_natCast, hno]
      exact h
    · rw [p8, p5, Int.toNat_natCast, ← hel, List.drop_left' rfl]
      intro y hy
      exact List.eq_of_mem_replicate hy
  rw [queueGet_eq (sealed_bytes (summed_bytes (by omega) (by omega) (queueE_bytes q))) (by omega), if_pos hg, p8, p5, Int.toNat_natCast, hno]
  exact ⟨rfl, hsl⟩
end Go.Proofs.Ytjhajfkfhdnciaa.Pure

/- The labels as the laws of layer 11 ask of them. -/
set_option linter.unusedVariables false
set_option linter.unusedSimpArgs false
namespace Go.Proofs.Ytjhajfkfhdnciaa.Pure
open Go Go.Xw
def rt11 : Arr 12 Int := Arr.set (Arr.set (Arr.rep 12 (0 : Int)) 0 7) 2 9
theorem rs_a : ∀ k, rs (k + 2) [97] = [97] := by
  intro k
  have e : first [97] = (97, 1) := by decide
  unfold rs
  rw [if_neg (by decide), e]
  unfold rs
  rw [if_pos (by decide)]
  rfl
theorem name11 : NameOk [97] := by
  unfold NameOk
  rw [rs_a 397]
  refine ⟨by decide, ?_⟩
  intro r hr
  obtain rfl := List.mem_singleton.1 hr
  unfold runeOk
  omega
theorem ex11 : QueueOk ⟨[97], 5, rt11⟩ := ⟨name11, ⟨by decide, by decide⟩, by decide⟩
theorem dr11 : DirOk [5] := by decide
theorem awake11 : rickyardlaw11_awake.f 400 = some true := by
  unfold rickyardlaw11_awake.f
  have h1 := queuePut_eq (q := ⟨[97], 5, rt11⟩) (by decide)
  obtain ⟨h2, l1⟩ := queueGet_put (q := ⟨[97], 5, rt11⟩) (by decide) ex11
  rw [if_pos ex11] at h1
  have h3 := dirPut_eq (fu := 400) (l := [5]) (by decide)
  obtain ⟨h4, l2⟩ := dirGet_put (fu := 400) dr11 (by decide)
  rw [if_pos dr11] at h3
  have h5 := trees_eq (fu := 400) (a := rt11) (by decide)
  have h6 : (rt11.l.filter nz).length = 2 := by decide
  have er : Arr.set (Arr.set (Arr.rep 12 (0 : Int)) 0 7) 2 9 = rt11 := rfl
  rw [er, h1]
  simp only [Option.bind_some, h2, h3, l1, l2, h5, h6]
  simp
end Go.Proofs.Ytjhajfkfhdnciaa.Pure

/- The pure statement of LabelQueues. -/
set_option linter.unusedVariables false
set_option linter.unusedSimpArgs false
namespace Go.Proofs.Ytjhajfkfhdnciaa.Pure
open Go Go.Xw
theorem LabelQueues : ∀ (a0 : S_api_Queue), ok_api_Queue a0 → ∃ fu, rickyardlaw11_LabelQueues.f fu a0 = some true := by
  intro q _
  refine ⟨400, ?_⟩
  unfold rickyardlaw11_LabelQueues.f
  rw [awake11]
  by_cases h2 : (q.Name.length : Int) > 200
  · simp [h2]
  · have hs : q.Name.length ≤ 300 := by omega
    have hp := queuePut_eq hs
    have hr := queueRight_eq hs
    have hr2 := rqueueRight_eq hs
    by_cases h : QueueOk q
    · have hl := h.len hs
      obtain ⟨hg, _⟩ := queueGet_put hs h
      have hp2 := rqueuePut_eq (q := q) (by omega)
      rw [if_pos h] at hp
      simp only [Option.bind_some, h2, decide_false, Bool.not_true, Bool.false_eq_true, if_false, hp, hr, hr2, h, decide_true, if_true, hg, hp2]
    · rw [if_neg h] at hp
      simp only [Option.bind_some, h2, decide_false, Bool.not_true, Bool.false_eq_true, if_false, hp, hr, hr2, h, Bool.not_false, if_true]
      rfl
end Go.Proofs.Ytjhajfkfhdnciaa.Pure

/- The law LabelQueues holds for every input: the row, out of the walk of the law's function and of its pure statement. Written by rows.py. -/
namespace Go.Proofs.Ytjhajfkfhdnciaa.labelQueues
open Go.ChangeShapes Go.WideShapes Go.ChangeAt Go.RowKit
open Go.ChangeMaps (open_string shut_string)
open Go Go.Xw
set_option linter.unusedVariables false
theorem own : ownKnob Try.prog.godebug = none := Facts.own
theorem laidOut : laidOutB Try.prog = true := Facts.laid
theorem closed : joinedFacts Try.pinned.checked.prog 19 Try.f19 Rows.labelQueuesSpec Rows.labelQueuesRow = true := by
  unfold joinedFacts
  rw [Facts.enter, Facts.lifts, Facts.make, Facts.laid, Facts.rowed, Facts.plain, Facts.heard]
  kernel_rfl
theorem enc_seg {α : Type} (K : Kd α) (a : α) : K.enc a = cellsOf [Kd.seg K a] := by simp [cellsOf, Kd.seg]
def start : Input := ⟨#[], #[.agg #[.string ByteArray.empty, .int .i64 0, .int .i64 0, .int .i64 0, .int .i64 0, .int .i64 0, .int .i64 0, .int .i64 0, .int .i64 0, .int .i64 0, .int .i64 0, .int .i64 0, .int .i64 0, .int .i64 0]], []⟩
set_option maxRecDepth 100000 in
set_option maxHeartbeats 1000000 in
theorem lifted (os : Os) (started : os.Started) (H : Type) (enc : TypeId × Value → H) :
    ReturnsInHanded {} Try.checked os 19 .any (Rows.labelQueuesSpec.pre6 enc Try.prog Try.f19 Rows.labelQueuesRow.domain false) (Rows.labelQueuesSpec.post enc Try.prog Try.f19 false true false false) := by
  refine returnsInHanded_of_change_sized (C := Try.checked) own started (by kernel_rfl) Try.func19
    (ChangeSpec.witness6 (enc := enc) (C := Try.checked) false start 8 (by kernel_rfl) (by kernel_rfl) (by kernel_rfl) (by kernel_rfl)) ?_
  intro W base args ds gs before hval0 hW hcnd hsz0 _
  have hval : ∀ (j : Nat) t v, Try.f19.params[j]? = some t → args[j]? = some v → Value.okWide Try.prog W .any base t v := hval0
  have hW' := hW
  obtain ⟨p, q, hA0, hV, rfl, hfz, hnd⟩ := hW
  have hA : DataW.TrodAll enc Try.prog W 0 (fun _ => true) true Try.f19.params.toList args.toList ds p := hA0
  rw [Try.params19] at hA hval
  obtain ⟨v0, vs0, d0, ds0, p0, q0, hargs, rfl, rfl, h0, r0⟩ := trodAll_cons hA
  obtain ⟨rfl, rfl, rfl⟩ := trodAll_nil r0
  obtain rfl : args = #[v0] := by cases args; simp_all
  obtain ⟨rfl, rfl⟩ := trodVars_none hV
  have k0 := h0
  have lt0 : ∀ x ∈ p0, x.block < W.heap.size := by obtain ⟨m, hm⟩ := k0; exact DataW.trod_lt m _ _ _ hm
  obtain ⟨fu0, hf0⟩ := h0
  obtain ⟨a0, e0, o0⟩ := (opn_api_Queue (w := W)) enc _ _ _ _ _ _ hf0
  obtain rfl := agg_of (by kernel_rfl) (hval 0 98 v0 rfl rfl) e0
  obtain ⟨fu, hfu⟩ := Pure.LabelQueues a0 o0
  refine Calls.mono (rickyardlaw11_LabelQueues.ok fu W a0 true hfu) fun e W' hr => ?_
  obtain ⟨v, rfl, rfl, gr⟩ := hr
  have bel := Fr.below gr
  exact ⟨_, rfl, _, _, _, [], _, [], hW', trodAll_mk1 (shut_bool Try.underlying4 _), (trodAll_cons_mk (Below.trod laidOut (by kernel_rfl) (of_decide_eq_true (by kernel_rfl)) k0 bel lt0) trodAll_mk0), rfl, bel.frame _, fun h => by cases h⟩
theorem over : Rows.labelQueuesRow.holds Try.pinned (OpenSpec.ofChange Rows.labelQueuesSpec) :=
  OpenClaim.holds_of_wide 19 Try.f19 rfl rfl rfl rfl rfl rfl rfl ⟨rfl, rfl, rfl, rfl, rfl⟩ rfl rfl rfl rfl rfl (by kernel_rfl) Try.func19 closed
    (of_decide_eq_true (by kernel_rfl)) (by unfold Func.isWrapper; first | (rw [if_pos (by decide +kernel)]; kernel_rfl) | (rw [if_neg (by decide +kernel)]; exact ⟨rfl, rfl⟩))
    (fun os started H enc _ => lifted os started H enc)
theorem proved : Rows.LabelQueuesSaid := over
end Go.Proofs.Ytjhajfkfhdnciaa.labelQueues
namespace Go.Proofs.Ytjhajfkfhdnciaa
/-- The law holds. -/
theorem labelQueues_holds : Rows.LabelQueuesSaid := labelQueues.proved
#print axioms labelQueues_holds
end Go.Proofs.Ytjhajfkfhdnciaa
