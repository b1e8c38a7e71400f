/- DirActs: texts merged, part 7 of 8. The last part proves that the law DirActs holds for every input. -/
import Derived.Test.YtdifnahlheogdaaGreatDoorPkDirActs6
set_option maxRecDepth 100000
set_option maxHeartbeats 4000000
set_option linter.unusedVariables false
set_option linter.unusedSimpArgs false
set_option linter.unusedSectionVars false
namespace Go.Proofs.YtdifnahlheogdaaGreatDoor.Pure
open Go Go.Xw Go.Yw
def numOk (x : Int) : Prop := 2 ≤ x ∧ x ≤ 3071
instance (x : Int) : Decidable (numOk x) := inferInstanceAs (Decidable (_ ∧ _))
theorem bnum_eq (fu : Nat) (x : Int) : label_blockNumber.f fu x = some (decide (numOk x)) := by
  unfold label_blockNumber.f
  by_cases h : x ≥ 2
  · by_cases h2 : x < 3072
    · rw [decide_eq_true h, decide_eq_true h2, decide_eq_true (show numOk x from ⟨h, by omega⟩)]
      rfl
    · rw [decide_eq_true h, decide_eq_false h2, decide_eq_false (fun y : numOk x => by have := y.2; omega)]
      rfl
  · rw [decide_eq_false h, decide_eq_false (fun y : numOk x => h y.1)]
    rfl
theorem rbnum_eq (fu : Nat) (x : Int) : rickyardref08_Block.f fu x = some (decide (numOk x)) := by
  unfold rickyardref08_Block.f
  by_cases h : x ≥ 2
  · by_cases h2 : x ≤ 3071
    · rw [decide_eq_true h, decide_eq_true h2, decide_eq_true (show numOk x from ⟨h, by omega⟩)]
      rfl
    · rw [decide_eq_true h, decide_eq_false h2, decide_eq_false (fun y : numOk x => h2 y.2)]
      rfl
  · rw [decide_eq_false h, decide_eq_false (fun y : numOk x => h y.1)]
    rfl
theorem among_eq {fu : Nat} {l : List Int} {x : Int} (hl : l.length ≤ 9000000000000000000) (hf : l.length < fu) : slices_Contains.f fu l x = some (decide (x ∈ l)) := by
  unfold slices_Contains.f
  have hs : ∀ j : Nat, j < l.length → slices_Index.s0 fu l x (j : Int) = some (if x ≠ ix l (j : Int) then .inr ((j + 1 : Nat) : Int) else .inl (.inl (j : Int))) := by
    intro j hj
    unfold slices_Index.s0
    have h1 : (j : Int) < (l.length : Int) := by omega
    have c0 : 0 ≤ (j : Int) := by omega
    have w3 : IntKind.i64.wrap ((j : Int) + 1) = ((j + 1 : Nat) : Int) := by rw [w64 (by omega) (by omega)]; omega
    simp only [h1, c0, and_self, decide_true, if_true, w3]
    by_cases e : x = ix l (j : Int) <;> simp [e]
  have hi : ∃ r : Int, slices_Index.f fu l x = some r ∧ (r ≥ 0 ↔ x ∈ l) := by
    unfold slices_Index.f
    by_cases hk : x ∈ l
    · have hmin : ∀ m j, j ≤ m → (j < l.length ∧ x = ix l (j : Int)) → ∃ q, (q < l.length ∧ x = ix l (q : Int)) ∧ ∀ i, i < q → x ≠ ix l (i : Int) := by
        intro m
        induction m with
        | zero =>
          intro j hj hjj
          exact ⟨j, hjj, fun i hi => by omega⟩
        | succ m ih =>
          intro j hj hjj
          by_cases hx : ∃ i, i < j ∧ x = ix l (i : Int)
          · obtain ⟨i, hi, hgi⟩ := hx
            exact ih i (by omega) ⟨by omega, hgi⟩
          · exact ⟨j, hjj, fun i hi hg => hx ⟨i, hi, hg⟩⟩
      obtain ⟨j, hj, hjx⟩ := List.getElem_of_mem hk
      obtain ⟨q, ⟨hq, hg⟩, hall⟩ := hmin j j (Nat.le_refl _) ⟨hj, by rw [ix_nat hj, hjx]⟩
      have : loopM (slices_Index.s0 fu l x) fu 0 = some (.inl (q : Int)) :=
        loopM_run (S := fun j => (j : Int)) q rfl (fun i hi => by rw [hs i (by omega), if_pos (hall i hi)]) (by rw [hs q hq, if_neg (fun h => h hg)]) (by omega)
      rw [this]
      refine ⟨(q : Int), rfl, ?_⟩
      simp only [hk, iff_true]
      omega
    · have : loopM (slices_Index.s0 fu l x) fu 0 = some (.inr ()) := by
        refine loopM_run (S := fun j => (j : Int)) l.length rfl (fun j hj => ?_) ?_ hf
        · rw [hs j hj, if_pos]
          intro e
          rw [ix_nat hj] at e
          exact hk (by rw [e]; exact List.getElem_mem hj)
        · unfold slices_Index.s0
          simp
      rw [this]
      exact ⟨-1, rfl, by simp [hk]⟩
  obtain ⟨r, hr, hrk⟩ := hi
  rw [hr]
  exact congrArg some (decide_eq_decide.2 hrk)
def dirAt (l : List Int) (j : Nat) : Prop := numOk (ix l (j : Int)) ∧ ix l (j : Int) ∉ l.take j
instance (l : List Int) (j : Nat) : Decidable (dirAt l j) := inferInstanceAs (Decidable (_ ∧ _))
def DirOk (l : List Int) : Prop := (1 ≤ l.length ∧ l.length ≤ 16) ∧ ∀ j, j < l.length → dirAt l j
instance (l : List Int) : Decidable (DirOk l) := inferInstanceAs (Decidable (_ ∧ _))
theorem dirRight_eq {fu : Nat} {l : List Int} (hf : 100 < fu) : label_RightDir.f fu ⟨l⟩ = some (decide (DirOk l)) := by
  unfold label_RightDir.f
  by_cases hl : 1 ≤ l.length ∧ l.length ≤ 16
  · have c1 : ¬ (l.length : Int) < 1 := by omega
    have c2 : ¬ (l.length : Int) > 16 := by omega
    have hs : ∀ j : Nat, j < l.length → label_RightDir.s0 fu ⟨l⟩ (j : Int) = some (if dirAt l j then .inr ((j + 1 : Nat) : Int) else .inl (.inl false)) := by
      intro j hj
      unfold label_RightDir.s0
      have h1 : (j : Int) < (l.length : Int) := by omega
      have h2 : (j : Int) ≤ (l.length : Int) := by omega
      have c0 : 0 ≤ (j : Int) := by omega
      have w3 : IntKind.i64.wrap ((j : Int) + 1) = ((j + 1 : Nat) : Int) := by rw [w64 (by omega) (by omega)]; omega
      have ec : cut l 0 (j : Int) = l.take j := by unfold cut; simp
      have hc : slices_Contains.f fu (l.take j) (ix l (j : Int)) = some (decide (ix l (j : Int) ∈ l.take j)) := among_eq (by rw [List.length_take]; omega) (by rw [List.length_take]; omega)
      simp only [h1, h2, c0, and_self, decide_true, if_true, w3, bnum_eq, Option.bind_some, ec, hc]
      unfold dirAt
      by_cases g1 : numOk (ix l (j : Int))
      · by_cases g2 : ix l (j : Int) ∈ l.take j <;> simp [g1, g2]
      · simp [g1]
    rw [decide_eq_false c1, decide_eq_false c2]
    simp only [Bool.false_eq_true, if_false]
    by_cases h : ∀ j, j < l.length → dirAt l j
    · have : loopM (label_RightDir.s0 fu ⟨l⟩) fu 0 = some (.inr ()) := by
        refine loopM_run (S := fun j => (j : Int)) l.length rfl (fun j hj => by rw [hs j hj, if_pos (h j hj)]) ?_ (by omega)
        unfold label_RightDir.s0
        simp
      have hD : DirOk l := ⟨hl, h⟩
      rw [this, decide_eq_true hD]
      rfl
    · have : loopM (label_RightDir.s0 fu ⟨l⟩) fu 0 = some (.inl false) := by
        refine loopM_bad (S := fun j => (j : Int)) l.length (fun j => dirAt l j) rfl ?_ (fun j hj _ hg => by rw [hs j hj, if_pos hg]) (fun j hj _ hg => by rw [hs j hj, if_neg hg]) (by omega)
        apply Classical.byContradiction
        intro hx
        exact h fun i hi => Classical.byContradiction fun hg => hx ⟨i, hi, hg⟩
      have hD : ¬ DirOk l := fun x => h x.2
      rw [this, decide_eq_false hD]
      rfl
  · have hD : ¬ DirOk l := fun x => hl x.1
    rw [decide_eq_false hD]
    by_cases c1 : (l.length : Int) < 1
    · rw [decide_eq_true c1]
      rfl
    · have c2 : (l.length : Int) > 16 := by omega
      rw [decide_eq_false c1, decide_eq_true c2]
      rfl
theorem rd2_eq {fu : Nat} {l : List Int} {out : List UInt8} {j : Nat} (hj : j < l.length) (hl : l.length ≤ 50) (hf : 100 < fu) : loopM (rickyardref11_Dir.s1 fu l (out, (j : Int))) fu 0 = some (if ix l (j : Int) ∉ l.take j then .inr () else .inl (.inl (.inl ([], false)))) := by
  have hs : ∀ i : Nat, i < j → rickyardref11_Dir.s1 fu l (out, (j : Int)) (i : Int) = some (if ix l (i : Int) ≠ ix l (j : Int) then .inr ((i + 1 : Nat) : Int) else .inl (.inl (.inl (.inl ([], false))))) := by
    intro i hi
    unfold rickyardref11_Dir.s1
    have h1 : (i : Int) < (j : Int) := by omega
    have h2 : (i : Int) < (l.length : Int) := by omega
    have h3 : (j : Int) < (l.length : Int) := by omega
    have c0 : 0 ≤ (i : Int) := by omega
    have c1 : 0 ≤ (j : Int) := by omega
    have w3 : IntKind.i64.wrap ((i : Int) + 1) = ((i + 1 : Nat) : Int) := by rw [w64 (by omega) (by omega)]; omega
    simp only [h1, h2, h3, c0, c1, and_self, decide_true, if_true, w3]
    by_cases e : ix l (i : Int) = ix l (j : Int) <;> simp [e]
  have hmem : ix l (j : Int) ∉ l.take j ↔ ∀ i, i < j → ix l (i : Int) ≠ ix l (j : Int) := by
    constructor
    · intro h i hi e
      apply h
      rw [← e, ix_nat (show i < l.length by omega)]
      exact List.mem_take_iff_getElem.2 ⟨i, by omega, rfl⟩
    · intro h hm
      obtain ⟨i, hi, he⟩ := List.mem_take_iff_getElem.1 hm
      exact h i (by omega) (by rw [ix_nat (show i < l.length by omega)]; exact he)
  by_cases h : ix l (j : Int) ∉ l.take j
  · rw [if_pos h]
    refine loopM_run (S := fun i => (i : Int)) j rfl (fun i hi => by rw [hs i hi, if_pos (hmem.1 h i hi)]) ?_ (by omega)
    unfold rickyardref11_Dir.s1
    simp
  · rw [if_neg h]
    refine loopM_bad (S := fun i => (i : Int)) j (fun i => ix l (i : Int) ≠ ix l (j : Int)) rfl ?_ (fun i hi _ hg => by rw [hs i hi, if_pos hg]) (fun i hi _ hg => by rw [hs i hi, if_neg hg]) (by omega)
    apply Classical.byContradiction
    intro hx
    exact h (hmem.2 fun i hi => Classical.byContradiction fun hg => hx ⟨i, hi, hg⟩)
theorem rdir_eq {fu : Nat} {l : List Int} (hf : 100 < fu) : rickyardref11_Dir.f fu l = some (if DirOk l then ((sealed (summed 6 (l.length : Int) (rowE l l.length))).map toB, true) else ([], false)) := by
  unfold rickyardref11_Dir.f
  by_cases hl : 1 ≤ l.length ∧ l.length ≤ 16
  · have c1 : ¬ (l.length : Int) < 1 := by omega
    have c2 : ¬ (l.length : Int) > 16 := by omega
    have hs : ∀ j : Nat, j < l.length → rickyardref11_Dir.s0 fu l ((rowE l j).map toB, (j : Int)) = some (if dirAt l j then .inr ((rowE l (j + 1)).map toB, ((j + 1 : Nat) : Int)) else .inl (.inl ([], false))) := by
      intro j hj
      unfold rickyardref11_Dir.s0
      have h1 : (j : Int) < (l.length : Int) := by omega
      have c0 : 0 ≤ (j : Int) := by omega
      have w3 : IntKind.i64.wrap ((j : Int) + 1) = ((j + 1 : Nat) : Int) := by rw [w64 (by omega) (by omega)]; omega
      have hlay : rickyardref01_Lay.f fu (IntKind.u64.wrap (ix l (j : Int))) 2 = some ((lay (u64n (ix l (j : Int))) 2).map toB) := rlay64 (n := 2) (by decide) (by omega)
      have hlim : ((rowE l j).map toB).length + ((lay (u64n (ix l (j : Int))) 2).map toB).length ≤ LIM := lim_of' (by rw [List.length_map, List.length_map, rowE_len, lay_len]; omega)
      have e : (rowE l (j + 1)).map toB = (rowE l j).map toB ++ (lay (u64n (ix l (j : Int))) 2).map toB := by rw [← List.map_append, rowE, rowE, flat_succ]
      simp only [h1, c0, and_self, decide_true, if_true, w3, rbnum_eq, Option.bind_some, rd2_eq (out := (rowE l j).map toB) hj (by omega) hf, hlay, hlim, e]
      by_cases g1 : numOk (ix l (j : Int))
      · by_cases g2 : ix l (j : Int) ∉ l.take j
        · rw [decide_eq_true g1, if_pos g2, if_pos (show dirAt l j from ⟨g1, g2⟩)]
          rfl
        · rw [decide_eq_true g1, if_neg g2, if_neg (show ¬ dirAt l j from fun x => g2 x.2)]
          rfl
      · rw [decide_eq_false g1, if_neg (show ¬ dirAt l j from fun x => g1 x.1)]
        rfl
    rw [decide_eq_false c1, decide_eq_false c2]
    simp only [Bool.false_eq_true, if_false]
    by_cases h : ∀ j, j < l.length → dirAt l j
    · have : loopM (rickyardref11_Dir.s0 fu l) fu ([], 0) = some (.inr ((rowE l l.length).map toB)) := by
        refine loopM_run (S := fun j => ((rowE l j).map toB, (j : Int))) l.length (by simp [rowE]) (fun j hj => by rw [hs j hj, if_pos (h j hj)]) ?_ (by omega)
        unfold rickyardref11_Dir.s0
        simp
      have hD : DirOk l := ⟨hl, h⟩
      have hq := rseal_eq (fu := fu) (k := 6) (t := (l.length : Int)) (rowE_bytes l l.length) (by omega) (by omega) (by rw [rowE_len]; omega) hf
      rw [this, if_pos hD]
      simp only [Option.bind_some, hq]
    · have : loopM (rickyardref11_Dir.s0 fu l) fu ([], 0) = some (.inl ([], false)) := by
        refine loopM_bad (S := fun j => ((rowE l j).map toB, (j : Int))) l.length (fun j => dirAt l j) (by simp [rowE]) ?_ (fun j hj _ hg => by rw [hs j hj, if_pos hg]) (fun j hj _ hg => by rw [hs j hj, if_neg hg]) (by omega)
        apply Classical.byContradiction
        intro hx
        exact h fun i hi => Classical.byContradiction fun hg => hx ⟨i, hi, hg⟩
      have hD : ¬ DirOk l := fun x => h x.2
      rw [this, if_neg hD]
      rfl
  · have hD : ¬ DirOk l := fun x => hl x.1
    rw [if_neg hD]
    by_cases c1 : (l.length : Int) < 1
    · rw [decide_eq_true c1]
      rfl
    · have c2 : (l.length : Int) > 16 := by omega
      rw [decide_eq_false c1, decide_eq_true c2]
      rfl
theorem dirPut_eq {fu : Nat} {l : List Int} (hf : 100 < fu) : label_PutDir.f fu ⟨l⟩ = some (if DirOk l then (sealed (summed 6 (l.length : Int) (rowE l l.length)), true) else ([], false)) := by
  unfold label_PutDir.f
  rw [dirRight_eq hf]
  by_cases h : DirOk l
  · have hl := h.1
    have hloop : loopM (label_PutDir.s0 fu ⟨l⟩) fu ([], 0) = some (rowE l l.length) := by
      refine loopM_run (S := fun j => (rowE l j, (j : Int))) l.length (by simp [rowE]) ?_ ?_ (by omega)
      · intro j hj
        unfold label_PutDir.s0
        have h1 : (j : Int) < (l.length : Int) := by omega
        have c0 : 0 ≤ (j : Int) := by omega
        have w3 : IntKind.i64.wrap ((j : Int) + 1) = ((j + 1 : Nat) : Int) := by rw [w64 (by omega) (by omega)]; omega
        have hlay : octet_Lay.f fu (IntKind.u64.wrap (ix l (j : Int))) 2 = some (lay (u64n (ix l (j : Int))) 2) := olay64 (n := 2) (by decide) (by omega)
        have hlim : (rowE l j).length + (lay (u64n (ix l (j : Int))) 2).length ≤ LIM := lim_of' (by rw [rowE_len, lay_len]; omega)
        simp only [h1, c0, and_self, decide_true, if_true, w3, hlay, Option.bind_some, hlim]
        rw [rowE, rowE, flat_succ]
      · unfold label_PutDir.s0
        simp
    have hq := seal_eq (fu := fu) (k := 6) (t := (l.length : Int)) (rowE_bytes l l.length) (by omega) (by omega) (by rw [rowE_len]; omega) hf
    simp only [h, decide_true, Bool.not_true, Bool.false_eq_true, if_false, Option.bind_some, hloop, hq, if_true]
  · simp [h]
def dirOf (body : List Int) (t : Nat) : List Int := (List.range t).map fun i => ((num (fieldAt body 2 i) : Nat) : Int)
theorem dirOf_len (body : List Int) (t : Nat) : (dirOf body t).length = t := by simp [dirOf]
theorem dirE_of {body : List Int} (hb : Bytes body) {t : Nat} (h : 2 * t ≤ body.length) : rowE (dirOf body t) t = body.take (2 * t) := by
  rw [← field_flat (w := 2) t h]
  apply flat_congr
  intro i hi
  unfold dirOf
  rw [ix_map hi]
  have hfl := fieldAt_len h hi
  have hfb := fieldAt_bytes hb 2 i
  have hn := num_lt hfb
  rw [hfl] at hn
  rw [u64n_of (by omega) (by omega), Int.toNat_natCast]
  have := lay_num hfb
  rwa [hfl] at this
theorem dirOf_E {l : List Int} (h : DirOk l) (t : List Int) : dirOf (rowE l l.length ++ t) l.length = l := by
  apply ix_ext (dirOf_len _ _)
  intro i hi
  rw [dirOf_len] at hi
  unfold dirOf
  rw [ix_map hi]
  have := (h.2 i hi).1
  unfold numOk at this
  rw [rowE, flat_field (fun i => lay_len _ _) hi, num_lay, u64n_of (by omega) (by omega)]
  omega
def GetD (b : List Int) : Prop := Is b ∧ ix b 4 = 6 ∧ ix b 5 ≤ 16 ∧ DirOk (dirOf (b.drop 8) (ix b 5).toNat) ∧ ∀ y ∈ (b.drop 8).drop (2 * (ix b 5).toNat), y = 0
instance (b : List Int) : Decidable (GetD b) := inferInstanceAs (Decidable (_ ∧ _))
theorem dirGet_eq {fu : Nat} {b : List Int} (hb : Bytes b) (hl : b.length ≤ 9000000000000000000) (hf : 100 < fu) : label_GetDir.f fu b = some (if GetD b then (⟨dirOf (b.drop 8) (ix b 5).toNat⟩, true) else (⟨[]⟩, false)) := by
  unfold label_GetDir.f
  rw [open_eq hb hl hf]
  by_cases hi : Is b
  · have h8 := is_body hi
    obtain ⟨b4, b5⟩ := is_tag hb hi
    rw [if_pos hi]
    simp only [Option.bind_some, Bool.not_true, Bool.false_eq_true, if_false]
    by_cases h4 : ix b 4 = 6
    · by_cases h5 : ix b 5 ≤ 16
      · have h5' : ¬ ix b 5 > 16 := by omega
        obtain ⟨t, ht⟩ : ∃ t : Nat, ix b 5 = (t : Int) := ⟨(ix b 5).toNat, by omega⟩
        have hbd := hb.drop 8
        obtain ⟨body, hbody⟩ : ∃ body, body = b.drop 8 := ⟨_, rfl⟩
        rw [← hbody] at h8 hbd
        have hloop : loopM (label_GetDir.s0 fu (ix b 4, ix b 5, body, true)) fu (0, []) = some (dirOf body t) := by
          refine loopM_run (S := fun j => ((j : Int), dirOf body j)) t (by simp [dirOf]) ?_ ?_ (by omega)
          · intro j hj
            unfold label_GetDir.s0
            have h1 : (j : Int) < ix b 5 := by omega
            have w3 : IntKind.i64.wrap ((j : Int) + 1) = ((j + 1 : Nat) : Int) := by rw [w64 (by omega) (by omega)]; omega
            have w4 : IntKind.i64.wrap (2 * (j : Int)) = ((2 * j : Nat) : Int) := by rw [w64 (by omega) (by omega)]; omega
            have w5 : IntKind.i64.wrap (2 * ((j + 1 : Nat) : Int)) = ((2 * j + 2 : Nat) : Int) := by rw [w64 (by omega) (by omega)]; omega
            have hfl := fieldAt_len (l := body) (w := 2) (n := t) (by omega) hj
            have hfb := fieldAt_bytes hbd 2 j
            have hr : octet_Read.f fu (cut body ((2 * j : Nat) : Int) ((2 * j + 2 : Nat) : Int)) = some ((num (fieldAt body 2 j) : Nat) : Int) := by
              rw [cut_eq]
              have := read_eq (fu := fu) hfb (by omega) (by omega)
              exact this
            have w6 := num_small hfb (by omega)
            have c1 : (0 : Int) ≤ ((2 * j : Nat) : Int) ∧ ((2 * j : Nat) : Int) ≤ ((2 * j + 2 : Nat) : Int) ∧ ((2 * j + 2 : Nat) : Int) ≤ (body.length : Int) := by omega
            have hlim : (dirOf body j).length + ([((num (fieldAt body 2 j) : Nat) : Int)] : List Int).length ≤ LIM := lim_of' (by rw [dirOf_len]; simp; omega)
            simp only [h1, decide_true, if_true, w3, w4, w5, if_pos c1, hr, Option.bind_some, w6, if_pos hlim]
            simp [dirOf, List.range_succ]
          · unfold label_GetDir.s0
            simp [ht]
        have w1 : IntKind.i64.wrap (2 * (t : Int)) = ((2 * t : Nat) : Int) := by rw [w64 (by omega) (by omega)]; omega
        have w6 : IntKind.i64.wrap ((body.length : Int) - ((2 * t : Nat) : Int)) = ((56 - 2 * t : Nat) : Int) := by rw [w64 (by omega) (by omega)]; omega
        have hn := noughts_eq (fu := fu) (b := body) (i := 2 * t) (n := 56 - 2 * t) (by omega) (by omega) (by omega)
        have e8 : (body.drop (2 * t)).take (56 - 2 * t) = body.drop (2 * t) := List.take_of_length_le (by rw [List.length_drop, h8]; omega)
        rw [e8] at hn
        rw [← hbody]
        simp only [h4, h5', decide_true, decide_false, Bool.not_true, Bool.false_eq_true, if_false] at hloop ⊢
        simp only [ht, w1, w6, hn, Option.bind_some] at hloop ⊢
        simp only [hloop, dirRight_eq hf, Option.bind_some]
        have hgi : GetD b ↔ (DirOk (dirOf body t) ∧ ∀ y ∈ body.drop (2 * t), y = 0) := by
          unfold GetD
          rw [ht, ← hbody, Int.toNat_natCast]
          exact ⟨fun x => x.2.2.2, fun x => ⟨hi, h4, by omega, x⟩⟩
        rw [Int.toNat_natCast]
        by_cases hz : ∀ y ∈ body.drop (2 * t), y = 0
        · rw [decide_eq_true hz]
          by_cases hr : DirOk (dirOf body t)
          · rw [if_pos (hgi.2 ⟨hr, hz⟩), decide_eq_true hr]
            rfl
          · rw [if_neg (fun x => hr (hgi.1 x).1), decide_eq_false hr]
            rfl
        · rw [decide_eq_false hz, if_neg (fun x => hz (hgi.1 x).2)]
          rfl
      · have h5' : ix b 5 > 16 := by omega
        have hg : ¬ GetD b := fun x => h5 x.2.2.1
        rw [if_neg hg, decide_eq_true h4, decide_eq_true h5']
        rfl
    · have hg : ¬ GetD b := fun x => h4 x.2.1
      rw [if_neg hg, decide_eq_false h4]
      rfl
  · have hg : ¬ GetD b := fun x => hi x.1
    rw [if_neg hi, if_neg hg]
    rfl
theorem rdirGet_eq {fu : Nat} {b : List Int} (hb : Bytes b) (hf : 100 < fu) : rickyardref11_GetDir.f fu b = some (if GetD b then (dirOf (b.drop 8) (ix b 5).toNat, true) else ([], false)) := by
  unfold rickyardref11_GetDir.f
  rw [ropen_eq hb hf]
  by_cases hi : Is b
  · have h8 := is_body hi
    obtain ⟨b4, b5⟩ := is_tag hb hi
    rw [if_pos hi]
    simp only [Option.bind_some, Bool.not_true, Bool.false_eq_true, if_false]
    by_cases h4 : ix b 4 = 6
    · by_cases h5 : ix b 5 ≤ 16
      · have h5' : ¬ ix b 5 > 16 := by omega
        obtain ⟨t, ht⟩ : ∃ t : Nat, ix b 5 = (t : Int) := ⟨(ix b 5).toNat, by omega⟩
        have hbd := hb.drop 8
        obtain ⟨body, hbody⟩ : ∃ body, body = b.drop 8 := ⟨_, rfl⟩
        have hq0 : ∀ {k tg : Int} {bd : List Int}, (0 ≤ k ∧ k ≤ 255) → (0 ≤ tg ∧ tg ≤ 255) → Bytes bd → bd.length ≤ 56 → ((sealed (summed k tg bd)).map toB = b.map toB ↔ k = ix b 4 ∧ tg = ix b 5 ∧ bd ++ List.replicate (56 - bd.length) 0 = b.drop 8) := fun h1 h2 h3 h4 => sealed_map_iff hb hi h1 h2 h3 h4
        rw [← hbody] at h8 hbd
        have hloop : loopM (rickyardref11_GetDir.s0 fu (ix b 4, ix b 5, body.map toB, true)) fu ([], 0) = some (dirOf body t) := by
          refine loopM_run (S := fun j => (dirOf body j, (j : Int))) t (by simp [dirOf]) ?_ ?_ (by omega)
          · intro j hj
            unfold rickyardref11_GetDir.s0
            have h1 : (j : Int) < ix b 5 := by omega
            have w3 : IntKind.i64.wrap ((j : Int) + 1) = ((j + 1 : Nat) : Int) := by rw [w64 (by omega) (by omega)]; omega
            have w4 : IntKind.i64.wrap (2 * (j : Int)) = ((2 * j : Nat) : Int) := by rw [w64 (by omega) (by omega)]; omega
            have w5 : IntKind.i64.wrap (((2 * j : Nat) : Int) + 2) = ((2 * j + 2 : Nat) : Int) := by rw [w64 (by omega) (by omega)]; omega
            have hfl := fieldAt_len (l := body) (w := 2) (n := t) (by omega) hj
            have hfb := fieldAt_bytes hbd 2 j
            have hr : rickyardref01_Int.f fu (cut (body.map toB) ((2 * j : Nat) : Int) ((2 * j + 2 : Nat) : Int)) = some ((num (fieldAt body 2 j) : Nat) : Int) := by
              have := rintAt_eq (fu := fu) (b := body) (i := 2 * j) (n := 2) hbd (by omega) (by decide) hf
              rw [intAt_small hbd (by omega) (by decide)] at this
              exact this
            have c1 : (0 : Int) ≤ ((2 * j : Nat) : Int) ∧ ((2 * j : Nat) : Int) ≤ ((2 * j + 2 : Nat) : Int) ∧ ((2 * j + 2 : Nat) : Int) ≤ ((body.map toB).length : Int) := by rw [List.length_map]; omega
            have hlim : (dirOf body j).length + ([((num (fieldAt body 2 j) : Nat) : Int)] : List Int).length ≤ LIM := lim_of' (by rw [dirOf_len]; simp; omega)
            simp only [h1, decide_true, if_true, w3, w4, w5, if_pos c1, hr, Option.bind_some, if_pos hlim]
            simp [dirOf, List.range_succ]
          · unfold rickyardref11_GetDir.s0
            simp [ht]
        have hgi : GetD b ↔ (DirOk (dirOf body t) ∧ ∀ y ∈ body.drop (2 * t), y = 0) := by
          unfold GetD
          rw [ht, ← hbody, Int.toNat_natCast]
          exact ⟨fun x => x.2.2.2, fun x => ⟨hi, h4, by omega, x⟩⟩
        rw [← hbody]
        simp only [h4, h5', decide_true, decide_false, Bool.not_true, Bool.false_eq_true, if_false] at hloop ⊢
        rw [hloop]
        simp only [Option.bind_some, rdir_eq hf]
        have hq := hq0 (k := 6) (tg := (t : Int)) (bd := rowE (dirOf body t) t) (by omega) (by omega) (rowE_bytes _ _) (by rw [rowE_len]; omega)
        have hfl := full_iff (body := rowE (dirOf body t) t) (full := body) (by rw [rowE_len]; omega) h8
        rw [← hbody] at hq
        rw [rowE_len, dirE_of hbd (show 2 * t ≤ body.length by omega)] at hfl
        rw [rowE_len, dirE_of hbd (show 2 * t ≤ body.length by omega)] at hq
        rw [ht, Int.toNat_natCast, dirOf_len, dirE_of hbd (show 2 * t ≤ body.length by omega)]
        by_cases hr : DirOk (dirOf body t)
        · rw [if_pos hr]
          by_cases hz : ∀ y ∈ body.drop (2 * t), y = 0
          · rw [if_pos (hgi.2 ⟨hr, hz⟩)]
            simp only
            rw [decide_eq_true (hq.2 ⟨h4.symm, ht.symm, hfl.2 ⟨rfl, hz⟩⟩)]
            rfl
          · rw [if_neg (fun x => hz (hgi.1 x).2)]
            simp only
            rw [decide_eq_false (fun x => hz (hfl.1 (hq.1 x).2.2).2)]
            rfl
        · rw [if_neg hr, if_neg (fun x => hr (hgi.1 x).1)]
          rfl
      · have h5' : ix b 5 > 16 := by omega
        have hg : ¬ GetD b := fun x => h5 x.2.2.1
        rw [if_neg hg, decide_eq_true h4, decide_eq_true h5']
        rfl
    · have hg : ¬ GetD b := fun x => h4 x.2.1
      rw [if_neg hg, decide_eq_false h4]
      rfl
  · have hg : ¬ GetD b := fun x => hi x.1
    rw [if_neg hi, if_neg hg]
    rfl
theorem dirGet_put {fu : Nat} {l : List Int} (h : DirOk l) (hf : 100 < fu) : label_GetDir.f fu (sealed (summed 6 (l.length : Int) (rowE l l.length))) = some (⟨l⟩, true) ∧ (sealed (summed 6 (l.length : Int) (rowE l l.length))).length = 64 := by
  have hl := h.1
  have hel := rowE_len l l.length
  obtain ⟨p4, p5, p8⟩ := sealed_parts 6 (l.length : Int) (rowE l l.length)
  have hsl := sealed_len (summed_len (k := 6) (t := (l.length : Int)) (body := rowE l l.length) (by omega))
  have hno := dirOf_E h (List.replicate (56 - (rowE l l.length).length) 0)
  have hg : GetD (sealed (summed 6 (l.length : Int) (rowE l l.length))) := by
    refine ⟨is_sealed (by decide) (by omega), p4, by rw [p5]; omega, ?_, ?_⟩
    · rw [p8, p5, Int.toNat_natCast, hno]
      exact h
    · rw [p8, p5, Int.toNat_natCast, ← hel, List.drop_left' rfl]
      intro y hy
      exact List.eq_of_mem_replicate hy
  rw [dirGet_eq (sealed_bytes (summed_bytes (by omega) (by omega) (rowE_bytes l l.length))) (by omega) hf, if_pos hg, p8, p5, Int.toNat_natCast, hno]
  exact ⟨rfl, hsl⟩
theorem fst4_wide {c0 c1 c2 c3 n : Nat} : (fst4 c0 c1 c2 c3 n).2 ≤ 3 ∨ 65536 ≤ (fst4 c0 c1 c2 c3 n).1 := by
  unfold fst4
  by_cases h0 : c0 < 128
  · rw [if_pos h0]
    exact .inl (by simp)
  · rw [if_neg h0]
    by_cases h2 : (194 ≤ c0 ∧ c0 ≤ 223) ∧ (1 < n ∧ 128 ≤ c1 ∧ c1 ≤ 191)
    · rw [if_pos h2]
      exact .inl (by simp)
    · rw [if_neg h2]
      by_cases h3 : (224 ≤ c0 ∧ c0 ≤ 239) ∧ (1 < n ∧ (if c0 = 224 then 160 else 128) ≤ c1 ∧ c1 ≤ (if c0 = 237 then 159 else 191)) ∧ (2 < n ∧ 128 ≤ c2 ∧ c2 ≤ 191)
      · rw [if_pos h3]
        exact .inl (by simp)
      · rw [if_neg h3]
        by_cases h4 : (240 ≤ c0 ∧ c0 ≤ 244) ∧ (1 < n ∧ (if c0 = 240 then 144 else 128) ≤ c1 ∧ c1 ≤ (if c0 = 244 then 143 else 191)) ∧ (2 < n ∧ 128 ≤ c2 ∧ c2 ≤ 191) ∧ (3 < n ∧ 128 ≤ c3 ∧ c3 ≤ 191)
        · rw [if_pos h4]
          right
          have h5 := h4.1
          have h6 := h4.2.1.2.1
          simp only
          by_cases e : c0 = 240
          · rw [if_pos e] at h6
            omega
          · rw [if_neg e] at h6
            omega
        · rw [if_neg h4]
          exact .inl (by simp)
theorem rs_wide : ∀ (k : Nat) (m : List UInt8), m.length ≤ k → (∀ r ∈ rs k m, runeOk r) → m.length ≤ 3 * (rs k m).length
  | 0, m, hk, _ => by omega
  | k + 1, m, hk, h => by
    unfold rs at h ⊢
    by_cases hm : m = []
    · subst hm
      simp
    · rw [if_neg hm] at h ⊢
      have hp := List.length_pos_iff.2 hm
      obtain ⟨h1, h2⟩ := first_wide hp
      have ih := rs_wide k (m.drop (first m).2) (by rw [List.length_drop]; omega) fun r hr => h r (List.mem_cons_of_mem _ hr)
      have h0 := h _ List.mem_cons_self
      have hw : (first m).2 ≤ 3 := by
        rcases fst4_wide (c0 := oct m 0) (c1 := oct m 1) (c2 := oct m 2) (c3 := oct m 3) (n := m.length) with e | e
        · exact e
        · have e' : 65536 ≤ (first m).1 := e
          unfold runeOk at h0
          omega
      rw [List.length_drop] at ih
      rw [List.length_cons]
      omega
theorem NameOk.len {s : List UInt8} (h : NameOk s) (hs : s.length ≤ 300) : s.length ≤ 24 := by
  have := rs_wide 399 s (by omega) h.2
  have := h.1.2
  omega
theorem bit64 {c i : Nat} (hc : c < 9223372036854775808) (hi : i < 64) : bAnd .i64 (shR .i64 (c : Int) (i : Int)) 1 = ((c / 2 ^ i % 2 : Nat) : Int) := by
  have e1 : shR .i64 (c : Int) (i : Int) = ((c / 2 ^ i : Nat) : Int) := by
    unfold shR
    rw [Int.toNat_natCast, show min i IntKind.i64.bits = i from Nat.min_eq_left (by show i ≤ 64; omega)]
    rw [show ((2 : Int) ^ i) = ((2 ^ i : Nat) : Int) by push_cast; rfl]
    rw [Int.fdiv_eq_ediv_of_nonneg _ (Int.natCast_nonneg _)]
    rfl
  rw [e1]
  have hq : c / 2 ^ i < 9223372036854775808 := Nat.lt_of_le_of_lt (Nat.div_le_self _ _) hc
  generalize c / 2 ^ i = q at *
  unfold bAnd
  have e2 : (BitVec.ofInt IntKind.i64.bits (q : Int) &&& BitVec.ofInt IntKind.i64.bits 1).toNat = q % 2 := by
    rw [BitVec.toNat_and]
    have a1 : (BitVec.ofInt IntKind.i64.bits (q : Int)).toNat = q := by
      show (BitVec.ofInt 64 (q : Int)).toNat = q
      rw [BitVec.toNat_ofInt]
      omega
    have a2 : (BitVec.ofInt IntKind.i64.bits 1).toNat = 1 := rfl
    rw [a1, a2, Nat.and_one_is_mod]
  rw [e2, w64 (by omega) (by omega)]
def rootOk (c : Nat) (l : List Int) (i : Nat) : Prop := (c / 2 ^ i % 2 = 0 → ix l (i : Int) = 0) ∧ (c / 2 ^ i % 2 = 1 → numOk (ix l (i : Int)))
instance (c : Nat) (l : List Int) (i : Nat) : Decidable (rootOk c l i) := inferInstanceAs (Decidable (_ ∧ _))
def QueueOk (q : S_api_Queue) : Prop := NameOk q.Name ∧ (0 ≤ q.Count ∧ q.Count ≤ 4095) ∧ ∀ i, i < 12 → rootOk q.Count.toNat q.Roots.l i
instance (q : S_api_Queue) : Decidable (QueueOk q) := inferInstanceAs (Decidable (_ ∧ _))
theorem getIx {n : Nat} (a : Arr n Int) (i : Nat) : Arr.get a (i : Int) = ix a.l (i : Int) := rfl
theorem queue_head {fu : Nat} (hfu : 400 ≤ fu) {q : S_api_Queue} (hs : q.Name.length ≤ 300) (K : Option Bool) : ((name_Right.f fu q.Name : Option Bool).bind fun t1 => (if (!t1) = true then some false else (if (decide (q.Count < 0)) = true then some false else (if (decide (q.Count ≥ 4096)) = true then some false else K)))) = if NameOk q.Name ∧ (0 ≤ q.Count ∧ q.Count ≤ 4095) then K else some false := by
  rw [name_eq hfu hs, Option.bind_some]
  by_cases h1 : NameOk q.Name
  · rw [decide_eq_true h1]
    by_cases h2 : q.Count < 0
    · rw [decide_eq_true h2, if_neg (fun x : NameOk q.Name ∧ (0 ≤ q.Count ∧ q.Count ≤ 4095) => by have := x.2.1; omega)]
      rfl
    · rw [decide_eq_false h2]
      by_cases h3 : q.Count ≥ 4096
      · rw [decide_eq_true h3, if_neg (fun x : NameOk q.Name ∧ (0 ≤ q.Count ∧ q.Count ≤ 4095) => by have := x.2.2; omega)]
        rfl
      · rw [decide_eq_false h3, if_pos (show NameOk q.Name ∧ (0 ≤ q.Count ∧ q.Count ≤ 4095) from ⟨h1, by omega, by omega⟩)]
        rfl
  · rw [decide_eq_false h1, if_neg (fun x : NameOk q.Name ∧ (0 ≤ q.Count ∧ q.Count ≤ 4095) => h1 x.1)]
    rfl
theorem rqueue_head {fu : Nat} (hfu : 400 ≤ fu) {q : S_api_Queue} (hs : q.Name.length ≤ 300) (K : Option Bool) : ((rickyardref04_Right.f fu q.Name : Option Bool).bind fun t1 => (if (!t1) = true then some false else (if (decide (q.Count < 0)) = true then some false else (if (decide (q.Count > 4095)) = true then some false else K)))) = if NameOk q.Name ∧ (0 ≤ q.Count ∧ q.Count ≤ 4095) then K else some false := by
  rw [rname_eq hfu hs, Option.bind_some]
  by_cases h1 : NameOk q.Name
  · rw [decide_eq_true h1]
    by_cases h2 : q.Count < 0
    · rw [decide_eq_true h2, if_neg (fun x : NameOk q.Name ∧ (0 ≤ q.Count ∧ q.Count ≤ 4095) => by have := x.2.1; omega)]
      rfl
    · rw [decide_eq_false h2]
      by_cases h3 : q.Count > 4095
      · rw [decide_eq_true h3, if_neg (fun x : NameOk q.Name ∧ (0 ≤ q.Count ∧ q.Count ≤ 4095) => by have := x.2.2; omega)]
        rfl
      · rw [decide_eq_false h3, if_pos (show NameOk q.Name ∧ (0 ≤ q.Count ∧ q.Count ≤ 4095) from ⟨h1, by omega, by omega⟩)]
        rfl
  · rw [decide_eq_false h1, if_neg (fun x : NameOk q.Name ∧ (0 ≤ q.Count ∧ q.Count ≤ 4095) => h1 x.1)]
    rfl
theorem queueRight_eq {fu : Nat} (hfu : 400 ≤ fu) {q : S_api_Queue} (hs : q.Name.length ≤ 300) : label_RightQueue.f fu q = some (decide (QueueOk q)) := by
  unfold label_RightQueue.f
  rw [queue_head hfu hs]
  by_cases hh : NameOk q.Name ∧ (0 ≤ q.Count ∧ q.Count ≤ 4095)
  · rw [if_pos hh]
    obtain ⟨c, hc⟩ : ∃ c : Nat, q.Count = (c : Int) := ⟨q.Count.toNat, by omega⟩
    have hst : ∀ j : Nat, j < 12 → label_RightQueue.s0 fu q (j : Int) = some (if rootOk c q.Roots.l j then .inr ((j + 1 : Nat) : Int) else .inl (.inl false)) := by
      intro j hj
      unfold label_RightQueue.s0
      have h1 : (j : Int) < 12 := by omega
      have c0 : 0 ≤ (j : Int) := by omega
      have c1 : 0 ≤ (j : Int) ∧ (j : Int) < 12 := by omega
      have w3 : IntKind.i64.wrap ((j : Int) + 1) = ((j + 1 : Nat) : Int) := by rw [w64 (by omega) (by omega)]; omega
      have hb := bit64 (c := c) (i := j) (by omega) (by omega)
      rw [hc, hb]
      simp only [h1, c0, decide_true, if_true, if_pos c1, w3, bnum_eq, Option.bind_some, getIx]
      have hm : c / 2 ^ j % 2 = 0 ∨ c / 2 ^ j % 2 = 1 := by omega
      rcases hm with e | e
      · have hr : rootOk c q.Roots.l j ↔ ix q.Roots.l (j : Int) = 0 := ⟨fun x => x.1 e, fun z => ⟨fun _ => z, fun e' => by omega⟩⟩
        rw [e]
        by_cases z : ix q.Roots.l (j : Int) = 0
        · rw [if_pos (hr.2 z)]
          simp [z]
        · rw [if_neg (fun x => z (hr.1 x))]
          simp [z]
      · have hr : rootOk c q.Roots.l j ↔ numOk (ix q.Roots.l (j : Int)) := ⟨fun x => x.2 e, fun z => ⟨fun e' => by omega, fun _ => z⟩⟩
        rw [e]
        by_cases z : numOk (ix q.Roots.l (j : Int))
        · rw [if_pos (hr.2 z)]
          simp [z]
        · rw [if_neg (fun x => z (hr.1 x))]
          simp [z]
    have hQ : QueueOk q ↔ ∀ i, i < 12 → rootOk c q.Roots.l i := by
      unfold QueueOk
      rw [hc, Int.toNat_natCast, ← hc]
      exact ⟨fun x => x.2.2, fun x => ⟨hh.1, hh.2, x⟩⟩
    by_cases hall : ∀ i, i < 12 → rootOk c q.Roots.l i
    · have : loopM (label_RightQueue.s0 fu q) fu 0 = some (.inr ()) := by
        refine loopM_run (S := fun j => (j : Int)) 12 rfl (fun j hj => by rw [hst j hj, if_pos (hall j hj)]) ?_ (by omega)
        unfold label_RightQueue.s0
        simp
      rw [this, decide_eq_true (hQ.2 hall)]
      rfl
    · have : loopM (label_RightQueue.s0 fu q) fu 0 = some (.inl false) := by
        refine loopM_bad (S := fun j => (j : Int)) 12 (fun j => rootOk c q.Roots.l j) rfl ?_ (fun j hj _ hg => by rw [hst j hj, if_pos hg]) (fun j hj _ hg => by rw [hst j hj, if_neg hg]) (by omega)
        apply Classical.byContradiction
        intro hx
        exact hall fun i hi => Classical.byContradiction fun hg => hx ⟨i, hi, hg⟩
      rw [this, decide_eq_false (fun x => hall (hQ.1 x))]
      rfl
  · rw [if_neg hh, decide_eq_false (fun x : QueueOk q => hh ⟨x.1, x.2.1⟩)]
theorem rqueueRight_eq {fu : Nat} (hfu : 400 ≤ fu) {q : S_api_Queue} (hs : q.Name.length ≤ 300) : rickyardref11_Right.f fu q = some (decide (QueueOk q)) := by
  unfold rickyardref11_Right.f
  rw [rqueue_head hfu hs]
  by_cases hh : NameOk q.Name ∧ (0 ≤ q.Count ∧ q.Count ≤ 4095)
  · rw [if_pos hh]
    obtain ⟨c, hc⟩ : ∃ c : Nat, q.Count = (c : Int) := ⟨q.Count.toNat, by omega⟩
    have hst : ∀ j : Nat, j < 12 → rickyardref11_Right.s0 fu q (((c / 2 ^ j : Nat) : Int), (j : Int)) = some (if rootOk c q.Roots.l j then .inr (((c / 2 ^ (j + 1) : Nat) : Int), ((j + 1 : Nat) : Int)) else .inl (.inl false)) := by
      intro j hj
      unfold rickyardref11_Right.s0
      have h1 : (j : Int) < 12 := by omega
      have c1 : 0 ≤ (j : Int) ∧ (j : Int) < 12 := by omega
      have w3 : IntKind.i64.wrap ((j : Int) + 1) = ((j + 1 : Nat) : Int) := by rw [w64 (by omega) (by omega)]; omega
      have hle : c / 2 ^ j ≤ c := Nat.div_le_self _ _
      have hd : c / 2 ^ (j + 1) = c / 2 ^ j / 2 := by rw [Nat.pow_succ, Nat.div_div_eq_div_mul]
      rw [hd]
      obtain ⟨u, hu⟩ : ∃ u, u = c / 2 ^ j := ⟨_, rfl⟩
      rw [← hu] at hle ⊢
      have w4 : IntKind.i64.wrap (Int.tdiv (u : Int) 2) = ((u / 2 : Nat) : Int) := by
        rw [show Int.tdiv (u : Int) 2 = ((u / 2 : Nat) : Int) from rfl, w64 (by omega) (by omega)]
      have hmo : Int.tmod (u : Int) 2 = ((u % 2 : Nat) : Int) := rfl
      simp only [h1, decide_true, if_true, if_pos c1, w3, w4, hmo, rbnum_eq, Option.bind_some, getIx]
      have hm : u % 2 = 0 ∨ u % 2 = 1 := by omega
      rcases hm with e | e
      · have hr : rootOk c q.Roots.l j ↔ ix q.Roots.l (j : Int) = 0 := ⟨fun x => x.1 (by rw [← hu]; exact e), fun z => ⟨fun _ => z, fun e' => by rw [← hu] at e'; omega⟩⟩
        rw [e]
        by_cases z : ix q.Roots.l (j : Int) = 0
        · rw [if_pos (hr.2 z)]
          simp [z]
        · rw [if_neg (fun x => z (hr.1 x))]
          simp [z]
      · have hr : rootOk c q.Roots.l j ↔ numOk (ix q.Roots.l (j : Int)) := ⟨fun x => x.2 (by rw [← hu]; exact e), fun z => ⟨fun e' => by rw [← hu] at e'; omega, fun _ => z⟩⟩
        rw [e]
        by_cases z : numOk (ix q.Roots.l (j : Int))
        · rw [if_pos (hr.2 z)]
          simp [z]
        · rw [if_neg (fun x => z (hr.1 x))]
          simp [z]
    have hQ : QueueOk q ↔ ∀ i, i < 12 → rootOk c q.Roots.l i := by
      unfold QueueOk
      rw [hc, Int.toNat_natCast, ← hc]
      exact ⟨fun x => x.2.2, fun x => ⟨hh.1, hh.2, x⟩⟩
    have h0 : (q.Count, (0 : Int)) = (((c / 2 ^ 0 : Nat) : Int), ((0 : Nat) : Int)) := by rw [hc]; simp
    by_cases hall : ∀ i, i < 12 → rootOk c q.Roots.l i
    · have : loopM (rickyardref11_Right.s0 fu q) fu (q.Count, 0) = some (.inr ()) := by
        refine loopM_run (S := fun j => (((c / 2 ^ j : Nat) : Int), (j : Int))) 12 h0.symm (fun j hj => by rw [hst j hj, if_pos (hall j hj)]) ?_ (by omega)
        unfold rickyardref11_Right.s0
        simp
      rw [this, decide_eq_true (hQ.2 hall)]
      rfl
    · have : loopM (rickyardref11_Right.s0 fu q) fu (q.Count, 0) = some (.inl false) := by
        refine loopM_bad (S := fun j => (((c / 2 ^ j : Nat) : Int), (j : Int))) 12 (fun j => rootOk c q.Roots.l j) h0.symm ?_ (fun j hj _ hg => by rw [hst j hj, if_pos hg]) (fun j hj _ hg => by rw [hst j hj, if_neg hg]) (by omega)
        apply Classical.byContradiction
        intro hx
        exact hall fun i hi => Classical.byContradiction fun hg => hx ⟨i, hi, hg⟩
      rw [this, decide_eq_false (fun x => hall (hQ.1 x))]
      rfl
  · rw [if_neg hh, decide_eq_false (fun x : QueueOk q => hh ⟨x.1, x.2.1⟩)]
theorem octs_bytes (s : List UInt8) : Bytes (s.map ofB) := by
  intro x hx
  obtain ⟨b, _, rfl⟩ := List.mem_map.1 hx
  have := b.toNat_lt
  unfold ofB
  omega
theorem octs_back (s : List UInt8) : (s.map ofB).map toB = s := by
  rw [List.map_map]
  have : ∀ b ∈ s, (toB ∘ ofB) b = b := by
    intro b _
    show UInt8.ofNat (Int.toNat ((b.toNat : Nat) : Int)) = b
    rw [Int.toNat_natCast]
    exact UInt8.ofNat_toNat
  rw [List.map_congr_left this, List.map_id']
def queueE (q : S_api_Queue) : List Int := (lay (u64n q.Count) 4 ++ rowE q.Roots.l 12) ++ q.Name.map ofB
theorem queueE_len (q : S_api_Queue) : (queueE q).length = 28 + q.Name.length := by
  simp [queueE, lay_len, rowE_len]
  omega
theorem queueE_bytes (q : S_api_Queue) : Bytes (queueE q) := ((lay_bytes _ _).app (rowE_bytes _ _)).app (octs_bytes _)
theorem QueueOk.len {q : S_api_Queue} (h : QueueOk q) (hs : q.Name.length ≤ 300) : q.Name.length ≤ 24 := NameOk.len h.1 hs
theorem queuePut_eq {fu : Nat} (hfu : 400 ≤ fu) {q : S_api_Queue} (hs : q.Name.length ≤ 300) : label_PutQueue.f fu q = some (if QueueOk q then (sealed (summed 5 (q.Name.length : Int) (queueE q)), true) else ([], false)) := by
  unfold label_PutQueue.f
  rw [queueRight_eq hfu hs]
  by_cases h : QueueOk q
  · have hl := h.len hs
    have hlay0 : octet_Lay.f fu (IntKind.u64.wrap q.Count) 4 = some (lay (u64n q.Count) 4) := olay64 (n := 4) (by first | decide | omega) (by omega)
    have hloop : loopM (label_PutQueue.s0 fu q) fu (lay (u64n q.Count) 4, 0) = some (lay (u64n q.Count) 4 ++ rowE q.Roots.l 12) := by
      refine loopM_run (S := fun j => (lay (u64n q.Count) 4 ++ rowE q.Roots.l j, (j : Int))) 12 (by simp [rowE]) ?_ ?_ (by omega)
      · intro j hj
        unfold label_PutQueue.s0
        have h1 : (j : Int) < 12 := by omega
        have c1 : 0 ≤ (j : Int) ∧ (j : Int) < 12 := by omega
        have w3 : IntKind.i64.wrap ((j : Int) + 1) = ((j + 1 : Nat) : Int) := by rw [w64 (by omega) (by omega)]; omega
        have hlay : octet_Lay.f fu (IntKind.u64.wrap (ix q.Roots.l (j : Int))) 2 = some (lay (u64n (ix q.Roots.l (j : Int))) 2) := olay64 (n := 2) (by first | decide | omega) (by omega)
        have hlim : (lay (u64n q.Count) 4 ++ rowE q.Roots.l j).length + (lay (u64n (ix q.Roots.l (j : Int))) 2).length ≤ LIM := lim_of' (by rw [List.length_append, rowE_len, lay_len, lay_len]; omega)
        have c0 : 0 ≤ (j : Int) := c1.1
        simp only [h1, c0, and_self, decide_true, if_true, w3, getIx, hlay, Option.bind_some, if_pos hlim]
        rw [rowE, rowE, flat_succ, List.append_assoc]
      · unfold label_PutQueue.s0
        simp
    have hlim : (lay (u64n q.Count) 4 ++ rowE q.Roots.l 12).length + q.Name.length ≤ LIM := lim_of' (by rw [List.length_append, rowE_len, lay_len]; omega)
    have hq := seal_eq (fu := fu) (k := 5) (t := (q.Name.length : Int)) (queueE_bytes q) (by omega) (by omega) (by rw [queueE_len]; omega) (by first | decide | omega)
    unfold queueE at hq
    unfold queueE
    simp only [h, decide_true, Bool.not_true, Bool.false_eq_true, if_false, Option.bind_some, hlay0, hloop, if_pos hlim, hq, if_true]
  · simp [h]
theorem rqueuePut_eq {fu : Nat} (hfu : 400 ≤ fu) {q : S_api_Queue} (hl : q.Name.length ≤ 28) : rickyardref11_Put.f fu q = some ((sealed (summed 5 (q.Name.length : Int) (queueE q))).map toB) := by
  unfold rickyardref11_Put.f
  have hlay0 : rickyardref01_Lay.f fu (IntKind.u64.wrap q.Count) 4 = some ((lay (u64n q.Count) 4).map toB) := rlay64 (n := 4) (by first | decide | omega) (by omega)
  have hloop : loopM (rickyardref11_Put.s0 fu q) fu ((lay (u64n q.Count) 4).map toB, 0) = some ((lay (u64n q.Count) 4 ++ rowE q.Roots.l 12).map toB) := by
    refine loopM_run (S := fun j => ((lay (u64n q.Count) 4 ++ rowE q.Roots.l j).map toB, (j : Int))) 12 (by simp [rowE]) ?_ ?_ (by omega)
    · intro j hj
      unfold rickyardref11_Put.s0
      have h1 : (j : Int) < 12 := by omega
      have c1 : 0 ≤ (j : Int) ∧ (j : Int) < 12 := by omega
      have w3 : IntKind.i64.wrap ((j : Int) + 1) = ((j + 1 : Nat) : Int) := by rw [w64 (by omega) (by omega)]; omega
      have hlay : rickyardref01_Lay.f fu (IntKind.u64.wrap (ix q.Roots.l (j : Int))) 2 = some ((lay (u64n (ix q.Roots.l (j : Int))) 2).map toB) := rlay64 (n := 2) (by first | decide | omega) (by omega)
      have hlim : ((lay (u64n q.Count) 4 ++ rowE q.Roots.l j).map toB).length + ((lay (u64n (ix q.Roots.l (j : Int))) 2).map toB).length ≤ LIM := lim_of' (by rw [List.length_map, List.length_map, List.length_append, rowE_len, lay_len, lay_len]; omega)
      have c0 : 0 ≤ (j : Int) := c1.1
      simp only [h1, c0, and_self, decide_true, if_true, w3, getIx, hlay, Option.bind_some, if_pos hlim]
      rw [← List.map_append, rowE, rowE, flat_succ, List.append_assoc]
    · unfold rickyardref11_Put.s0
      simp
  have hlim : ((lay (u64n q.Count) 4 ++ rowE q.Roots.l 12).map toB).length + q.Name.length ≤ LIM := lim_of' (by rw [List.length_map, List.length_append, rowE_len, lay_len]; omega)
  have hq := rseal_eq (fu := fu) (k := 5) (t := (q.Name.length : Int)) (queueE_bytes q) (by omega) (by omega) (by rw [queueE_len]; omega) (by first | decide | omega)
  have e : (lay (u64n q.Count) 4 ++ rowE q.Roots.l 12).map toB ++ q.Name = (queueE q).map toB := by
    unfold queueE
    rw [List.map_append (l₁ := lay (u64n q.Count) 4 ++ rowE q.Roots.l 12), octs_back]
  simp only [hlay0, Option.bind_some, hloop, if_pos hlim, e, hq]
def rootsOf (body : List Int) : Arr 12 Int := fillA (fun i => intAt body (4 + 2 * i) 2) (Arr.rep 12 (0 : Int)) 12
def queueOf (body : List Int) (t : Nat) : S_api_Queue := ⟨(part body 28 t).map toB, intAt body 0 4, rootsOf body⟩
theorem rootsOf_l (body : List Int) : (rootsOf body).l = (List.range 12).map fun i => intAt body (4 + 2 * i) 2 := fillA_all _ _
theorem queueE_of {body : List Int} (hb : Bytes body) {t : Nat} (h : 28 + t ≤ body.length) : queueE (queueOf body t) = body.take (28 + t) := by
  unfold queueE queueOf
  have e1 : lay (u64n (intAt body 0 4)) 4 = part body 0 4 := lay_part hb (by omega) (by first | decide | omega)
  have e2 : rowE (rootsOf body).l 12 = part body 4 24 := by
    have : part body 4 24 = (List.range 12).flatMap (fieldAt (body.drop 4) 2) := (field_flat (w := 2) 12 (by rw [List.length_drop]; omega)).symm
    rw [this]
    apply flat_congr
    intro i hi
    rw [rootsOf_l, ix_map hi]
    have := lay_part (l := body) (i := 4 + 2 * i) (n := 2) hb (by omega) (by first | decide | omega)
    rw [this]
    unfold part fieldAt
    rw [List.drop_drop]
  have e3 : ((part body 28 t).map toB).map ofB = part body 28 t := of_toB (part_bytes hb 28 t)
  rw [e1, e2, e3]
  unfold part
  rw [List.drop_zero, ← List.take_add, ← List.take_add]
theorem queueOf_E {q : S_api_Queue} (hs : q.Name.length ≤ 300) (h : QueueOk q) (t : List Int) : queueOf (queueE q ++ t) q.Name.length = q := by
  obtain ⟨nm, c, a⟩ := q
  have hc := h.2.1
  have hr := h.2.2
  simp only at hc hr hs ⊢
  unfold queueOf
  have ec : part (queueE ⟨nm, c, a⟩ ++ t) 0 4 = lay (u64n c) 4 := by
    unfold part queueE
    rw [List.drop_zero, List.append_assoc, List.append_assoc]
    exact List.take_left' (lay_len _ _)
  have en : part (queueE ⟨nm, c, a⟩ ++ t) 28 nm.length = nm.map ofB := by
    unfold part queueE
    rw [List.append_assoc, List.drop_left' (by rw [List.length_append, lay_len, rowE_len])]
    exact List.take_left' (by rw [List.length_map])
  have e1 : intAt (queueE ⟨nm, c, a⟩ ++ t) 0 4 = c := by
    unfold intAt
    rw [ec, num_lay, u64n_of (by omega) (by omega), w64 (by omega) (by omega)]
    omega
  have e2 : rootsOf (queueE ⟨nm, c, a⟩ ++ t) = a := by
    have : (rootsOf (queueE ⟨nm, c, a⟩ ++ t)).l = a.l := by
      have hal := a.h
      rw [rootsOf_l]
      apply ix_ext (by simp [hal])
      intro i hi
      rw [List.length_map, List.length_range] at hi
      rw [ix_map hi]
      have hp : part (queueE ⟨nm, c, a⟩ ++ t) (4 + 2 * i) 2 = lay (u64n (ix a.l (i : Int))) 2 := by
        have : part (queueE ⟨nm, c, a⟩ ++ t) (4 + 2 * i) 2 = fieldAt (rowE a.l 12 ++ (nm.map ofB ++ t)) 2 i := by
          unfold part fieldAt queueE
          rw [← List.drop_drop, List.append_assoc, List.append_assoc, List.drop_left' (lay_len _ _)]
        rw [this, rowE, flat_field (fun i => lay_len _ _) hi]
      unfold intAt
      have hri := hr i hi
      have hv : 0 ≤ ix a.l (i : Int) ∧ ix a.l (i : Int) ≤ 3071 := by
        have hm : c.toNat / 2 ^ i % 2 = 0 ∨ c.toNat / 2 ^ i % 2 = 1 := by omega
        rcases hm with e | e
        · rw [hri.1 e]
          omega
        · have := hri.2 e
          unfold numOk at this
          omega
      rw [hp, num_lay, u64n_of (by omega) (by omega), w64 (by omega) (by omega)]
      omega
    cases a
    generalize rootsOf _ = b at *
    cases b
    simp only at this
    subst this
    rfl
  rw [e1, e2, en, octs_back]
def noQ : S_api_Queue := ⟨[], 0, Arr.rep 12 (0 : Int)⟩
def GetQ (b : List Int) : Prop := Is b ∧ ix b 4 = 5 ∧ ix b 5 ≤ 24 ∧ QueueOk (queueOf (b.drop 8) (ix b 5).toNat) ∧ ∀ y ∈ (b.drop 8).drop (28 + (ix b 5).toNat), y = 0
instance (b : List Int) : Decidable (GetQ b) := inferInstanceAs (Decidable (_ ∧ _))
theorem queueGet_eq {fu : Nat} (hfu : 400 ≤ fu) {b : List Int} (hb : Bytes b) (hl : b.length ≤ 9000000000000000000) : label_GetQueue.f fu b = some (if GetQ b then (queueOf (b.drop 8) (ix b 5).toNat, true) else (noQ, false)) := by
  unfold label_GetQueue.f
  rw [open_eq hb hl (by first | decide | omega)]
  by_cases hi : Is b
  · have h8 := is_body hi
    obtain ⟨b4, b5⟩ := is_tag hb hi
    rw [if_pos hi]
    simp only [Option.bind_some, Bool.not_true, Bool.false_eq_true, if_false]
    by_cases h4 : ix b 4 = 5
    · by_cases h5 : ix b 5 ≤ 24
      · have h5' : ¬ ix b 5 > 24 := by omega
        obtain ⟨t, ht⟩ : ∃ t : Nat, ix b 5 = (t : Int) := ⟨(ix b 5).toNat, by omega⟩
        have hbd := hb.drop 8
        obtain ⟨body, hbody⟩ : ∃ body, body = b.drop 8 := ⟨_, rfl⟩
        rw [← hbody] at h8 hbd
        have hloop : loopM (label_GetQueue.s0 fu (ix b 4, ix b 5, body, true)) fu (0, ⟨(part body 28 t).map toB, intAt body 0 4, Arr.rep 12 (0 : Int)⟩) = some (queueOf body t) := by
          refine loopM_run (S := fun j => ((j : Int), (⟨(part body 28 t).map toB, intAt body 0 4, fillA (fun i => intAt body (4 + 2 * i) 2) (Arr.rep 12 (0 : Int)) j⟩ : S_api_Queue))) 12 rfl ?_ ?_ (by omega)
          · intro j hj
            unfold label_GetQueue.s0
            have h1 : (j : Int) < 12 := by omega
            have cj : 0 ≤ (j : Int) ∧ (j : Int) < 12 := by omega
            have w3 : IntKind.i64.wrap ((j : Int) + 1) = ((j + 1 : Nat) : Int) := by rw [w64 (by omega) (by omega)]; omega
            have w4 : IntKind.i64.wrap (4 + IntKind.i64.wrap (2 * (j : Int))) = ((4 + 2 * j : Nat) : Int) := by rw [w64 (n := 2 * (j : Int)) (by omega) (by omega), w64 (by omega) (by omega)]; omega
            have w5 : IntKind.i64.wrap (((4 + 2 * j : Nat) : Int) + 2) = ((4 + 2 * j + 2 : Nat) : Int) := by rw [w64 (by omega) (by omega)]; omega
            have hpl := part_len (l := body) (i := 4 + 2 * j) (n := 2) (by omega)
            have hr : octet_Read.f fu (cut body ((4 + 2 * j : Nat) : Int) ((4 + 2 * j + 2 : Nat) : Int)) = some ((num (part body (4 + 2 * j) 2) : Nat) : Int) := by
              have := read_eq (fu := fu) (part_bytes hbd (4 + 2 * j) 2) (by omega) (by omega)
              rw [cut_eq]
              exact this
            have c1 : (0 : Int) ≤ ((4 + 2 * j : Nat) : Int) ∧ ((4 + 2 * j : Nat) : Int) ≤ ((4 + 2 * j + 2 : Nat) : Int) ∧ ((4 + 2 * j + 2 : Nat) : Int) ≤ (body.length : Int) := by omega
            simp only [h1, decide_true, if_true, w3, w4, w5, if_pos c1, hr, Option.bind_some, if_pos cj]
            rfl
          · unfold label_GetQueue.s0
            simp [queueOf, rootsOf]
        have w1 : IntKind.i64.wrap (28 + (t : Int)) = ((28 + t : Nat) : Int) := by rw [w64 (by omega) (by omega)]; omega
        have w6 : IntKind.i64.wrap (IntKind.i64.wrap ((body.length : Int) - 28) - (t : Int)) = ((56 - (28 + t) : Nat) : Int) := by rw [w64 (n := (body.length : Int) - 28) (by omega) (by omega), w64 (by omega) (by omega)]; omega
        have hn := noughts_eq (fu := fu) (b := body) (i := 28 + t) (n := 56 - (28 + t)) (by omega) (by omega) (by omega)
        have e8 : (body.drop (28 + t)).take (56 - (28 + t)) = body.drop (28 + t) := List.take_of_length_le (by rw [List.length_drop, h8]; omega)
        rw [e8] at hn
        have hr0 : octet_Read.f fu (cut body 0 4) = some ((num (part body 0 4) : Nat) : Int) := by
          have : cut body 0 4 = part body 0 4 := cut_eq body 0 4
          rw [this]
          have hpl := part_len (l := body) (i := 0) (n := 4) (by omega)
          exact read_eq (fu := fu) (part_bytes hbd 0 4) (by omega) (by omega)
        have en : cut body 28 ((28 + t : Nat) : Int) = part body 28 t := cut_eq body 28 t
        have c2 : (0 : Int) ≤ 28 ∧ (28 : Int) ≤ ((28 + t : Nat) : Int) ∧ ((28 + t : Nat) : Int) ≤ (body.length : Int) := by omega
        have c3 : (4 : Int) ≤ (body.length : Int) := by omega
        have hqn : (queueOf body t).Name.length ≤ 300 := by
          show ((part body 28 t).map toB).length ≤ 300
          rw [List.length_map, part_len (by omega)]
          omega
        rw [← hbody]
        have hie : IntKind.i64.wrap ((num (part body 0 4) : Nat) : Int) = intAt body 0 4 := rfl
        simp only [h4, h5', decide_true, decide_false, Bool.not_true, Bool.false_eq_true, if_false] at hloop ⊢
        simp only [ht, w1, w6, hn, Option.bind_some] at hloop ⊢
        have hgi : GetQ b ↔ (QueueOk (queueOf body t) ∧ ∀ y ∈ body.drop (28 + t), y = 0) := by
          unfold GetQ
          rw [ht, ← hbody, Int.toNat_natCast]
          exact ⟨fun x => x.2.2.2, fun x => ⟨hi, h4, by omega, x⟩⟩
        rw [Int.toNat_natCast]
        by_cases hz : ∀ y ∈ body.drop (28 + t), y = 0
        · rw [decide_eq_true hz]
          simp only [Bool.not_true, Bool.false_eq_true, if_false]
          rw [if_pos c2, if_pos c3, hr0, Option.bind_some, en, hie, hloop, Option.bind_some, queueRight_eq hfu hqn]
          by_cases hr : QueueOk (queueOf body t)
          · rw [if_pos (hgi.2 ⟨hr, hz⟩), decide_eq_true hr]
            rfl
          · rw [if_neg (fun x => hr (hgi.1 x).1), decide_eq_false hr]
            rfl
        · rw [decide_eq_false hz, if_neg (fun x => hz (hgi.1 x).2)]
          rfl
      · have h5' : ix b 5 > 24 := by omega
        have hg : ¬ GetQ b := fun x => h5 x.2.2.1
        rw [if_neg hg, decide_eq_true h4, decide_eq_true h5']
        rfl
    · have hg : ¬ GetQ b := fun x => h4 x.2.1
      rw [if_neg hg, decide_eq_false h4]
      rfl
  · have hg : ¬ GetQ b := fun x => hi x.1
    rw [if_neg hi, if_neg hg]
    rfl
theorem rqueueGet_eq {fu : Nat} (hfu : 400 ≤ fu) {b : List Int} (hb : Bytes b) : rickyardref11_Get.f fu b = some (if GetQ b then (queueOf (b.drop 8) (ix b 5).toNat, true) else (noQ, false)) := by
  unfold rickyardref11_Get.f
  rw [ropen_eq hb (by first | decide | omega)]
  by_cases hi : Is b
  · have h8 := is_body hi
    obtain ⟨b4, b5⟩ := is_tag hb hi
    rw [if_pos hi]
    simp only [Option.bind_some, Bool.not_true, Bool.false_eq_true, if_false]
    by_cases h4 : ix b 4 = 5
    · by_cases h5 : ix b 5 ≤ 28
      · have h5' : ¬ ix b 5 > 28 := by omega
        obtain ⟨t, ht⟩ : ∃ t : Nat, ix b 5 = (t : Int) := ⟨(ix b 5).toNat, by omega⟩
        have hbd := hb.drop 8
        obtain ⟨body, hbody⟩ : ∃ body, body = b.drop 8 := ⟨_, rfl⟩
        have hq0 : ∀ {k tg : Int} {bd : List Int}, (0 ≤ k ∧ k ≤ 255) → (0 ≤ tg ∧ tg ≤ 255) → Bytes bd → bd.length ≤ 56 → ((sealed (summed k tg bd)).map toB = b.map toB ↔ k = ix b 4 ∧ tg = ix b 5 ∧ bd ++ List.replicate (56 - bd.length) 0 = b.drop 8) := fun h1 h2 h3 h4 => sealed_map_iff hb hi h1 h2 h3 h4
        rw [← hbody] at h8 hbd
        have hloop : loopM (rickyardref11_Get.s0 fu (ix b 4, ix b 5, body.map toB, true)) fu (0, ⟨(part body 28 t).map toB, intAt body 0 4, Arr.rep 12 (0 : Int)⟩) = some (queueOf body t) := by
          refine loopM_run (S := fun j => ((j : Int), (⟨(part body 28 t).map toB, intAt body 0 4, fillA (fun i => intAt body (4 + 2 * i) 2) (Arr.rep 12 (0 : Int)) j⟩ : S_api_Queue))) 12 rfl ?_ ?_ (by omega)
          · intro j hj
            unfold rickyardref11_Get.s0
            have h1 : (j : Int) < 12 := by omega
            have cj : 0 ≤ (j : Int) ∧ (j : Int) < 12 := by omega
            have w3 : IntKind.i64.wrap ((j : Int) + 1) = ((j + 1 : Nat) : Int) := by rw [w64 (by omega) (by omega)]; omega
            have w4 : IntKind.i64.wrap (4 + IntKind.i64.wrap (2 * (j : Int))) = ((4 + 2 * j : Nat) : Int) := by rw [w64 (n := 2 * (j : Int)) (by omega) (by omega), w64 (by omega) (by omega)]; omega
            have w5 : IntKind.i64.wrap (6 + IntKind.i64.wrap (2 * (j : Int))) = ((4 + 2 * j + 2 : Nat) : Int) := by rw [w64 (n := 2 * (j : Int)) (by omega) (by omega), w64 (by omega) (by omega)]; omega
            have hr := rintAt_eq (fu := fu) (b := body) (i := 4 + 2 * j) (n := 2) hbd (by omega) (by first | decide | omega) (by first | decide | omega)
            have c1 : (0 : Int) ≤ ((4 + 2 * j : Nat) : Int) ∧ ((4 + 2 * j : Nat) : Int) ≤ ((4 + 2 * j + 2 : Nat) : Int) ∧ ((4 + 2 * j + 2 : Nat) : Int) ≤ ((body.map toB).length : Int) := by rw [List.length_map]; omega
            simp only [h1, decide_true, if_true, w3, w4, w5, if_pos c1, hr, Option.bind_some, if_pos cj]
            rfl
          · unfold rickyardref11_Get.s0
            simp [queueOf, rootsOf]
        have w1 : IntKind.i64.wrap (28 + (t : Int)) = ((28 + t : Nat) : Int) := by rw [w64 (by omega) (by omega)]; omega
        have hr0 : rickyardref01_Int.f fu (cut (body.map toB) 0 4) = some (intAt body 0 4) := rintAt_eq (fu := fu) (b := body) (i := 0) (n := 4) hbd (by omega) (by first | decide | omega) (by first | decide | omega)
        have en : cut (body.map toB) 28 ((28 + t : Nat) : Int) = (part body 28 t).map toB := by
          unfold cut part
          rw [Int.toNat_natCast, show (28 : Int).toNat = 28 from rfl, ← List.map_take, ← List.map_drop, List.drop_take, Nat.add_sub_cancel_left]
        have c2 : (0 : Int) ≤ 28 ∧ (28 : Int) ≤ ((28 + t : Nat) : Int) ∧ ((28 + t : Nat) : Int) ≤ ((body.map toB).length : Int) := by rw [List.length_map]; omega
        have c3 : (4 : Int) ≤ ((body.map toB).length : Int) := by rw [List.length_map]; omega
        have hqn : (queueOf body t).Name.length = t := by
          show ((part body 28 t).map toB).length = t
          rw [List.length_map, part_len (by omega)]
        rw [← hbody]
        simp only [h4, h5', decide_true, decide_false, Bool.not_true, Bool.false_eq_true, if_false] at hloop ⊢
        simp only [ht, w1, Option.bind_some] at hloop ⊢
        rw [if_pos c3, hr0, Option.bind_some, if_pos c2, en, hloop, Option.bind_some, rqueueRight_eq hfu (by omega)]
        rw [Int.toNat_natCast]
        by_cases hr : QueueOk (queueOf body t)
        · have h24 := hr.len (by omega)
          have hgi : GetQ b ↔ ∀ y ∈ body.drop (28 + t), y = 0 := by
            unfold GetQ
            rw [ht, ← hbody, Int.toNat_natCast]
            exact ⟨fun x => x.2.2.2.2, fun x => ⟨hi, h4, by omega, hr, x⟩⟩
          have hq := hq0 (k := 5) (tg := (t : Int)) (bd := queueE (queueOf body t)) (by omega) (by omega) (queueE_bytes _) (by rw [queueE_len]; omega)
          have hfl := full_iff (body := queueE (queueOf body t)) (full := body) (by rw [queueE_len]; omega) h8
          rw [← hbody] at hq
          rw [queueE_len, hqn, queueE_of hbd (show 28 + t ≤ body.length by omega)] at hfl
          rw [queueE_len, hqn, queueE_of hbd (show 28 + t ≤ body.length by omega)] at hq
          rw [decide_eq_true hr, rqueuePut_eq hfu (by omega), hqn, queueE_of hbd (show 28 + t ≤ body.length by omega)]
          by_cases hz : ∀ y ∈ body.drop (28 + t), y = 0
          · rw [if_pos (hgi.2 hz)]
            simp only [Option.bind_some]
            rw [decide_eq_true (hq.2 ⟨h4.symm, ht.symm, hfl.2 ⟨rfl, hz⟩⟩)]
            rfl
          · rw [if_neg (fun x => hz (hgi.1 x))]
            simp only [Option.bind_some]
            rw [decide_eq_false (fun x => hz (hfl.1 (hq.1 x).2.2).2)]
            rfl
        · have hg : ¬ GetQ b := fun x => by
            have := x.2.2.2.1
            rw [ht, ← hbody, Int.toNat_natCast] at this
            exact hr this
          rw [decide_eq_false hr, if_neg hg]
          rfl
      · have h5' : ix b 5 > 28 := by omega
        have hg : ¬ GetQ b := fun x => by have := x.2.2.1; omega
        rw [if_neg hg, decide_eq_true h4, decide_eq_true h5']
        rfl
    · have hg : ¬ GetQ b := fun x => h4 x.2.1
      rw [if_neg hg, decide_eq_false h4]
      rfl
  · have hg : ¬ GetQ b := fun x => hi x.1
    rw [if_neg hi, if_neg hg]
    rfl
theorem queueGet_put {fu : Nat} (hfu : 400 ≤ fu) {q : S_api_Queue} (hs : q.Name.length ≤ 300) (h : QueueOk q) : label_GetQueue.f fu (sealed (summed 5 (q.Name.length : Int) (queueE q))) = some (q, true) ∧ (sealed (summed 5 (q.Name.length : Int) (queueE q))).length = 64 := by
  have hl := h.len hs
  have hel := queueE_len q
  obtain ⟨p4, p5, p8⟩ := sealed_parts 5 (q.Name.length : Int) (queueE q)
  have hsl := sealed_len (summed_len (k := 5) (t := (q.Name.length : Int)) (body := queueE q) (by omega))
  have hno := queueOf_E hs h (List.replicate (56 - (queueE q).length) 0)
  have hg : GetQ (sealed (summed 5 (q.Name.length : Int) (queueE q))) := by
    refine ⟨is_sealed (by first | decide | omega) (by omega), p4, by rw [p5]; omega, ?_, ?_⟩
    · rw [p8, p5, Int.toNat_natCast, hno]
      exact h
    · rw [p8, p5, Int.toNat_natCast, ← hel, List.drop_left' rfl]
      intro y hy
      exact List.eq_of_mem_replicate hy
  rw [queueGet_eq hfu (sealed_bytes (summed_bytes (by omega) (by omega) (queueE_bytes q))) (by omega), if_pos hg, p8, p5, Int.toNat_natCast, hno]
  exact ⟨rfl, hsl⟩
def cmpL : List Int → List Int → Int
  | [], [] => 0
  | [], _ :: _ => -1
  | _ :: _, [] => 1
  | a :: l, b :: m => if a < b then -1 else if b < a then 1 else cmpL l m
theorem cmpL_self : ∀ l, cmpL l l = 0
  | [] => rfl
  | a :: l => by unfold cmpL; rw [if_neg (by omega), if_neg (by omega)]; exact cmpL_self l
theorem cmpL_zero : ∀ {l m}, cmpL l m = 0 → l = m
  | [], [], _ => rfl
  | [], _ :: _, h => by simp [cmpL] at h
  | _ :: _, [], h => by simp [cmpL] at h
  | a :: l, b :: m, h => by
    unfold cmpL at h
    split at h
    · simp at h
    · split at h
      · simp at h
      · rw [cmpL_zero h, show a = b by omega]
theorem cmpL_swap : ∀ l m, cmpL m l = - cmpL l m
  | [], [] => rfl
  | [], _ :: _ => rfl
  | _ :: _, [] => rfl
  | a :: l, b :: m => by
    unfold cmpL
    by_cases h1 : a < b
    · rw [if_pos h1, if_neg (by omega), if_pos h1]
      rfl
    · by_cases h2 : b < a
      · rw [if_pos h2, if_neg h1, if_pos h2]
      · rw [if_neg h2, if_neg h1, if_neg h1, if_neg h2]
        exact cmpL_swap l m
theorem cmpL_trans : ∀ {l m k}, cmpL l m < 0 → cmpL m k < 0 → cmpL l k < 0
  | [], [], _, h, _ => by simp [cmpL] at h
  | [], _ :: _, [], _, h => by simp [cmpL] at h
  | [], _ :: _, _ :: _, _, _ => by simp [cmpL]
  | _ :: _, [], _, h, _ => by simp [cmpL] at h
  | _ :: _, _ :: _, [], _, h => by simp [cmpL] at h
  | a :: l, b :: m, c :: k, h, h' => by
    unfold cmpL at h h' ⊢
    by_cases h1 : a < b
    · by_cases h2 : c < b
      · rw [if_neg (by omega), if_pos h2] at h'
        exact absurd h' (by decide)
      · rw [if_pos (by omega)]
        decide
    · rw [if_neg h1] at h
      by_cases h2 : b < a
      · rw [if_pos h2] at h
        exact absurd h (by decide)
      · rw [if_neg h2] at h
        by_cases h3 : b < c
        · rw [if_pos (by omega)]
          decide
        · rw [if_neg h3] at h'
          by_cases h4 : c < b
          · rw [if_pos h4] at h'
            exact absurd h' (by decide)
          · rw [if_neg h4] at h'
            rw [if_neg (by omega), if_neg (by omega)]
            exact cmpL_trans h h'
theorem cmpC_eq (fu : Nat) (a b : Int) : cmp_Compare.f fu a b = some (if a < b then -1 else if b < a then 1 else 0) := by
  unfold cmp_Compare.f cmp_isNaN.f
  simp only [Option.bind_some, decide_eq_true_eq, Bool.not_eq_true', decide_eq_false_iff_not]
  by_cases h1 : a < b
  · simp [h1]
  · by_cases h2 : b < a
    · simp [h1, h2]
    · simp [h1, h2]
theorem scmp_from {fu : Nat} {l m : List Int} (hl : l.length ≤ 900) (hm : m.length ≤ 900) : ∀ (k i : Nat), i ≤ l.length → i ≤ m.length → l.length - i < k →
    (loopM (slices_Compare.s0 fu l m) k (i : Int)).bind (fun e2 => match e2 with | Sum.inl p => some p | Sum.inr x4 => (if (decide ((List.length l : Int) < (List.length m : Int))) = true then some ((-1)) else some (0))) = some (cmpL (l.drop i) (m.drop i))
  | 0, i, _, _, h => by omega
  | k + 1, i, h1, h2, h3 => by
    have hu : loopM (slices_Compare.s0 fu l m) (k + 1) (i : Int) = (match slices_Compare.s0 fu l m (i : Int) with | none => none | some (.inl e) => some e | some (.inr s') => loopM (slices_Compare.s0 fu l m) k s') := by
      conv => lhs; unfold loopM
      generalize slices_Compare.s0 fu l m (i : Int) = q
      rcases q with _ | _ | _ <;> rfl
    rw [hu]
    by_cases e1 : i < l.length
    · have c0 : (i : Int) < (l.length : Int) := by omega
      have c1 : 0 ≤ (i : Int) ∧ (i : Int) < (l.length : Int) := by omega
      rw [List.drop_eq_getElem_cons e1]
      by_cases e2 : i < m.length
      · have c2 : ¬ ((i : Int) ≥ (m.length : Int)) := by omega
        have c3 : 0 ≤ (i : Int) ∧ (i : Int) < (m.length : Int) := by omega
        have w3 : IntKind.i64.wrap ((i : Int) + 1) = ((i + 1 : Nat) : Int) := by rw [w64 (by omega) (by omega)]; omega
        have hst : slices_Compare.s0 fu l m (i : Int) = if l[i] < m[i] then some (.inl (.inl (-1))) else if m[i] < l[i] then some (.inl (.inl 1)) else some (.inr ((i + 1 : Nat) : Int)) := by
          unfold slices_Compare.s0
          rw [decide_eq_true c0, if_pos rfl, if_pos c1, decide_eq_false c2, if_neg (by decide), if_pos c3, cmpC_eq, Option.bind_some, ix_nat e1, ix_nat e2, w3]
          by_cases q1 : l[i] < m[i]
          · rw [if_pos q1, if_pos q1]
            rfl
          · rw [if_neg q1, if_neg q1]
            by_cases q2 : m[i] < l[i]
            · rw [if_pos q2, if_pos q2]
              rfl
            · rw [if_neg q2, if_neg q2]
              rfl
        rw [hst, List.drop_eq_getElem_cons e2]
        conv => rhs; unfold cmpL
        by_cases q1 : l[i] < m[i]
        · rw [if_pos q1, if_pos q1]
          rfl
        · rw [if_neg q1, if_neg q1]
          by_cases q2 : m[i] < l[i]
          · rw [if_pos q2, if_pos q2]
            rfl
          · rw [if_neg q2, if_neg q2]
            exact scmp_from hl hm k (i + 1) (by omega) (by omega) (by omega)
      · have c2 : (i : Int) ≥ (m.length : Int) := by omega
        have hst : slices_Compare.s0 fu l m (i : Int) = some (.inl (.inl 1)) := by
          unfold slices_Compare.s0
          rw [decide_eq_true c0, if_pos rfl, if_pos c1, decide_eq_true c2, if_pos rfl]
        rw [hst, List.drop_of_length_le (show m.length ≤ i by omega)]
        rfl
    · have c0 : ¬ ((i : Int) < (l.length : Int)) := by omega
      have hst : slices_Compare.s0 fu l m (i : Int) = some (.inl (.inr ())) := by
        unfold slices_Compare.s0
        rw [decide_eq_false c0, if_neg (by decide)]
      rw [hst, List.drop_of_length_le (show l.length ≤ i by omega)]
      simp only [Option.bind_some]
      by_cases e2 : i < m.length
      · rw [decide_eq_true (show (l.length : Int) < (m.length : Int) by omega), if_pos rfl, List.drop_eq_getElem_cons e2]
        rfl
      · rw [decide_eq_false (show ¬ (l.length : Int) < (m.length : Int) by omega), if_neg (by decide), List.drop_of_length_le (show m.length ≤ i by omega)]
        rfl
theorem runes_from {fu : Nat} {s : List UInt8} : ∀ (k i : Nat) (out : List Int), i ≤ s.length → (s.drop i).length ≤ k → out.length + (s.drop i).length ≤ 900 → ∃ i' : Int, loopM (name_Runes.s0 fu s) (k + 1) (out, (i : Int)) = some (out ++ rs k (s.drop i), i')
  | 0, i, out, hi, hk, _ => by
    have hil : i = s.length := by rw [List.length_drop] at hk; omega
    subst hil
    refine ⟨(s.length : Int), ?_⟩
    simp [loopM, name_Runes.s0, rs]
  | k + 1, i, out, hi, hk, ho => by
    by_cases hil : i = s.length
    · subst hil
      refine ⟨(s.length : Int), ?_⟩
      simp [loopM, name_Runes.s0, rs]
    · have hlt : i < s.length := by omega
      have hm : s.drop i ≠ [] := fun e => by
        have := congrArg List.length e
        rw [List.length_drop] at this
        simp at this
        omega
      have hp := List.length_pos_iff.2 hm
      obtain ⟨h1, h2⟩ := first_wide hp
      rw [List.length_drop] at h2 hk ho
      obtain ⟨e1, e2⟩ := rune_first s i
      have hrs : rs (k + 1) (s.drop i) = ((first (s.drop i)).1 : Int) :: rs k (s.drop (i + (first (s.drop i)).2)) := by
        conv => lhs; unfold rs
        rw [if_neg hm, List.drop_drop]
      have c0 : (i : Int) < (s.length : Int) := by omega
      have hlim : out.length + ([((first (s.drop i)).1 : Int)] : List Int).length ≤ LIM := lim_of' (by simp; omega)
      have hst : name_Runes.s0 fu s (out, (i : Int)) = some (.inr (out ++ [((first (s.drop i)).1 : Int)], ((i + (first (s.drop i)).2 : Nat) : Int))) := by
        unfold name_Runes.s0
        have e3 : (i : Int) + ((first (s.drop i)).2 : Int) = ((i + (first (s.drop i)).2 : Nat) : Int) := by omega
        simp only [c0, decide_true, if_true, e1, e2, e3, if_pos hlim]
      have hu : loopM (name_Runes.s0 fu s) (k + 1 + 1) (out, (i : Int)) = loopM (name_Runes.s0 fu s) (k + 1) (out ++ [((first (s.drop i)).1 : Int)], ((i + (first (s.drop i)).2 : Nat) : Int)) := by
        conv => lhs; unfold loopM
        rw [hst]
      obtain ⟨i', ih⟩ := runes_from (fu := fu) (s := s) k (i + (first (s.drop i)).2) (out ++ [((first (s.drop i)).1 : Int)]) (by omega) (by rw [List.length_drop]; omega) (by rw [List.length_append, List.length_drop]; simp; omega)
      refine ⟨i', ?_⟩
      rw [hu, ih, hrs]
      simp
def rn (s : List UInt8) : List Int := rs 399 s
theorem rn_len {s : List UInt8} (h : s.length ≤ 300) : (rn s).length ≤ 300 := Nat.le_trans (rs_len _ _) h
theorem runes_eq {fu : Nat} (hfu : 400 ≤ fu) {s : List UInt8} (hs : s.length ≤ 300) : name_Runes.f fu s = some (rn s) := by
  unfold name_Runes.f
  obtain ⟨k, hk⟩ : ∃ k, fu = k + 1 := ⟨fu - 1, by omega⟩
  obtain ⟨i', h⟩ := runes_from (fu := fu) (s := s) k 0 [] (by omega) (by rw [List.drop_zero]; omega) (by rw [List.drop_zero]; simp; omega)
  rw [List.drop_zero, rs_stable k 399 s (by omega) (by omega)] at h
  have h' : loopM (name_Runes.s0 fu s) fu (([] : List Int), 0) = some ([] ++ rs 399 s, i') := by
    conv => lhs; arg 2; rw [hk]
    exact h
  rw [h']
  rfl
theorem compare_eq {fu : Nat} (hfu : 1000 ≤ fu) {s t : List UInt8} (hs : s.length ≤ 300) (ht : t.length ≤ 300) : name_Compare.f fu s t = some (cmpL (rn s) (rn t)) := by
  unfold name_Compare.f
  have h1 := rn_len hs
  have h2 := rn_len ht
  rw [runes_eq (by omega) hs, Option.bind_some, runes_eq (by omega) ht, Option.bind_some]
  unfold slices_Compare.f
  have := scmp_from (fu := fu) (l := rn s) (m := rn t) (by omega) (by omega) fu 0 (by omega) (by omega) (by omega)
  rw [List.drop_zero, List.drop_zero] at this
  have e : ((0 : Nat) : Int) = 0 := rfl
  rw [e] at this
  exact congrArg (fun o => Option.bind o fun t5 => some t5) this
def u8 (n : Nat) : UInt8 := UInt8.ofNat n
def enc (r : Nat) : List UInt8 := if r < 128 then [u8 r] else if r < 2048 then [u8 (192 + r / 64), u8 (128 + r % 64)] else [u8 (224 + r / 4096), u8 (128 + r / 64 % 64), u8 (128 + r % 64)]
theorem oct_get {m : List UInt8} {k : Nat} (h : k < m.length) : m[k] = u8 (oct m k) := by
  unfold oct u8
  rw [List.getD_eq_getElem?_getD, List.getElem?_eq_getElem h, Option.getD_some, UInt8.ofNat_toNat]
theorem enc_first {m : List UInt8} (hm : 0 < m.length) (h : runeOk ((first m).1 : Int)) : m = enc (first m).1 ++ m.drop (first m).2 := by
  have h0 := oct_get (m := m) (k := 0)
  have h1 := oct_get (m := m) (k := 1)
  have h2 := oct_get (m := m) (k := 2)
  have b0 := oct_lt m 0
  have b1 := oct_lt m 1
  have b2 := oct_lt m 2
  have b3 := oct_lt m 3
  have d1 : m = m[0] :: m.drop 1 := by
    conv => lhs; rw [← List.drop_zero (l := m), List.drop_eq_getElem_cons hm]
  unfold first at h ⊢
  generalize oct m 0 = c0 at *
  generalize oct m 1 = c1 at *
  generalize oct m 2 = c2 at *
  generalize oct m 3 = c3 at *
  unfold runeOk at h
  unfold fst4 at h ⊢
  by_cases q0 : c0 < 128
  · rw [if_pos q0] at h ⊢
    unfold enc
    rw [if_pos q0]
    rw [h0 hm] at d1
    exact d1
  · rw [if_neg q0] at h ⊢
    by_cases q2 : (194 ≤ c0 ∧ c0 ≤ 223) ∧ (1 < m.length ∧ 128 ≤ c1 ∧ c1 ≤ 191)
    · rw [if_pos q2] at h ⊢
      obtain ⟨⟨a1, a2⟩, hl, a3, a4⟩ := q2
      have d2 : m.drop 1 = m[1] :: m.drop 2 := List.drop_eq_getElem_cons hl
      rw [d2, h0 hm, h1 hl] at d1
      have e : enc ((c0 - 192) * 64 + (c1 - 128)) = [u8 c0, u8 c1] := by
        unfold enc
        rw [if_neg (by omega), if_pos (by omega), show 192 + ((c0 - 192) * 64 + (c1 - 128)) / 64 = c0 by omega, show 128 + ((c0 - 192) * 64 + (c1 - 128)) % 64 = c1 by omega]
      simp only
      rw [e]
      exact d1
    · rw [if_neg q2] at h ⊢
      by_cases q3 : (224 ≤ c0 ∧ c0 ≤ 239) ∧ (1 < m.length ∧ (if c0 = 224 then 160 else 128) ≤ c1 ∧ c1 ≤ (if c0 = 237 then 159 else 191)) ∧ (2 < m.length ∧ 128 ≤ c2 ∧ c2 ≤ 191)
      · rw [if_pos q3] at h ⊢
        obtain ⟨⟨a1, a2⟩, ⟨hl, a3, a4⟩, hl2, a5, a6⟩ := q3
        have d2 : m.drop 1 = m[1] :: m.drop 2 := List.drop_eq_getElem_cons hl
        have d3 : m.drop 2 = m[2] :: m.drop 3 := List.drop_eq_getElem_cons hl2
        rw [d2, d3, h0 hm, h1 hl, h2 hl2] at d1
        have x1 : 128 ≤ c1 := by split at a3 <;> omega
        have x2 : c1 ≤ 191 := by split at a4 <;> omega
        have x3 : c0 = 224 → 160 ≤ c1 := fun e => by rw [if_pos e] at a3; exact a3
        have e : enc ((c0 - 224) * 4096 + (c1 - 128) * 64 + (c2 - 128)) = [u8 c0, u8 c1, u8 c2] := by
          unfold enc
          rw [if_neg (by omega), if_neg (by omega), show 224 + ((c0 - 224) * 4096 + (c1 - 128) * 64 + (c2 - 128)) / 4096 = c0 by omega, show 128 + ((c0 - 224) * 4096 + (c1 - 128) * 64 + (c2 - 128)) / 64 % 64 = c1 by omega, show 128 + ((c0 - 224) * 4096 + (c1 - 128) * 64 + (c2 - 128)) % 64 = c2 by omega]
        simp only
        rw [e]
        exact d1
      · rw [if_neg q3] at h ⊢
        by_cases q4 : (240 ≤ c0 ∧ c0 ≤ 244) ∧ (1 < m.length ∧ (if c0 = 240 then 144 else 128) ≤ c1 ∧ c1 ≤ (if c0 = 244 then 143 else 191)) ∧ (2 < m.length ∧ 128 ≤ c2 ∧ c2 ≤ 191) ∧ (3 < m.length ∧ 128 ≤ c3 ∧ c3 ≤ 191)
        · rw [if_pos q4] at h
          obtain ⟨⟨a1, a2⟩, ⟨hl, a3, a4⟩, ⟨_, a5, a6⟩, _, a7, a8⟩ := q4
          have x1 : 128 ≤ c1 := by split at a3 <;> omega
          have x3 : c0 = 240 → 144 ≤ c1 := fun e => by rw [if_pos e] at a3; exact a3
          simp only at h
          omega
        · rw [if_neg q4] at h
          simp only at h
          omega
theorem rs_enc : ∀ (k : Nat) (m : List UInt8), m.length ≤ k → (∀ r ∈ rs k m, runeOk r) → m = (rs k m).flatMap fun r => enc r.toNat
  | 0, m, hk, _ => by
    obtain rfl : m = [] := List.eq_nil_of_length_eq_zero (by omega)
    rfl
  | k + 1, m, hk, h => by
    unfold rs at h ⊢
    by_cases hm : m = []
    · subst hm
      rfl
    · rw [if_neg hm] at h ⊢
      have hp := List.length_pos_iff.2 hm
      have hw := first_wide hp
      have ih := rs_enc k (m.drop (first m).2) (by rw [List.length_drop]; omega) fun r hr => h r (List.mem_cons_of_mem _ hr)
      rw [List.flatMap_cons, ← ih, Int.toNat_natCast]
      exact enc_first hp (h _ List.mem_cons_self)
theorem name_enc {s : List UInt8} (hs : s.length ≤ 300) (h : NameOk s) : s = (rn s).flatMap fun r => enc r.toNat := rs_enc 399 s (by omega) h.2
theorem name_same {s t : List UInt8} (hs : s.length ≤ 300) (ht : t.length ≤ 300) (h : NameOk s) (e : rn s = rn t) : s = t := by
  have h' : NameOk t := by
    unfold NameOk at h ⊢
    have e' : rs 399 s = rs 399 t := e
    rw [← e']
    exact h
  rw [name_enc hs h, name_enc ht h', e]
def wdR (g : Nat → Bool) : Nat → Nat
  | 0 => 0
  | k + 1 => 2 ^ k * (if g k = true then 1 else 0) + wdR g k
theorem wdR_lt (g : Nat → Bool) : ∀ n, wdR g n < 2 ^ n
  | 0 => by simp [wdR]
  | n + 1 => by
    have := wdR_lt g n
    unfold wdR
    rw [Nat.pow_succ]
    split <;> omega
theorem wdR_bit (g : Nat → Bool) (k : Nat) : ∀ n, (wdR g n).testBit k = (decide (k < n) && g k)
  | 0 => by simp [wdR]
  | n + 1 => by
    unfold wdR
    rw [Nat.testBit_two_pow_mul_add _ (wdR_lt g n)]
    by_cases h : k < n
    · rw [if_pos h, wdR_bit g k n]
      simp [h, show k < n + 1 by omega]
    · rw [if_neg h]
      by_cases e : k = n
      · subst e
        cases hg : g k <;> simp [hg]
      · have e2 : ¬ k < n + 1 := by omega
        obtain ⟨m, hm⟩ : ∃ m, k - n = m + 1 := ⟨k - n - 1, by omega⟩
        rw [hm]
        simp only [e2, decide_false, Bool.false_and]
        split <;> simp [Nat.testBit_succ]
theorem wd_ex (g : Nat → Bool) (n : Nat) : ∃ x, x < 2 ^ n ∧ ∀ k, x.testBit k = (decide (k < n) && g k) := ⟨wdR g n, wdR_lt g n, fun k => wdR_bit g k n⟩
noncomputable def wdN (g : Nat → Bool) (n : Nat) : Nat := Classical.choose (wd_ex g n)
theorem wdN_lt (g : Nat → Bool) (n : Nat) : wdN g n < 2 ^ n := (Classical.choose_spec (wd_ex g n)).1
theorem wdN_bit (g : Nat → Bool) (k n : Nat) : (wdN g n).testBit k = (decide (k < n) && g k) := (Classical.choose_spec (wd_ex g n)).2 k
theorem wdN_congr {f g : Nat → Bool} {n : Nat} (h : ∀ k, k < n → f k = g k) : wdN f n = wdN g n := by
  apply Nat.eq_of_testBit_eq
  intro i
  rw [wdN_bit, wdN_bit]
  by_cases e : i < n
  · rw [h i e]
  · simp [e]
theorem p64 : (2 : Nat) ^ 64 = 18446744073709551616 := by decide
theorem wrap_nat {x : Nat} (h : x < 2 ^ 64) : IntKind.u64.wrap (x : Int) = (x : Int) := by
  rw [p64] at h
  exact wu64 (by omega) (by omega)
theorem ofInt_nat (x : Nat) : BitVec.ofInt 64 (x : Int) = BitVec.ofNat 64 x := by rw [BitVec.ofInt_natCast]
theorem and64 {x y : Nat} (hx : x < 2 ^ 64) (hy : y < 2 ^ 64) : bAnd .u64 (x : Int) (y : Int) = ((x &&& y : Nat) : Int) := by
  unfold bAnd
  show IntKind.u64.wrap (((BitVec.ofInt 64 (x : Int) &&& BitVec.ofInt 64 (y : Int)).toNat : Nat) : Int) = _
  rw [ofInt_nat, ofInt_nat, BitVec.toNat_and, BitVec.toNat_ofNat, BitVec.toNat_ofNat, Nat.mod_eq_of_lt hx, Nat.mod_eq_of_lt hy]
  exact wrap_nat (Nat.lt_of_le_of_lt Nat.and_le_left hx)
theorem or64 {x y : Nat} (hx : x < 2 ^ 64) (hy : y < 2 ^ 64) : bOr .u64 (x : Int) (y : Int) = ((x ||| y : Nat) : Int) := by
  unfold bOr
  show IntKind.u64.wrap (((BitVec.ofInt 64 (x : Int) ||| BitVec.ofInt 64 (y : Int)).toNat : Nat) : Int) = _
  rw [ofInt_nat, ofInt_nat, BitVec.toNat_or, BitVec.toNat_ofNat, BitVec.toNat_ofNat, Nat.mod_eq_of_lt hx, Nat.mod_eq_of_lt hy]
  exact wrap_nat (Nat.or_lt_two_pow hx hy)
theorem not64 {x y : Nat} (hx : x < 2 ^ 64) (hy : y < 2 ^ 64) : bNot .u64 (x : Int) (y : Int) = ((wdN (fun k => x.testBit k && !y.testBit k) 64 : Nat) : Int) := by
  unfold bNot
  show IntKind.u64.wrap (((BitVec.ofInt 64 (x : Int) &&& ~~~ BitVec.ofInt 64 (y : Int)).toNat : Nat) : Int) = _
  rw [wrap_nat (BitVec.isLt _), ofInt_nat, ofInt_nat]
  refine congrArg (fun n : Nat => (n : Int)) ?_
  apply Nat.eq_of_testBit_eq
  intro i
  rw [wdN_bit, BitVec.testBit_toNat, BitVec.getLsbD_and, BitVec.getLsbD_not, BitVec.getLsbD_ofNat, BitVec.getLsbD_ofNat]
  by_cases h : i < 64 <;> simp [h]
theorem shr64n {x k : Nat} (hk : k ≤ 64) : shR .u64 (x : Int) (k : Int) = ((x / 2 ^ k : Nat) : Int) := by
  unfold shR
  show Int.fdiv (x : Int) (2 ^ min ((k : Int).toNat) 64) = _
  rw [Int.toNat_natCast, Nat.min_eq_left hk, Int.fdiv_eq_ediv_of_nonneg _ (Int.le_of_lt (Int.pow_pos (by decide)))]
  simp
theorem shl64 {k : Nat} (hk : k < 64) : shL .u64 1 (k : Int) = ((2 ^ k : Nat) : Int) := by
  unfold shL
  show IntKind.u64.wrap (1 * 2 ^ min ((k : Int).toNat) 64) = _
  rw [Int.toNat_natCast, Nat.min_eq_left (Nat.le_of_lt hk), Int.one_mul]
  have : ((2 : Int) ^ k) = ((2 ^ k : Nat) : Int) := by simp
  rw [this]
  exact wrap_nat (Nat.pow_lt_pow_right (by decide) hk)
theorem pow_lt64 {k : Nat} (hk : k < 64) : 2 ^ k < 2 ^ 64 := Nat.pow_lt_pow_right (by decide) hk
theorem or_wd {g : Nat → Bool} {r : Nat} (hr : r < 64) : bOr .u64 ((wdN g 64 : Nat) : Int) (shL .u64 1 (r : Int)) = ((wdN (fun k => g k || decide (k = r)) 64 : Nat) : Int) := by
  rw [shl64 hr, or64 (wdN_lt g 64) (pow_lt64 hr)]
  refine congrArg (fun n : Nat => (n : Int)) ?_
  apply Nat.eq_of_testBit_eq
  intro i
  rw [Nat.testBit_or, wdN_bit, wdN_bit, Nat.testBit_two_pow]
  by_cases h : i < 64
  · by_cases e : r = i <;> simp [h, e, eq_comm]
  · simp [h, show ¬ r = i by omega]
theorem not_wd {g : Nat → Bool} {r : Nat} (hr : r < 64) : bNot .u64 ((wdN g 64 : Nat) : Int) (shL .u64 1 (r : Int)) = ((wdN (fun k => g k && !decide (k = r)) 64 : Nat) : Int) := by
  rw [shl64 hr, not64 (wdN_lt g 64) (pow_lt64 hr)]
  refine congrArg (fun n : Nat => (n : Int)) ?_
  refine wdN_congr fun k hk => ?_
  rw [wdN_bit, Nat.testBit_two_pow]
  by_cases e : r = k <;> simp [hk, e, eq_comm]
theorem has_wd {g : Nat → Bool} {r : Nat} (hr : r < 64) : decide (bAnd .u64 (shR .u64 ((wdN g 64 : Nat) : Int) (r : Int)) 1 = 1) = g r := by
  have hb := wdN_bit g r 64
  rw [shr64n (by omega), show (1 : Int) = ((1 : Nat) : Int) from rfl, and64 (Nat.lt_of_le_of_lt (Nat.div_le_self _ _) (wdN_lt g 64)) (by decide)]
  simp only [hr, decide_true, Bool.true_and] at hb
  rw [← hb, Nat.testBit_eq_decide_div_mod_eq, Nat.and_one_is_mod]
  congr 1
  apply propext
  omega
theorem low_split {x : Nat} (h : x ≠ 0) : ∃ k q, x = 2 ^ k * (2 * q + 1) := by
  induction x using Nat.strongRecOn with
  | _ x ih =>
    by_cases e : x % 2 = 1
    · exact ⟨0, x / 2, by omega⟩
    · obtain ⟨k, q, hk⟩ := ih (x / 2) (by omega) (by omega)
      exact ⟨k + 1, q, by rw [Nat.pow_succ, Nat.mul_comm (2 ^ k) 2, Nat.mul_assoc, ← hk]; omega⟩
theorem tb0 (k a j : Nat) : (2 ^ k * a).testBit j = if j < k then false else a.testBit (j - k) := by
  have := Nat.testBit_two_pow_mul_add a (show 0 < 2 ^ k from Nat.pow_pos (by decide)) j
  simpa using this
theorem low_and (k q : Nat) : (2 ^ k * (2 * q + 1)) &&& (2 ^ k * (2 * q + 1) - 1) = 2 ^ k * (2 * q) := by
  have hp : 0 < 2 ^ k := Nat.pow_pos (by decide)
  have e2 : 2 ^ k * (2 * q + 1) - 1 = 2 ^ k * (2 * q) + (2 ^ k - 1) := by rw [Nat.mul_add]; omega
  apply Nat.eq_of_testBit_eq
  intro j
  rw [Nat.testBit_and, e2, Nat.testBit_two_pow_mul_add _ (by omega : 2 ^ k - 1 < 2 ^ k), tb0, tb0]
  by_cases h : j < k
  · simp [h]
  · rw [if_neg h, if_neg h, if_neg h]
    cases hm : j - k with
    | zero => simp [Nat.testBit_zero]
    | succ m =>
      rw [Nat.testBit_succ, Nat.testBit_succ, show (2 * q + 1) / 2 = q by omega, show 2 * q / 2 = q by omega, Bool.and_self]
theorem low_neg {k q : Nat} (h : 2 ^ k * (2 * q + 1) < 2 ^ 64) : k < 64 ∧ (2 ^ k * (2 * q + 1)) &&& (2 ^ 64 - 2 ^ k * (2 * q + 1)) = 2 ^ k := by
  have hk : k < 64 := by
    by_cases hk : k < 64
    · exact hk
    · have : 2 ^ 64 ≤ 2 ^ k := Nat.pow_le_pow_right (by decide) (by omega)
      have h2 : 2 ^ k * 1 ≤ 2 ^ k * (2 * q + 1) := Nat.mul_le_mul_left _ (by omega)
      omega
  refine ⟨hk, ?_⟩
  have hp : 0 < 2 ^ k := Nat.pow_pos (by decide)
  have es : 2 ^ 64 = 2 ^ k * 2 ^ (64 - k) := by rw [← Nat.pow_add]; congr 1; omega
  have hq : 2 * q + 1 < 2 ^ (64 - k) := by
    rw [es] at h
    exact Nat.lt_of_mul_lt_mul_left h
  have e2 : 2 ^ 64 - 2 ^ k * (2 * q + 1) = 2 ^ k * (2 ^ (64 - k) - (2 * q + 1)) := by rw [es, Nat.mul_sub]
  apply Nat.eq_of_testBit_eq
  intro j
  rw [Nat.testBit_and, e2, tb0, tb0, Nat.testBit_two_pow]
  by_cases hj : j < k
  · simp [hj, show ¬ k = j by omega]
  · rw [if_neg hj, if_neg hj, Nat.testBit_two_pow_sub_succ (by omega : 2 * q < 2 ^ (64 - k))]
    cases hm : j - k with
    | zero => simp [Nat.testBit_zero, show k = j by omega, show 0 < 64 - j by omega]
    | succ m =>
      rw [Nat.testBit_succ, Nat.testBit_succ, show (2 * q + 1) / 2 = q by omega, show 2 * q / 2 = q by omega]
      have : ¬ k = j := by omega
      cases q.testBit m <;> simp [this]
theorem tz_tab : ∀ k : Fin 64, shR .u64 (IntKind.u64.wrap (((2 ^ (k : Nat) : Nat) : Int) * 285870213051353865)) 58 = (((2 ^ (k : Nat) * 285870213051353865) % 2 ^ 64 / 2 ^ 58 : Nat) : Int) ∧ (2 ^ (k : Nat) * 285870213051353865) % 2 ^ 64 / 2 ^ 58 < 64 ∧ Arr.get tabG0 (((2 ^ (k : Nat) * 285870213051353865) % 2 ^ 64 / 2 ^ 58 : Nat) : Int) = ((k : Nat) : Int) := by decide +kernel
theorem tz_eq {fu k q : Nat} (h : 2 ^ k * (2 * q + 1) < 2 ^ 64) : bits_TrailingZeros64.f fu ((2 ^ k * (2 * q + 1) : Nat) : Int) = some (k : Int) := by
  unfold bits_TrailingZeros64.f
  obtain ⟨hk, ha⟩ := low_neg h
  have hp : 0 < 2 ^ k := Nat.pow_pos (by decide)
  have h0 : ¬ ((2 ^ k * (2 * q + 1) : Nat) : Int) = 0 := by
    intro e
    have : 2 ^ k * (2 * q + 1) = 0 := by exact_mod_cast e
    have h2 : 2 ^ k * 1 ≤ 2 ^ k * (2 * q + 1) := Nat.mul_le_mul_left _ (by omega)
    omega
  have hw : IntKind.u64.wrap (-((2 ^ k * (2 * q + 1) : Nat) : Int)) = ((2 ^ 64 - 2 ^ k * (2 * q + 1) : Nat) : Int) := by
    generalize 2 ^ k * (2 * q + 1) = x at *
    have hx : 0 < x := by omega
    rw [p64] at *
    unfold IntKind.wrap
    simp only [IntKind.signed, IntKind.bits]
    simp
    omega
  rw [decide_eq_false h0, if_neg (by decide), hw, and64 h (by rw [p64] at *; have : 2 ^ k * 1 ≤ 2 ^ k * (2 * q + 1) := Nat.mul_le_mul_left _ (by omega); omega), ha]
  obtain ⟨t1, t2, t3⟩ := tz_tab ⟨k, hk⟩
  simp only at t1 t2 t3
  rw [t1, t3, if_pos ⟨by omega, by omega⟩, w64 (by omega) (by omega)]
def mm (c : Nat) : Nat → Nat
  | 0 => 0
  | n + 1 => 256 * mm c n + c
def f1 (n x : Nat) : Nat := ((x / 2) &&& mm 85 n) + (x &&& mm 85 n)
def f2 (n x : Nat) : Nat := ((x / 4) &&& mm 51 n) + (x &&& mm 51 n)
def f3 (n x : Nat) : Nat := (x / 16 + x) &&& mm 15 n
def pc (b : Nat) : Nat := ((List.range 8).filter fun k => b.testBit k).length
def tn : Nat → Nat → Nat
  | 0, _ => 0
  | n + 1, x => 256 * tn n (x / 256) + pc (x % 256)
theorem and256 {y b M c : Nat} (hb : b < 256) (hc : c < 256) : (256 * y + b) &&& (256 * M + c) = 256 * (y &&& M) + (b &&& c) := by
  have e : 256 = 2 ^ 8 := by decide
  have hbc : b &&& c < 2 ^ 8 := Nat.lt_of_le_of_lt Nat.and_le_left (by omega)
  apply Nat.eq_of_testBit_eq
  intro j
  rw [Nat.testBit_and, e, Nat.testBit_two_pow_mul_add _ (by omega : b < 2 ^ 8), Nat.testBit_two_pow_mul_add _ (by omega : c < 2 ^ 8), Nat.testBit_two_pow_mul_add _ hbc]
  by_cases h : j < 8
  · rw [if_pos h, if_pos h, if_pos h, Nat.testBit_and]
  · rw [if_neg h, if_neg h, if_neg h, Nat.testBit_and]
theorem t85 : ∀ (b : Fin 256) (r : Fin 2), (128 * (r : Nat) + (b : Nat) / 2) &&& 85 = ((b : Nat) / 2) &&& 85 := by decide +kernel
theorem t51 : ∀ (b : Fin 256) (r : Fin 4), (64 * (r : Nat) + (b : Nat) / 4) &&& 51 = ((b : Nat) / 4) &&& 51 := by decide +kernel
theorem t15 : ∀ (b : Fin 69) (r : Fin 5), (16 * (r : Nat) + (b : Nat) / 16 + (b : Nat)) &&& 15 = ((b : Nat) / 16 + (b : Nat)) &&& 15 := by decide +kernel
theorem tb : ∀ b : Fin 256, f1 1 b < 256 ∧ f2 1 (f1 1 b) < 69 ∧ f2 1 (f1 1 b) % 16 ≤ 4 ∧ f3 1 (f2 1 (f1 1 b)) = pc b ∧ pc b ≤ 8 := by decide +kernel
theorem tb2 : ∀ b : Fin 256, ((b : Nat) / 2 &&& 85) + ((b : Nat) &&& 85) = f1 1 b ∧ ((b : Nat) / 4 &&& 51) + ((b : Nat) &&& 51) = f2 1 b ∧ ((b : Nat) / 16 + b) &&& 15 = f3 1 b := by decide +kernel
theorem f1_succ {n y b : Nat} (hb : b < 256) : f1 (n + 1) (256 * y + b) = 256 * f1 n y + f1 1 b := by
  have e1 : (256 * y + b) / 2 = 256 * (y / 2) + (128 * (y % 2) + b / 2) := by omega
  unfold f1
  show (((256 * y + b) / 2) &&& (256 * mm 85 n + 85)) + ((256 * y + b) &&& (256 * mm 85 n + 85)) = _
  rw [e1, and256 (by omega) (by decide), and256 hb (by decide)]
  have h1 := t85 ⟨b, hb⟩ ⟨y % 2, by omega⟩
  have h2 := (tb2 ⟨b, hb⟩).1
  simp only at h1 h2
  unfold f1 at h2
  rw [h1, ← h2]
  omega
theorem f2_succ {n y b : Nat} (hb : b < 256) : f2 (n + 1) (256 * y + b) = 256 * f2 n y + f2 1 b := by
  have e1 : (256 * y + b) / 4 = 256 * (y / 4) + (64 * (y % 4) + b / 4) := by omega
  unfold f2
  show (((256 * y + b) / 4) &&& (256 * mm 51 n + 51)) + ((256 * y + b) &&& (256 * mm 51 n + 51)) = _
  rw [e1, and256 (by omega) (by decide), and256 hb (by decide)]
  have h1 := t51 ⟨b, hb⟩ ⟨y % 4, by omega⟩
  have h2 := (tb2 ⟨b, hb⟩).2.1
  simp only at h1 h2
  unfold f2 at h2
  rw [h1, ← h2]
  omega
theorem f3_succ {n y b : Nat} (hb : b < 69) (hy : y % 16 ≤ 4) : f3 (n + 1) (256 * y + b) = 256 * f3 n y + f3 1 b := by
  have e1 : (256 * y + b) / 16 + (256 * y + b) = 256 * (y / 16 + y) + (16 * (y % 16) + b / 16 + b) := by omega
  unfold f3
  show ((256 * y + b) / 16 + (256 * y + b)) &&& (256 * mm 15 n + 15) = _
  rw [e1, and256 (by omega) (by decide)]
  have h1 := t15 ⟨b, hb⟩ ⟨y % 16, by omega⟩
  have h2 := (tb2 ⟨b, by omega⟩).2.2
  simp only at h1 h2
  unfold f3 at h2
  rw [h1, ← h2]
theorem f_all : ∀ (n x : Nat), f1 n x < 256 ^ n ∧ f2 n (f1 n x) ≤ mm 68 n ∧ f2 n (f1 n x) % 16 ≤ 4 ∧ f3 n (f2 n (f1 n x)) = tn n x
  | 0, x => by simp [f1, f2, f3, mm, tn]
  | n + 1, x => by
    obtain ⟨h1, h2, h3, h4⟩ := f_all n (x / 256)
    have hx : x = 256 * (x / 256) + x % 256 := by omega
    have hb : x % 256 < 256 := by omega
    obtain ⟨b1, b2, b3, b4, _⟩ := tb ⟨x % 256, hb⟩
    simp only at b1 b2 b3 b4
    have e1 : f1 (n + 1) x = 256 * f1 n (x / 256) + f1 1 (x % 256) := by
      conv => lhs; rw [hx]
      exact f1_succ hb
    have e2 := f2_succ (n := n) (y := f1 n (x / 256)) b1
    have e3 := f3_succ (n := n) (y := f2 n (f1 n (x / 256))) b2 h3
    rw [e1, e2, e3, h4, b4]
    refine ⟨?_, ?_, by omega, rfl⟩
    · rw [Nat.pow_succ]
      omega
    · unfold mm
      omega
theorem tn8 (x : Nat) : ∃ s0 s1 s2 s3 s4 s5 s6 s7 : Nat, tn 8 x = s0 + 256 * s1 + 65536 * s2 + 16777216 * s3 + 4294967296 * s4 + 1099511627776 * s5 + 281474976710656 * s6 + 72057594037927936 * s7 ∧ (s0 ≤ 8 ∧ s1 ≤ 8 ∧ s2 ≤ 8 ∧ s3 ≤ 8 ∧ s4 ≤ 8 ∧ s5 ≤ 8 ∧ s6 ≤ 8 ∧ s7 ≤ 8) ∧ s0 = pc (x % 256) ∧ s1 = pc (x / 256 % 256) ∧ s2 = pc (x / 256 / 256 % 256) ∧ s3 = pc (x / 256 / 256 / 256 % 256) ∧ s4 = pc (x / 256 / 256 / 256 / 256 % 256) ∧ s5 = pc (x / 256 / 256 / 256 / 256 / 256 % 256) ∧ s6 = pc (x / 256 / 256 / 256 / 256 / 256 / 256 % 256) ∧ s7 = pc (x / 256 / 256 / 256 / 256 / 256 / 256 / 256 % 256) := by
  have hp : ∀ y, pc (y % 256) ≤ 8 := fun y => (tb ⟨y % 256, by omega⟩).2.2.2.2
  refine ⟨_, _, _, _, _, _, _, _, ?_, ⟨hp _, hp _, hp _, hp _, hp _, hp _, hp _, hp _⟩, rfl, rfl, rfl, rfl, rfl, rfl, rfl, rfl⟩
  simp only [tn]
  omega
def cnt (g : Nat → Bool) (n : Nat) : Nat := ((List.range n).filter g).length
theorem cnt_add (g : Nat → Bool) (m n : Nat) : cnt g (m + n) = cnt g m + cnt (fun k => g (m + k)) n := by
  unfold cnt
  rw [List.range_add, List.filter_append, List.length_append, List.filter_map, List.length_map]
  rfl
theorem cnt_congr {f g : Nat → Bool} {n : Nat} (h : ∀ k, k < n → f k = g k) : cnt f n = cnt g n := by
  unfold cnt
  rw [List.filter_congr fun k hk => h k (List.mem_range.1 hk)]
theorem div_bit (x k : Nat) : (x / 256).testBit k = x.testBit (k + 8) := by
  rw [show (256 : Nat) = 2 ^ 8 from by decide, Nat.testBit_div_two_pow]
theorem pc_low (x : Nat) : pc (x % 256) = cnt (fun k => x.testBit k) 8 := by
  refine cnt_congr fun k hk => ?_
  rw [show (256 : Nat) = 2 ^ 8 from by decide, Nat.testBit_mod_two_pow]
  simp [hk]
theorem cnt8 (x n : Nat) : cnt (fun k => x.testBit k) (8 + n) = pc (x % 256) + cnt (fun k => (x / 256).testBit k) n := by
  rw [cnt_add, pc_low]
  congr 1
  refine cnt_congr fun k _ => ?_
  rw [div_bit, Nat.add_comm]
theorem and127 {x : Nat} (h : x < 9223372036854775808) : bAnd .i64 (IntKind.i64.wrap (x : Int)) 127 = ((x % 128 : Nat) : Int) := by
  rw [w64 (by omega) (by omega)]
  unfold bAnd
  show IntKind.i64.wrap (((BitVec.ofInt 64 (x : Int) &&& BitVec.ofInt 64 127).toNat : Nat) : Int) = _
  rw [show (127 : Int) = ((127 : Nat) : Int) from rfl, ofInt_nat, ofInt_nat, BitVec.toNat_and, BitVec.toNat_ofNat, BitVec.toNat_ofNat, Nat.mod_eq_of_lt (by omega), Nat.mod_eq_of_lt (by decide), show (127 : Nat) = 2 ^ 7 - 1 from rfl, Nat.and_two_pow_sub_one_eq_mod]
  rw [w64 (by omega) (by omega)]
theorem shr_of {x : Nat} {k : Int} {m : Nat} (hk : k = (m : Int)) (hm : m ≤ 64) : shR .u64 (x : Int) k = ((x / 2 ^ m : Nat) : Int) := by rw [hk]; exact shr64n hm
theorem dv {X A r m : Nat} (h : X = m * A + r) (hr : r < m) : X / m = A := by
  rw [h, Nat.mul_add_div (by omega), Nat.div_eq_of_lt hr, Nat.add_zero]
def fd (x : Nat) : Nat := x + x / 256
def fe (x : Nat) : Nat := x + x / 65536
def fg (x : Nat) : Nat := (x + x / 4294967296) % 128
theorem fold8 {s0 s1 s2 s3 s4 s5 s6 s7 : Nat} (hs : s0 ≤ 8 ∧ s1 ≤ 8 ∧ s2 ≤ 8 ∧ s3 ≤ 8 ∧ s4 ≤ 8 ∧ s5 ≤ 8 ∧ s6 ≤ 8 ∧ s7 ≤ 8) : fg (fe (fd (s0 + 256 * s1 + 65536 * s2 + 16777216 * s3 + 4294967296 * s4 + 1099511627776 * s5 + 281474976710656 * s6 + 72057594037927936 * s7))) = s0 + (s1 + (s2 + (s3 + (s4 + (s5 + (s6 + s7)))))) := by
  have d1 : fd (s0 + 256 * s1 + 65536 * s2 + 16777216 * s3 + 4294967296 * s4 + 1099511627776 * s5 + 281474976710656 * s6 + 72057594037927936 * s7) = (s0 + s1) + 256 * (s1 + s2) + 65536 * (s2 + s3) + 16777216 * (s3 + s4) + 4294967296 * (s4 + s5) + 1099511627776 * (s5 + s6) + 281474976710656 * (s6 + s7) + 72057594037927936 * s7 := by
    unfold fd
    rw [dv (X := (s0 + 256 * s1 + 65536 * s2 + 16777216 * s3 + 4294967296 * s4 + 1099511627776 * s5 + 281474976710656 * s6 + 72057594037927936 * s7)) (A := s1 + 256 * s2 + 65536 * s3 + 16777216 * s4 + 4294967296 * s5 + 1099511627776 * s6 + 281474976710656 * s7) (r := s0) (m := 256) (by omega) (by omega)]
    omega
  rw [d1]
  have d2 : fe ((s0 + s1) + 256 * (s1 + s2) + 65536 * (s2 + s3) + 16777216 * (s3 + s4) + 4294967296 * (s4 + s5) + 1099511627776 * (s5 + s6) + 281474976710656 * (s6 + s7) + 72057594037927936 * s7) = (s0 + s1 + s2 + s3) + 256 * (s1 + s2 + s3 + s4) + 65536 * (s2 + s3 + s4 + s5) + 16777216 * (s3 + s4 + s5 + s6) + 4294967296 * (s4 + s5 + s6 + s7) + 1099511627776 * (s5 + s6 + s7) + 281474976710656 * (s6 + s7) + 72057594037927936 * s7 := by
    unfold fe
    rw [dv (A := (s2 + s3) + 256 * (s3 + s4) + 65536 * (s4 + s5) + 16777216 * (s5 + s6) + 4294967296 * (s6 + s7) + 1099511627776 * s7) (r := (s0 + s1) + 256 * (s1 + s2)) (m := 65536) (by omega) (by omega)]
    omega
  rw [d2]
  unfold fg
  rw [dv (A := (s4 + s5 + s6 + s7) + 256 * (s5 + s6 + s7) + 65536 * (s6 + s7) + 16777216 * s7) (r := (s0 + s1 + s2 + s3) + 256 * (s1 + s2 + s3 + s4) + 65536 * (s2 + s3 + s4 + s5) + 16777216 * (s3 + s4 + s5 + s6)) (m := 4294967296) (by omega) (by omega)]
  omega
theorem ones_eq {fu x : Nat} (h : x < 2 ^ 64) : bits_OnesCount64.f fu (x : Int) = some ((cnt (fun k => x.testBit k) 64 : Nat) : Int) := by
  obtain ⟨h1, h2, _, h3⟩ := f_all 8 x
  obtain ⟨s0, s1, s2, s3, s4, s5, s6, s7, ht, hs, q0, q1, q2, q3, q4, q5, q6, q7⟩ := tn8 x
  have hm : mm 85 8 = 6148914691236517205 ∧ mm 51 8 = 3689348814741910323 ∧ mm 15 8 = 1085102592571150095 ∧ mm 68 8 = 4919131752989213764 := by decide
  have hc : cnt (fun k => x.testBit k) 64 = s0 + (s1 + (s2 + (s3 + (s4 + (s5 + (s6 + s7)))))) := by
    rw [show 64 = 8 + 56 from rfl, cnt8, show 56 = 8 + 48 from rfl, cnt8, show 48 = 8 + 40 from rfl, cnt8, show 40 = 8 + 32 from rfl, cnt8, show 32 = 8 + 24 from rfl, cnt8, show 24 = 8 + 16 from rfl, cnt8, show 16 = 8 + 8 from rfl, cnt8, ← pc_low, q0, q1, q2, q3, q4, q5, q6, q7]
  have a1 : IntKind.u64.wrap (bAnd .u64 (shR .u64 (x : Int) 1) 6148914691236517205 + bAnd .u64 (x : Int) 6148914691236517205) = ((f1 8 x : Nat) : Int) := by
    rw [shr_of (k := 1) (m := 1) rfl (by decide), show (6148914691236517205 : Int) = ((6148914691236517205 : Nat) : Int) from rfl, and64 (by omega) (by decide), and64 h (by decide), ← Int.natCast_add, wrap_nat]
    · unfold f1
      rw [hm.1]
    · have := h1
      unfold f1 at this
      rw [hm.1] at this
      exact Nat.lt_of_lt_of_le this (by decide)
  unfold bits_OnesCount64.f
  rw [a1]
  generalize f1 8 x = y1 at *
  have hy1 : y1 < 2 ^ 64 := Nat.lt_of_lt_of_le h1 (by decide)
  have a2 : IntKind.u64.wrap (bAnd .u64 (shR .u64 (y1 : Int) 2) 3689348814741910323 + bAnd .u64 (y1 : Int) 3689348814741910323) = ((f2 8 y1 : Nat) : Int) := by
    rw [shr_of (k := 2) (m := 2) rfl (by decide), show (3689348814741910323 : Int) = ((3689348814741910323 : Nat) : Int) from rfl, and64 (by omega) (by decide), and64 hy1 (by decide), ← Int.natCast_add, wrap_nat]
    · unfold f2
      rw [hm.2.1]
    · have := h2
      unfold f2 at this
      rw [hm.2.1, hm.2.2.2] at this
      exact Nat.lt_of_le_of_lt this (by decide)
  rw [a2]
  rw [hm.2.2.2] at h2
  generalize f2 8 y1 = y2 at *
  have a3 : bAnd .u64 (IntKind.u64.wrap (shR .u64 (y2 : Int) 4 + (y2 : Int))) 1085102592571150095 = ((tn 8 x : Nat) : Int) := by
    rw [shr_of (k := 4) (m := 4) rfl (by decide), ← Int.natCast_add, wrap_nat (by rw [p64]; omega), show (1085102592571150095 : Int) = ((1085102592571150095 : Nat) : Int) from rfl, and64 (by rw [p64]; omega) (by decide), ← h3]
    unfold f3
    rw [hm.2.2.1]
  rw [a3, ht]
  have sh : ∀ (y m : Nat) (k : Int), k = (m : Int) → m ≤ 64 → y + y / 2 ^ m < 2 ^ 64 → IntKind.u64.wrap ((y : Int) + shR .u64 (y : Int) k) = ((y + y / 2 ^ m : Nat) : Int) := by
    intro y m k hk hm hy
    rw [shr_of hk hm, ← Int.natCast_add, wrap_nat hy]
  rw [sh _ 8 8 rfl (by decide) (by rw [p64]; omega), sh _ 16 16 rfl (by decide) (by rw [p64]; omega), sh _ 32 32 rfl (by decide) (by rw [p64]; omega), and127 (by omega), hc]
  clear a3 a2 a1 hc q0 q1 q2 q3 q4 q5 q6 q7 sh h3 ht hy1 h1 h2 hm h
  refine congrArg (fun n : Nat => some ((n : Nat) : Int)) ?_
  rw [show (2 : Nat) ^ 8 = 256 from by decide, show (2 : Nat) ^ 16 = 65536 from by decide, show (2 : Nat) ^ 32 = 4294967296 from by decide]
  exact fold8 hs
noncomputable def wordAt (f : Nat → Bool) (j : Nat) : Nat := wdN (fun k => f (64 * j + k)) 64
noncomputable def wordsOf (f : Nat → Bool) (m : Nat) : List Int := (List.range m).map fun j => ((wordAt f j : Nat) : Int)
noncomputable def setOf (n : Nat) (f : Nat → Bool) : S_bits_Set := ⟨(n : Int), wordsOf f ((n + 63) / 64)⟩
def els (n : Nat) (f : Nat → Bool) : List Int := ((List.range n).filter f).map fun (k : Nat) => (k : Int)
def Low (n : Nat) (f : Nat → Bool) : Prop := ∀ k, f k = true → k < n
def addF (n : Nat) (f : Nat → Bool) (l : List Int) : Nat → Bool := fun k => f k || (decide (k < n) && decide ((k : Int) ∈ l))
def dropF (f : Nat → Bool) (l : List Int) : Nat → Bool := fun k => f k && !decide ((k : Int) ∈ l)
def hasI (n : Nat) (f : Nat → Bool) (k : Int) : Bool := decide (0 ≤ k) && (decide (k < (n : Int)) && f k.toNat)
theorem words_len (f : Nat → Bool) (m : Nat) : (wordsOf f m).length = m := by simp [wordsOf]
theorem words_ix {f : Nat → Bool} {m j : Nat} (h : j < m) : ix (wordsOf f m) (j : Int) = ((wordAt f j : Nat) : Int) := by
  rw [ix_nat (by rw [words_len]; exact h)]
  simp [wordsOf]
theorem word_congr {f g : Nat → Bool} {j : Nat} (h : ∀ k, k < 64 → f (64 * j + k) = g (64 * j + k)) : wordAt f j = wordAt g j := wdN_congr h
theorem words_congr {f g : Nat → Bool} {m : Nat} (h : ∀ k, k < 64 * m → f k = g k) : wordsOf f m = wordsOf g m := by
  unfold wordsOf
  apply List.map_congr_left
  intro j hj
  have := List.mem_range.1 hj
  rw [word_congr fun k hk => h _ (by omega)]
theorem set_congr {f g : Nat → Bool} {n : Nat} (h : ∀ k, f k = g k) : setOf n f = setOf n g := by
  rw [show f = g from funext h]
theorem words_set {f : Nat → Bool} {m k : Nat} {v : Nat} (hk : k / 64 < m) (g : Nat → Bool) (hv : v = wordAt g (k / 64)) (hg : ∀ i, i / 64 ≠ k / 64 → g i = f i) : (wordsOf f m).set (k / 64) ((v : Nat) : Int) = wordsOf g m := by
  apply List.ext_getElem (by simp [wordsOf])
  intro j h1 h2
  rw [List.getElem_set]
  simp only [wordsOf, List.getElem_map, List.getElem_range]
  by_cases e : k / 64 = j
  · rw [if_pos e, hv, e]
  · rw [if_neg e, word_congr fun i hi => (hg (64 * j + i) (by omega)).symm]
theorem tdiv64 (k : Nat) : Int.tdiv (k : Int) 64 = ((k / 64 : Nat) : Int) := by
  rw [Int.tdiv_eq_ediv_of_nonneg (by omega)]
  omega
theorem tmod64 (k : Nat) : Int.tmod (k : Int) 64 = ((k % 64 : Nat) : Int) := by
  rw [Int.tmod_eq_emod_of_nonneg (by omega)]
  omega
theorem may_b {fu : Nat} {s : S_bits_Set} {k : Int} : bits_Set_may.f fu s k = some (decide (0 ≤ k) && decide (k < s.size)) := by
  unfold bits_Set_may.f
  by_cases h : k ≥ 0
  · have h' : 0 ≤ k := h
    simp [h']
  · have h' : ¬ 0 ≤ k := h
    simp [h']
theorem has_eq {fu n : Nat} {f : Nat → Bool} {k : Int} (hn : n ≤ 100000) : bits_Set_Has.f fu (setOf n f) k = some (hasI n f k) := by
  unfold bits_Set_Has.f hasI
  rw [may_b]
  simp only [Option.bind_some]
  by_cases h : 0 ≤ k ∧ k < (n : Int)
  · obtain ⟨j, rfl⟩ : ∃ j : Nat, k = (j : Int) := ⟨k.toNat, by omega⟩
    have hj : j / 64 < (n + 63) / 64 := by omega
    rw [show (setOf n f).size = (n : Int) from rfl, decide_eq_true h.1, decide_eq_true h.2, Bool.true_and, if_pos rfl, tdiv64, tmod64, w64 (by omega) (by omega), show (setOf n f).words = wordsOf f ((n + 63) / 64) from rfl, words_ix hj, if_pos ⟨by omega, by rw [words_len]; omega⟩, if_pos (by omega)]
    have := has_wd (g := fun r => f (64 * (j / 64) + r)) (r := j % 64) (by omega)
    unfold wordAt
    rw [this]
    simp only [Bool.true_and, Int.toNat_natCast]
    rw [show 64 * (j / 64) + j % 64 = j by omega]
  · rw [show (setOf n f).size = (n : Int) from rfl]
    by_cases h0 : 0 ≤ k
    · rw [decide_eq_true h0, decide_eq_false (fun q => h ⟨h0, q⟩)]
      rfl
    · rw [decide_eq_false h0]
      rfl
theorem one_eq {n : Nat} {f : Nat → Bool} {x : Int} {fu : Nat} (hn : n ≤ 100000) (op : Int → Int → Int) (g : Bool → Bool → Bool) (hop : ∀ (g' : Nat → Bool) (r : Nat), r < 64 → op ((wdN g' 64 : Nat) : Int) (shL .u64 1 (r : Int)) = ((wdN (fun k => g (g' k) (decide (k = r))) 64 : Nat) : Int)) (hg : ∀ b, g b false = b) :
    ((if (decide (0 ≤ x) && decide (x < (n : Int))) = true then if 0 ≤ (IntKind.i64.wrap (Int.tdiv x 64)) ∧ (IntKind.i64.wrap (Int.tdiv x 64)) < (List.length (wordsOf f ((n + 63) / 64)) : Int) then if 0 ≤ (Int.tmod x 64) then if 0 ≤ (IntKind.i64.wrap (Int.tdiv x 64)) ∧ (IntKind.i64.wrap (Int.tdiv x 64)) < (List.length (wordsOf f ((n + 63) / 64)) : Int) then some ((List.set (wordsOf f ((n + 63) / 64)) (Int.toNat (IntKind.i64.wrap (Int.tdiv x 64))) (op (ix (wordsOf f ((n + 63) / 64)) (IntKind.i64.wrap (Int.tdiv x 64))) (shL .u64 1 (Int.tmod x 64))))) else none else none else none else some (wordsOf f ((n + 63) / 64))) : Option (List Int)) =
      some (wordsOf (fun k => g (f k) (decide (k < n) && decide ((k : Int) = x))) ((n + 63) / 64)) := by
  by_cases h : 0 ≤ x ∧ x < (n : Int)
  · obtain ⟨j, rfl⟩ : ∃ j : Nat, x = (j : Int) := ⟨x.toNat, by omega⟩
    have hj : j / 64 < (n + 63) / 64 := by omega
    rw [decide_eq_true h.1, decide_eq_true h.2, Bool.true_and, if_pos rfl, tdiv64, tmod64, w64 (by omega) (by omega), if_pos ⟨by omega, by rw [words_len]; omega⟩, if_pos (by omega), if_pos ⟨by omega, by rw [words_len]; omega⟩, words_ix hj, Int.toNat_natCast]
    unfold wordAt
    rw [hop _ _ (by omega)]
    refine congrArg some (words_set hj _ ?_ ?_)
    rotate_left
    · intro i hi
      have : ¬ ((i : Int) = (j : Int)) := by omega
      simp [this, hg]
    · unfold wordAt
      refine wdN_congr fun k hk => ?_
      congr 1
      by_cases e : k = j % 64
      · have e1 : 64 * (j / 64) + k = j := by omega
        have e2 : j < n := by omega
        rw [e1, decide_eq_true e2, decide_eq_true e, decide_eq_true (rfl : (j : Int) = (j : Int))]
        rfl
      · have e1 : ¬ ((64 * (j / 64) + k : Nat) : Int) = (j : Int) := by omega
        simp only [e, e1, decide_false, Bool.and_false]
  · have hb : (decide (0 ≤ x) && decide (x < (n : Int))) = false := by
      by_cases h0 : 0 ≤ x
      · rw [decide_eq_false (fun q => h ⟨h0, q⟩), Bool.and_false]
      · rw [decide_eq_false h0, Bool.false_and]
    rw [hb, if_neg (by decide)]
    refine congrArg some (words_congr fun k _ => ?_)
    have : (decide (k < n) && decide ((k : Int) = x)) = false := by
      by_cases e : (k : Int) = x
      · have : ¬ k < n := by omega
        simp [this]
      · simp [e]
    rw [this, hg]
theorem add_eq {fu n : Nat} {f : Nat → Bool} {l : List Int} (hn : n ≤ 100000) (hl : l.length ≤ 100000) (hf : l.length < fu) : bits_Set_Add.f fu (setOf n f) l = some (setOf n (addF n f l)) := by
  unfold bits_Set_Add.f
  have : loopM (bits_Set_Add.s0 fu (setOf n f) l) fu (0, (setOf n f).words) = some (wordsOf (addF n f l) ((n + 63) / 64)) := by
    refine loopM_run (S := fun j => ((j : Int), wordsOf (addF n f (l.take j)) ((n + 63) / 64))) l.length ?_ ?_ ?_ hf
    · simp only [show wordsOf (addF n f (l.take 0)) ((n + 63) / 64) = wordsOf f ((n + 63) / 64) from words_congr fun k _ => by simp [addF]]
      rfl
    · intro j hj
      unfold bits_Set_Add.s0
      have c1 : 0 ≤ (j : Int) ∧ (j : Int) < (l.length : Int) := by omega
      simp only
      rw [decide_eq_true c1.2, if_pos rfl, if_pos c1, ix_nat hj, may_b, next64 hj (by omega)]
      simp only [Option.bind_some]
      rw [show (setOf n f).size = (n : Int) from rfl, one_eq (fu := fu) hn (bOr .u64) (fun a b => a || b) (fun g r hr => or_wd hr) (by simp)]
      simp only [Option.bind_some]
      rw [words_congr fun k _ => show _ = addF n f (l.take (j + 1)) k from ?_]
      simp only [addF, take_next hj, List.mem_append, List.mem_singleton]
      cases f k <;> cases decide (k < n) <;> simp
    · unfold bits_Set_Add.s0
      rw [decide_eq_false (show ¬ ((l.length : Int) < (l.length : Int)) by omega), if_neg (by decide), List.take_length]
  rw [this]
  rfl
theorem dropp_eq {fu n : Nat} {f : Nat → Bool} {l : List Int} (hn : n ≤ 100000) (hl : l.length ≤ 100000) (hf : l.length < fu) (hlow : Low n f) : bits_Set_Drop.f fu (setOf n f) l = some (setOf n (dropF f l)) := by
  unfold bits_Set_Drop.f
  have : loopM (bits_Set_Drop.s0 fu (setOf n f) l) fu (0, (setOf n f).words) = some (wordsOf (dropF f l) ((n + 63) / 64)) := by
    refine loopM_run (S := fun j => ((j : Int), wordsOf (dropF f (l.take j)) ((n + 63) / 64))) l.length ?_ ?_ ?_ hf
    · simp only [show wordsOf (dropF f (l.take 0)) ((n + 63) / 64) = wordsOf f ((n + 63) / 64) from words_congr fun k _ => by simp [dropF]]
      rfl
    · intro j hj
      unfold bits_Set_Drop.s0
      have c1 : 0 ≤ (j : Int) ∧ (j : Int) < (l.length : Int) := by omega
      simp only
      rw [decide_eq_true c1.2, if_pos rfl, if_pos c1, ix_nat hj, may_b, next64 hj (by omega)]
      simp only [Option.bind_some]
      rw [show (setOf n f).size = (n : Int) from rfl, one_eq (fu := fu) hn (bNot .u64) (fun a b => a && !b) (fun g r hr => not_wd hr) (by simp)]
      simp only [Option.bind_some]
      rw [words_congr fun k _ => show _ = dropF f (l.take (j + 1)) k from ?_]
      simp only [dropF, take_next hj, List.mem_append, List.mem_singleton]
      by_cases hk : k < n
      · cases f k <;> simp [hk]
      · have : f k = false := by
          cases e : f k
          · rfl
          · exact absurd (hlow k e) hk
        simp [this]
    · unfold bits_Set_Drop.s0
      rw [decide_eq_false (show ¬ ((l.length : Int) < (l.length : Int)) by omega), if_neg (by decide), List.take_length]
  rw [this]
  rfl
theorem cnt_low {f : Nat → Bool} {n m : Nat} (h : Low n f) (hm : n ≤ m) : cnt f m = cnt f n := by
  obtain ⟨k, rfl⟩ : ∃ k, m = n + k := ⟨m - n, by omega⟩
  rw [cnt_add]
  have : cnt (fun k => f (n + k)) k = 0 := by
    unfold cnt
    rw [List.length_eq_zero_iff, List.filter_eq_nil_iff]
    intro i _ hi
    have := h _ hi
    omega
  omega
theorem count_eq {fu n : Nat} {f : Nat → Bool} (hn : n ≤ 100000) (hf : n < fu) (hlow : Low n f) : bits_Set_Count.f fu (setOf n f) = some ((cnt f n : Nat) : Int) := by
  unfold bits_Set_Count.f
  have hle : ∀ j, cnt f (64 * j) ≤ 64 * j := fun j => by
    unfold cnt
    exact Nat.le_trans (List.length_filter_le _ _) (by simp)
  have : loopM (bits_Set_Count.s0 fu (setOf n f)) fu (0, 0) = some ((cnt f (64 * ((n + 63) / 64)) : Nat) : Int) := by
    refine loopM_run (S := fun j => (((cnt f (64 * j) : Nat) : Int), (j : Int))) ((n + 63) / 64) (by simp [cnt]) ?_ ?_ (by omega)
    · intro j hj
      unfold bits_Set_Count.s0
      have hw : (setOf n f).words = wordsOf f ((n + 63) / 64) := rfl
      have c1 : 0 ≤ (j : Int) ∧ (j : Int) < ((wordsOf f ((n + 63) / 64)).length : Int) := by rw [words_len]; omega
      simp only [hw]
      rw [decide_eq_true c1.2, if_pos rfl, if_pos c1, words_ix hj, show bits_OnesCount64.f fu ((wordAt f j : Nat) : Int) = _ from ones_eq (wdN_lt _ 64), next64 hj (by omega)]
      simp only [Option.bind_some]
      have hc : cnt (fun k => (wordAt f j).testBit k) 64 = cnt (fun k => f (64 * j + k)) 64 := by
        refine cnt_congr fun k hk => ?_
        unfold wordAt
        rw [wdN_bit]
        simp [hk]
      have h1 := hle j
      have h2 := hle (j + 1)
      rw [hc, ← Int.natCast_add, ← cnt_add, show 64 * j + 64 = 64 * (j + 1) by omega, w64 (by omega) (by omega)]
    · unfold bits_Set_Count.s0
      have hw : (setOf n f).words = wordsOf f ((n + 63) / 64) := rfl
      simp only [hw]
      rw [words_len, decide_eq_false (by omega), if_neg (by decide)]
  rw [this, cnt_low hlow (by omega)]
  rfl
theorem filter_first {p q : Nat → Bool} {k n : Nat} (hk : k < n) (h1 : ∀ j, j < k → p j = false) (h2 : p k = true) (h3 : ∀ j, k < j → p j = q j) (h4 : ∀ j, j ≤ k → q j = false) : (List.range n).filter p = k :: (List.range n).filter q := by
  obtain ⟨m, rfl⟩ : ∃ m, n = k + 1 + m := ⟨n - (k + 1), by omega⟩
  have e1 : (List.range k).filter p = [] := by
    rw [List.filter_eq_nil_iff]
    intro j hj
    rw [h1 j (List.mem_range.1 hj)]
    decide
  have e2 : (List.range (k + 1)).filter q = [] := by
    rw [List.filter_eq_nil_iff]
    intro j hj
    rw [h4 j (by have := List.mem_range.1 hj; omega)]
    decide
  rw [List.range_add, List.filter_append, List.filter_append, e2, List.range_succ, List.filter_append, e1]
  simp only [List.filter_cons, h2, if_true, List.filter_nil, List.nil_append, List.cons_append, List.cons.injEq, true_and]
  apply List.filter_congr
  intro j hj
  obtain ⟨i, _, rfl⟩ := List.mem_map.1 hj
  exact h3 _ (by omega)
theorem low_bits {k q : Nat} (h : 2 ^ k * (2 * q + 1) < 2 ^ 64) : (List.range 64).filter (fun r => (2 ^ k * (2 * q + 1)).testBit r) = k :: (List.range 64).filter (fun r => (2 ^ k * (2 * q)).testBit r) := by
  refine filter_first (low_neg h).1 (fun j hj => ?_) ?_ (fun j hj => ?_) (fun j hj => ?_)
  · rw [tb0, if_pos hj]
  · rw [tb0, if_neg (by omega), Nat.sub_self, Nat.testBit_zero]
    simp
  · rw [tb0, tb0, if_neg (by omega), if_neg (by omega)]
    obtain ⟨m, hm⟩ : ∃ m, j - k = m + 1 := ⟨j - k - 1, by omega⟩
    rw [hm, Nat.testBit_succ, Nat.testBit_succ, show (2 * q + 1) / 2 = q by omega, show 2 * q / 2 = q by omega]
  · rw [tb0]
    split
    · rfl
    · rw [show j - k = 0 by omega, Nat.testBit_zero]
      simp
theorem list_in {fu i : Nat} {s : List Int × Int} (hs : s.2 = (i : Int)) (hi : i ≤ 100000) : ∀ (c x k : Nat) (acc : List Int), x < 2 ^ 64 → ((List.range 64).filter fun r => x.testBit r).length = c → c < k → acc.length + c ≤ 1000000 →
    loopM (bits_Set_List.s1 fu s) k (acc, (x : Int)) = some (acc ++ ((List.range 64).filter fun r => x.testBit r).map fun r => ((64 * i + r : Nat) : Int))
  | c, x, 0, acc, hx, hc, hk, ha => by omega
  | c, x, k + 1, acc, hx, hc, hk, ha => by
    unfold loopM
    by_cases e : x = 0
    · subst e
      have : bits_Set_List.s1 fu s (acc, ((0 : Nat) : Int)) = some (.inl acc) := by
        unfold bits_Set_List.s1
        rfl
      rw [this]
      simp
    · obtain ⟨t, q, hx'⟩ := low_split e
      rw [hx'] at hx hc ⊢
      have hl := low_bits hx
      have ht := (low_neg hx).1
      have h0 : ¬ ((2 ^ t * (2 * q + 1) : Nat) : Int) = 0 := by
        intro z
        rw [← hx'] at z
        omega
      have hpos : 0 < 2 ^ t * (2 * q + 1) := by omega
      have hlt : 2 ^ t * (2 * q) < 2 ^ 64 := Nat.lt_of_le_of_lt (Nat.mul_le_mul_left _ (by omega)) hx
      have hw : IntKind.u64.wrap (((2 ^ t * (2 * q + 1) : Nat) : Int) - 1) = ((2 ^ t * (2 * q + 1) - 1 : Nat) : Int) := by
        have : ((2 ^ t * (2 * q + 1) : Nat) : Int) - 1 = ((2 ^ t * (2 * q + 1) - 1 : Nat) : Int) := by omega
        rw [this]
        exact wrap_nat (by omega)
      have hst : bits_Set_List.s1 fu s (acc, ((2 ^ t * (2 * q + 1) : Nat) : Int)) = some (.inr (acc ++ [((64 * i + t : Nat) : Int)], ((2 ^ t * (2 * q) : Nat) : Int))) := by
        unfold bits_Set_List.s1
        simp only
        rw [decide_eq_false h0, Bool.not_false, if_pos rfl, tz_eq hx]
        simp only [Option.bind_some]
        rw [hs, w64 (n := (i : Int) * 64) (by omega) (by omega), w64 (by omega) (by omega), hw, and64 hx (by omega), low_and, show (i : Int) * 64 + (t : Int) = ((64 * i + t : Nat) : Int) by omega]
        rw [if_pos (Nat.le_trans (by simp only [List.length_cons, List.length_nil]; omega : _ ≤ 1000001) (by decide))]
      rw [hst, hl]
      rw [hl, List.length_cons] at hc
      have ih := list_in (fu := fu) hs hi (c - 1) (2 ^ t * (2 * q)) k (acc ++ [((64 * i + t : Nat) : Int)]) hlt (by omega) (by omega) (by simp only [List.length_append, List.length_cons, List.length_nil]; omega)
      simp only
      rw [ih]
      simp
theorem els_add (f : Nat → Bool) (m n : Nat) : els (m + n) f = els m f ++ ((List.range n).filter fun k => f (m + k)).map fun k => ((m + k : Nat) : Int) := by
  unfold els
  rw [List.range_add, List.filter_append, List.map_append, List.filter_map, List.map_map]
  rfl
theorem els_len (n : Nat) (f : Nat → Bool) : (els n f).length = cnt f n := by simp [els, cnt]
theorem els_low {f : Nat → Bool} {n m : Nat} (h : Low n f) (hm : n ≤ m) : els m f = els n f := by
  obtain ⟨k, rfl⟩ : ∃ k, m = n + k := ⟨m - n, by omega⟩
  rw [els_add]
  have : (List.range k).filter (fun k => f (n + k)) = [] := by
    rw [List.filter_eq_nil_iff]
    intro i _ hi
    have := h _ hi
    omega
  rw [this]
  simp
theorem cnt_le (f : Nat → Bool) (n : Nat) : cnt f n ≤ n := by
  unfold cnt
  exact Nat.le_trans (List.length_filter_le _ _) (by simp)
theorem list_eq {fu n : Nat} {f : Nat → Bool} (hn : n ≤ 100000) (hf : n + 64 < fu) (hlow : Low n f) : bits_Set_List.f fu (setOf n f) = some (els n f) := by
  unfold bits_Set_List.f
  have : loopM (bits_Set_List.s0 fu (setOf n f)) fu ([], 0) = some (els (64 * ((n + 63) / 64)) f) := by
    refine loopM_run (S := fun j => (els (64 * j) f, (j : Int))) ((n + 63) / 64) (by simp [els]) ?_ ?_ (by omega)
    · intro j hj
      unfold bits_Set_List.s0
      have hw : (setOf n f).words = wordsOf f ((n + 63) / 64) := rfl
      have c1 : 0 ≤ (j : Int) ∧ (j : Int) < ((wordsOf f ((n + 63) / 64)).length : Int) := by rw [words_len]; omega
      simp only [hw]
      have hb : ((List.range 64).filter fun r => (wordAt f j).testBit r) = (List.range 64).filter fun r => f (64 * j + r) := by
        apply List.filter_congr
        intro r hr
        unfold wordAt
        rw [wdN_bit]
        simp [List.mem_range.1 hr]
      have hle : ((List.range 64).filter fun r => (wordAt f j).testBit r).length ≤ 64 := Nat.le_trans (List.length_filter_le _ _) (by simp)
      have hel : (els (64 * j) f).length ≤ 64 * j := by rw [els_len]; exact cnt_le _ _
      rw [decide_eq_true c1.2, if_pos rfl, if_pos c1, words_ix hj, list_in (fu := fu) (i := j) (s := (els (64 * j) f, (j : Int))) rfl (by omega) _ (wordAt f j) fu (els (64 * j) f) (wdN_lt _ 64) rfl (by omega) (by omega), next64 hj (by omega)]
      simp only [Option.bind_some]
      rw [hb, ← els_add, show 64 * j + 64 = 64 * (j + 1) by omega]
    · unfold bits_Set_List.s0
      have hw : (setOf n f).words = wordsOf f ((n + 63) / 64) := rfl
      simp only [hw]
      rw [words_len, decide_eq_false (by omega), if_neg (by decide)]
  rw [this, els_low hlow (by omega)]
  rfl
theorem mem_els {n k : Nat} {f : Nat → Bool} : (k : Int) ∈ els n f ↔ k < n ∧ f k = true := by
  unfold els
  rw [List.mem_map]
  constructor
  · rintro ⟨i, hi, e⟩
    have : i = k := by omega
    subst this
    obtain ⟨h1, h2⟩ := List.mem_filter.1 hi
    exact ⟨List.mem_range.1 h1, h2⟩
  · rintro ⟨h1, h2⟩
    exact ⟨k, List.mem_filter.2 ⟨List.mem_range.2 h1, h2⟩, rfl⟩
theorem clone_eq {fu n : Nat} {f : Nat → Bool} (hn : n ≤ 100000) : bits_Set_clone.f fu (setOf n f) = some (setOf n f) := by
  unfold bits_Set_clone.f slices_Clone.f
  rw [show (setOf n f).words = wordsOf f ((n + 63) / 64) from rfl, words_len, if_pos (Nat.le_trans (by omega : _ ≤ 1000000) (by decide))]
  rfl
theorem with_eq {fu n : Nat} {f g : Nat → Bool} (hn : n ≤ 90000) (hf : n + 64 < fu) (hg : Low n g) : bits_Set_With.f fu (setOf n f) (setOf n g) = some (setOf n fun k => f k || g k) := by
  unfold bits_Set_With.f
  have hl := cnt_le g n
  rw [clone_eq (by omega), list_eq (by omega) hf hg]
  simp only [Option.bind_some]
  rw [add_eq (by omega) (by rw [els_len]; omega) (by rw [els_len]; omega)]
  refine congrArg some (set_congr fun k => ?_)
  unfold addF
  congr 1
  rw [Bool.eq_iff_iff]
  simp only [Bool.and_eq_true, decide_eq_true_eq, mem_els]
  exact ⟨fun h => h.2.2, fun h => ⟨hg k h, hg k h, h⟩⟩
theorem with1_eq {fu n : Nat} {f : Nat → Bool} (hn : n ≤ 90000) (hf : n + 64 < fu) (hg : Low n f) : bits_Set_With_a1.f fu (setOf n f) = some (setOf n f) := by
  have h := with_eq (fu := fu) (f := f) hn hf hg
  unfold bits_Set_With.f at h
  unfold bits_Set_With_a1.f
  rw [h]
  refine congrArg some (set_congr fun k => ?_)
  simp
theorem gap_eq {fu n k : Nat} {f : Nat → Bool} (hn : n ≤ 100000) (hf : n < fu) (hk : k < n) (h0 : f k = false) (h1 : ∀ i, i < k → f i = true) : bits_Set_Gap.f fu (setOf n f) 0 = some (k : Int) := by
  unfold bits_Set_Gap.f
  have : loopM (bits_Set_Gap.s0 fu (setOf n f)) fu (mxI 0 0) = some (.inl (k : Int)) := by
    refine loopM_run (S := fun j => ((j : Nat) : Int)) k (by rfl) ?_ ?_ (by omega)
    · intro j hj
      unfold bits_Set_Gap.s0
      rw [show (setOf n f).size = (n : Int) from rfl, decide_eq_true (by omega), if_pos rfl, has_eq hn, next64 (n := n) (by omega) hn]
      have : hasI n f (j : Int) = true := by
        unfold hasI
        rw [decide_eq_true (by omega), decide_eq_true (by omega), Int.toNat_natCast, h1 j hj]
        rfl
      simp [this]
    · unfold bits_Set_Gap.s0
      rw [show (setOf n f).size = (n : Int) from rfl, decide_eq_true (by omega), if_pos rfl, has_eq hn]
      have : hasI n f (k : Int) = false := by
        unfold hasI
        rw [Int.toNat_natCast, h0]
        simp
      simp [this]
  rw [this]
  rfl
theorem of_eq {fu n : Nat} {l : List Int} (hn : n ≤ 3072) (hl : l.length ≤ 100000) (hf : l.length < fu) : bits_Of.f fu (n : Int) l = some (setOf n (addF n (fun _ => false) l)) := by
  unfold bits_Of.f
  have e1 : mnI (mxI (n : Int) 0) 3072 = (n : Int) := by
    unfold mxI mnI
    rw [if_neg (by omega)]
    split <;> omega
  have e2 : IntKind.i64.wrap (Int.tdiv (IntKind.i64.wrap ((IntKind.i64.wrap ((n : Int) + 64)) - 1)) 64) = (((n + 63) / 64 : Nat) : Int) := by
    rw [w64 (n := (n : Int) + 64) (by omega) (by omega), w64 (n := (n : Int) + 64 - 1) (by omega) (by omega), show (n : Int) + 64 - 1 = ((n + 63 : Nat) : Int) by omega, tdiv64, w64 (by omega) (by omega)]
  rw [e1, e2, if_pos ⟨by omega, Nat.le_trans (by omega : _ ≤ 100000) (by decide)⟩, Int.toNat_natCast]
  have e3 : (⟨(n : Int), List.replicate ((n + 63) / 64) (0 : Int)⟩ : S_bits_Set) = setOf n fun _ => false := by
    unfold setOf
    congr 1
    apply List.ext_getElem (by simp [wordsOf])
    intro i h1 h2
    have : wordAt (fun _ => false) i = 0 := by
      apply Nat.eq_of_testBit_eq
      intro k
      unfold wordAt
      rw [wdN_bit]
      simp
    simp [wordsOf, this]
  rw [e3, add_eq (by omega) hl hf]
  rfl
structure AA where
  r : Int
  c : Nat → Bool
  e : Nat → Bool
  m : Nat → Bool
  w : Nat → Bool
noncomputable def AA.of (n : Nat) (a : AA) : S_alloc_Alloc := ⟨a.r, (setOf n a.c, setOf n a.e, setOf n a.m, setOf n a.w)⟩
structure AOk (n : Nat) (a : AA) : Prop where
  c : Low n a.c
  e : Low n a.e
  m : Low n a.m
  w : Low n a.w
  r : 0 ≤ a.r ∧ a.r ≤ 1000
def AA.held (a : AA) : Nat → Bool := fun k => ((a.w k || a.c k) || a.e k) || a.m k
def AA.free (n : Nat) (a : AA) : List Nat := (List.range n).filter fun k => !a.held k
def AA.least (n : Nat) (a : AA) : Nat := (a.free n).headD 0
def AA.setW (a : AA) (w : Nat → Bool) : AA := ⟨a.r, a.c, a.e, a.m, w⟩
def AA.put (n : Nat) (a : AA) (k : Nat) : AA := a.setW (addF n a.w [(k : Int)])
def AA.cut (a : AA) (k : Int) : AA := a.setW (dropF a.w [k])
def AA.mark (a : AA) : AA := ⟨a.r, a.c, a.e, a.w, a.w⟩
def AA.give (n : Nat) (a : AA) (k : Int) : Int × AA := if hasI n a.w k = true then (0, a.cut k) else (2, a)
def AA.own (n : Nat) (a : AA) (k : Int) : Bool := hasI n a.w k && !hasI n a.m k
def AA.take (n : Nat) (a : AA) : Int × Int × AA := if ((a.free n).length : Int) ≤ a.r then (0, 10, a) else ((a.least n : Int), 0, a.put n (a.least n))
theorem copied_eq {fu n : Nat} {f : Nat → Bool} (hn : n ≤ 90000) (hf : n + 64 < fu) (h : Low n f) : alloc_copied.f fu (setOf n f) = some (setOf n f) := by
  unfold alloc_copied.f
  rw [with1_eq hn hf h]
  rfl
theorem Low.or {n : Nat} {f g : Nat → Bool} (hf : Low n f) (hg : Low n g) : Low n (fun k => f k || g k) := by
  intro k h
  rcases Bool.or_eq_true_iff.1 h with h | h
  · exact hf k h
  · exact hg k h
theorem addF_low {n : Nat} {f : Nat → Bool} {l : List Int} (h : Low n f) : Low n (addF n f l) := by
  intro k hk
  unfold addF at hk
  rcases Bool.or_eq_true_iff.1 hk with h' | h'
  · exact h k h'
  · exact of_decide_eq_true (Bool.and_eq_true_iff.1 h').1
theorem dropF_low {n : Nat} {f : Nat → Bool} {l : List Int} (h : Low n f) : Low n (dropF f l) := fun k hk => h k (Bool.and_eq_true_iff.1 hk).1
theorem held_low {n : Nat} {a : AA} (h : AOk n a) : Low n a.held := ((h.w.or h.c).or h.e).or h.m
theorem held_eq {fu n : Nat} {a : AA} (hn : n ≤ 90000) (hf : n + 64 < fu) (h : AOk n a) : alloc_Alloc_held.f fu (a.of n) = some (setOf n a.held) := by
  unfold alloc_Alloc_held.f AA.of
  simp only
  rw [copied_eq hn hf h.w]
  simp only [Option.bind_some]
  rw [with_eq hn hf h.c]
  simp only [Option.bind_some]
  rw [with_eq hn hf h.e]
  simp only [Option.bind_some]
  rw [with_eq hn hf h.m]
  rfl
theorem cnt_not (f : Nat → Bool) : ∀ n, cnt f n + ((List.range n).filter fun k => !f k).length = n
  | 0 => rfl
  | n + 1 => by
    have := cnt_not f n
    unfold cnt at *
    rw [List.range_succ, List.filter_append, List.filter_append, List.length_append, List.length_append]
    cases h : f n <;> simp [h] <;> omega
theorem free_len (n : Nat) (a : AA) : ((a.free n).length : Int) = (n : Int) - ((cnt a.held n : Nat) : Int) := by
  have := cnt_not a.held n
  unfold AA.free
  omega
theorem filter_head {p : Nat → Bool} : ∀ {n : Nat}, ((List.range n).filter p).length ≠ 0 → ((List.range n).filter p).headD 0 < n ∧ p (((List.range n).filter p).headD 0) = true ∧ ∀ i, i < ((List.range n).filter p).headD 0 → p i = false
  | 0, h => absurd rfl h
  | n + 1, h => by
    rw [List.range_succ, List.filter_append] at h ⊢
    cases e : (List.range n).filter p with
    | nil =>
      rw [e] at h
      have hn : ∀ i, i < n → p i = false := by
        intro i hi
        have := List.filter_eq_nil_iff.1 e i (List.mem_range.2 hi)
        simpa using this
      cases hp : p n
      · simp [hp] at h
      · have e2 : [n].filter p = [n] := by simp [hp]
        rw [e2]
        exact ⟨by simp, hp, hn⟩
    | cons x l =>
      have := filter_head (p := p) (n := n) (by rw [e]; simp)
      rw [e] at this
      simp only [List.headD_cons, List.cons_append] at this ⊢
      exact ⟨by omega, this.2⟩
theorem least_ok {n : Nat} {a : AA} (h : (a.free n).length ≠ 0) : a.least n < n ∧ a.held (a.least n) = false ∧ ∀ i, i < a.least n → a.held i = true := by
  have := filter_head (p := fun k => !a.held k) (n := n) h
  simpa [AA.least, AA.free] using this
theorem take_eq {fu n : Nat} {a : AA} (hn : n ≤ 90000) (hf : n + 64 < fu) (h : AOk n a) : alloc_Alloc_Take.f fu (a.of n) = some ((a.take n).1, (a.take n).2.1, (a.take n).2.2.of n) := by
  have hr := h.r
  have hc := cnt_le a.held n
  have hfl := free_len n a
  unfold alloc_Alloc_Take.f alloc_Alloc_take.f
  rw [held_eq hn hf h]
  simp only [Option.bind_some, bits_Set_Size.f]
  rw [count_eq (by omega) (by omega) (held_low h)]
  simp only [Option.bind_some]
  rw [show (setOf n a.held).size = (n : Int) from rfl, w64 (by omega) (by omega), ← hfl, show (a.of n).reserve = a.r from rfl]
  unfold AA.take
  by_cases e : ((a.free n).length : Int) ≤ a.r
  · rw [decide_eq_true e, if_pos rfl, if_pos e]
    rfl
  · rw [decide_eq_false e, if_neg (by decide), if_neg e]
    obtain ⟨h1, h2, h3⟩ := least_ok (n := n) (a := a) (by omega)
    rw [gap_eq (by omega) (by omega) h1 h2 h3]
    simp only [Option.bind_some]
    rw [show (a.of n).sets.2.2.2 = setOf n a.w from rfl, add_eq (by omega) (by simp) (by simp; omega)]
    rfl
theorem give_eq {fu n : Nat} {a : AA} {k : Int} (hn : n ≤ 90000) (hf : n + 64 < fu) (h : AOk n a) : alloc_Alloc_Give.f fu (a.of n) k = some ((a.give n k).1, (a.give n k).2.of n) := by
  unfold alloc_Alloc_Give.f AA.give
  rw [show (a.of n).sets.2.2.2 = setOf n a.w from rfl, has_eq (by omega)]
  simp only [Option.bind_some]
  cases hasI n a.w k
  · rfl
  · rw [if_neg (by decide), if_pos rfl, dropp_eq (by omega) (by simp) (by simp; omega) h.w]
    rfl
theorem own_eq {fu n : Nat} {a : AA} {k : Int} (hn : n ≤ 90000) : alloc_Alloc_Own.f fu (a.of n) k = some (a.own n k) := by
  unfold alloc_Alloc_Own.f AA.own
  rw [show (a.of n).sets.2.2.2 = setOf n a.w from rfl, show (a.of n).sets.2.2.1 = setOf n a.m from rfl, has_eq (by omega)]
  simp only [Option.bind_some]
  cases hasI n a.w k
  · rfl
  · rw [if_pos rfl, has_eq (by omega)]
    rfl
theorem mark_eq {fu n : Nat} {a : AA} (hn : n ≤ 90000) (hf : n + 64 < fu) (h : AOk n a) : alloc_Alloc_Mark.f fu (a.of n) = some (a.mark.of n) := by
  unfold alloc_Alloc_Mark.f alloc_Alloc_become_c2_c3.f
  rw [show (a.of n).sets.2.2.2 = setOf n a.w from rfl, copied_eq hn hf h.w]
  rfl
theorem works_eq {fu n : Nat} {a : AA} (hn : n ≤ 90000) (hf : n + 64 < fu) (h : AOk n a) : alloc_Alloc_Works.f fu (a.of n) = some (setOf n a.w) := by
  unfold alloc_Alloc_Works.f
  rw [show (a.of n).sets.2.2.2 = setOf n a.w from rfl, copied_eq hn hf h.w]
  rfl
theorem anew_eq {fu n : Nat} {f g : Nat → Bool} {r : Int} (hn : n ≤ 90000) (hf : n + 64 < fu) (h1 : Low n f) (h2 : Low n g) (hr : 0 ≤ r) : alloc_New.f fu (setOf n f) (setOf n g) r = some (some ((⟨r, f, g, f, f⟩ : AA).of n), 0) := by
  unfold alloc_New.f bits_Set_Size.f
  simp only [Option.bind_some]
  rw [show (setOf n f).size = (n : Int) from rfl, show (setOf n g).size = (n : Int) from rfl, decide_eq_true (rfl : (n : Int) = (n : Int)), if_neg (by decide), decide_eq_false (show ¬ r < 0 by omega), if_neg (by decide), copied_eq hn hf h2, copied_eq hn hf h1]
  rfl
theorem take_ok {n : Nat} {a : AA} (h : AOk n a) : AOk n (a.take n).2.2 := by
  unfold AA.take
  split
  · exact h
  · exact ⟨h.c, h.e, h.m, addF_low h.w, h.r⟩
theorem give_ok {n : Nat} {a : AA} {k : Int} (h : AOk n a) : AOk n (a.give n k).2 := by
  unfold AA.give
  split
  · exact ⟨h.c, h.e, h.m, dropF_low h.w, h.r⟩
  · exact h
theorem mark_ok {n : Nat} {a : AA} (h : AOk n a) : AOk n a.mark := ⟨h.c, h.e, h.w, h.w, h.r⟩
def upd {α : Type} (g : Nat → α → α) (lo j : Nat) (cs : List α) : List α := cs.mapIdx fun i c => if lo ≤ i ∧ i < lo + j then g i c else c
theorem upd_len {α : Type} (g : Nat → α → α) (lo j : Nat) (cs : List α) : (upd g lo j cs).length = cs.length := by simp [upd]
theorem upd_zero {α : Type} (g : Nat → α → α) (lo : Nat) (cs : List α) : upd g lo 0 cs = cs := by
  apply List.ext_getElem (by simp [upd])
  intro i h1 h2
  simp only [upd, List.getElem_mapIdx]
  rw [if_neg (by omega)]
theorem upd_get {α : Type} (g : Nat → α → α) (lo j : Nat) (cs : List α) (i : Nat) (h : i < (upd g lo j cs).length) : (upd g lo j cs)[i] = if lo ≤ i ∧ i < lo + j then g i (cs[i]'(by simpa [upd] using h)) else cs[i]'(by simpa [upd] using h) := by
  simp only [upd, List.getElem_mapIdx]
theorem upd_next {α : Type} (g : Nat → α → α) (lo j : Nat) (cs : List α) (h : lo + j < cs.length) : (upd g lo j cs)[lo + j]'(by rw [upd_len]; exact h) = cs[lo + j] := by
  rw [upd_get, if_neg (by omega)]
theorem upd_set {α : Type} (g : Nat → α → α) (lo j : Nat) (cs : List α) (h : lo + j < cs.length) : (upd g lo j cs).set (lo + j) (g (lo + j) cs[lo + j]) = upd g lo (j + 1) cs := by
  apply List.ext_getElem (by simp [upd])
  intro i h1 h2
  rw [List.getElem_set, upd_get g lo (j + 1)]
  by_cases e : lo + j = i
  · subst e
    rw [if_pos rfl, if_pos (by omega)]
  · rw [if_neg e, upd_get]
    by_cases c : lo ≤ i ∧ i < lo + j
    · rw [if_pos c, if_pos (by omega)]
    · rw [if_neg c, if_neg (by omega)]
theorem upd_same {α : Type} (g : Nat → α → α) (lo j : Nat) (cs : List α) (h : lo + j < cs.length) (e : g (lo + j) cs[lo + j] = cs[lo + j]) : upd g lo j cs = upd g lo (j + 1) cs := by
  apply List.ext_getElem (by simp [upd])
  intro i h1 h2
  rw [upd_get g lo j, upd_get g lo (j + 1)]
  by_cases e' : lo + j = i
  · subst e'
    rw [if_neg (by omega), if_pos (by omega), e]
  · by_cases c : lo ≤ i ∧ i < lo + j
    · rw [if_pos c, if_pos (by omega)]
    · rw [if_neg c, if_neg (by omega)]
theorem getD_set {α : Type} (cs : List α) (i k : Nat) (v d : α) (hi : i < cs.length) : (cs.set i v).getD k d = if i = k then v else cs.getD k d := by
  simp only [List.getD_eq_getElem?_getD, List.getElem?_set]
  by_cases h : i = k
  · subst h
    simp [hi]
  · simp [h]
abbrev Cell := S_pmem_cell
abbrev Dev := S_pmem_Device
def keepC (c : Cell) (w : Int) : Cell := ⟨w, c.stored, 0, false⟩
def evict (p : Int) (cs : List Cell) : List Cell := cs.mapIdx fun i c => if 0 ≤ p ∧ (i : Int) = p % (cs.length : Int) then keepC c c.stored else c
def pick (p : S_pmem_plan) : Int := if p.list.length = 0 then -1 else ix p.list p.at_
def nextP (p : S_pmem_plan) : S_pmem_plan := if p.list.length = 0 then p else ⟨p.list, (p.at_ + 1) % (p.list.length : Int)⟩
def tick (d : Dev) : Dev := ⟨evict (pick d.plan) d.cells, nextP d.plan, if d.armed then decide (d.left - 1 = 0) else d.off, d.armed, if d.armed then d.left - 1 else d.left, d.steps + 1⟩
def mayI (off : Bool) (k n : Int) : Int := if off = true then 3 else if k < 0 ∨ k ≥ n then 2 else 0
def putC (k w : Int) (cs : List Cell) : List Cell := cs.mapIdx fun i c => if (i : Int) = k then ⟨c.lasts, w, c.sent, c.flushed⟩ else c
def sendC (c : Cell) : Cell := ⟨c.lasts, c.stored, c.stored, true⟩
def sendL (k : Int) (cs : List Cell) : List Cell := cs.mapIdx fun i c => if 8 * k ≤ (i : Int) ∧ (i : Int) < 8 * k + 8 then sendC c else c
def withC (d : Dev) (cs : List Cell) : Dev := ⟨cs, d.plan, d.off, d.armed, d.left, d.steps⟩
def storeD (d : Dev) (k w : Int) : Int × Dev := if mayI d.off k (d.cells.length : Int) = 0 then (0, tick (withC d (putC k w d.cells))) else (mayI d.off k (d.cells.length : Int), d)
def loadD (d : Dev) (k : Int) : Int × Int := if mayI d.off k (d.cells.length : Int) = 0 then ((ix d.cells k).stored, 0) else (0, mayI d.off k (d.cells.length : Int))
def flushD (d : Dev) (k : Int) : Int × Dev := if mayI d.off k ((d.cells.length / 8 : Nat) : Int) = 0 then (0, tick (withC d (sendL k d.cells))) else (mayI d.off k ((d.cells.length / 8 : Nat) : Int), d)
def I64 (x : Int) : Prop := -9223372036854775808 ≤ x ∧ x ≤ 9223372036854775807
def U64 (x : Int) : Prop := 0 ≤ x ∧ x ≤ 18446744073709551615
def okC (c : Cell) : Prop := U64 c.lasts ∧ U64 c.stored ∧ U64 c.sent
structure DevOk (n : Nat) (B : Int) (d : Dev) : Prop where
  len : d.cells.length = n
  val : ∀ c ∈ d.cells, okC c
  at0 : d.plan.list.length ≠ 0 → 0 ≤ d.plan.at_ ∧ d.plan.at_ < (d.plan.list.length : Int)
  pl : d.plan.list.length ≤ 1000
  arm : d.armed = true → 0 ≤ d.left ∧ d.left ≤ 9223372036854775807 ∧ d.off = decide (d.left = 0)
  una : d.armed = false → d.off = false
  st : 0 ≤ d.steps ∧ d.steps ≤ B
theorem ix_set {α : Type} [Inhabited α] {l : List α} {k : Nat} {v : α} (h : k < l.length) : ix (l.set k v) (k : Int) = v := by
  rw [ix_nat (by simpa using h)]
  simp
theorem updR_nat {α : Type} [Inhabited α] {l : List α} {k : Nat} {f : α → α} : updR l (k : Int) f = l.set k (f (ix l (k : Int))) := by
  unfold updR
  rw [Int.toNat_natCast]
theorem keep_eq {fu k : Nat} {l : List Cell} {w : Int} (h : k < l.length) : pmem_cell_keep__i0.f fu l (k : Int) w = some (l.set k (keepC (ix l (k : Int)) w)) := by
  unfold pmem_cell_keep__i0.f
  simp only [updR_nat, List.set_set, ix_set h, keepC]
theorem pnext_eq {fu : Nat} {d : Dev} (h0 : d.plan.list.length ≠ 0 → 0 ≤ d.plan.at_ ∧ d.plan.at_ < (d.plan.list.length : Int)) (hl : d.plan.list.length ≤ 1000) : pmem_plan_next__i0_1.f fu d = some (pick d.plan, ⟨d.cells, nextP d.plan, d.off, d.armed, d.left, d.steps⟩) := by
  unfold pmem_plan_next__i0_1.f pick nextP
  by_cases e : d.plan.list.length = 0
  · have e' : (d.plan.list.length : Int) = 0 := by omega
    rw [decide_eq_true e', if_pos rfl, if_pos e, if_pos e]
  · have e' : ¬ (d.plan.list.length : Int) = 0 := by omega
    have h := h0 e
    rw [decide_eq_false e', if_neg (by decide), if_pos h, if_pos e', if_neg e, if_neg e, w64 (by omega) (by omega), Int.tmod_eq_emod_of_nonneg (by omega)]
theorem set_upd {cs : List Cell} {k : Nat} (g : Cell → Cell) (hk : k < cs.length) : cs.set k (g (ix cs (k : Int))) = cs.mapIdx fun i c => if i = k then g c else c := by
  rw [ix_nat hk]
  apply List.ext_getElem (by simp)
  intro i h1 h2
  rw [List.getElem_set, List.getElem_mapIdx]
  by_cases e : k = i
  · subst e
    simp
  · rw [if_neg e, if_neg (fun q => e q.symm)]
theorem evict_no {p : Int} (cs : List Cell) (h : ¬ 0 ≤ p) : evict p cs = cs := by
  apply List.ext_getElem (by simp [evict])
  intro i h1 h2
  simp only [evict, List.getElem_mapIdx]
  rw [if_neg fun q => h q.1]
theorem dstep_eq {fu n : Nat} {B : Int} {d : Dev} (h : DevOk n B d) (hB : B < 9223372036854775807) (ho : d.off = false) : pmem_Device_step.f fu d = some (tick d) := by
  unfold pmem_Device_step.f
  have hs := h.st
  have w1 : IntKind.i64.wrap (d.steps + 1) = d.steps + 1 := w64 (by omega) (by omega)
  rw [pnext_eq (d := ⟨d.cells, d.plan, d.off, d.armed, d.left, IntKind.i64.wrap (d.steps + 1)⟩) h.at0 h.pl, w1]
  simp only [Option.bind_some]
  have hc : ∀ q, q = pick d.plan → q ≥ 0 → ((if (decide ((List.length d.cells : Int) > 0)) = true then if (List.length d.cells : Int) ≠ 0 then if 0 ≤ (Int.tmod q (List.length d.cells : Int)) ∧ (Int.tmod q (List.length d.cells : Int)) < (List.length d.cells : Int) then ((pmem_cell_keep__i0.f fu d.cells (Int.tmod q (List.length d.cells : Int)) ((ix d.cells (Int.tmod q (List.length d.cells : Int))).stored) : Option (List S_pmem_cell)).bind fun t8 => some (t8)) else none else none else some (d.cells)) : Option (List S_pmem_cell)) = some (evict q d.cells) := by
    intro q _ hq
    by_cases hl : (List.length d.cells : Int) > 0
    · rw [decide_eq_true hl, Int.tmod_eq_emod_of_nonneg hq]
      have hm0 := Int.emod_nonneg q (show (List.length d.cells : Int) ≠ 0 by omega)
      have hm1 := Int.emod_lt_of_pos q hl
      have e1 : (List.length d.cells : Int) ≠ 0 := by omega
      obtain ⟨k, hk⟩ : ∃ k : Nat, q % (List.length d.cells : Int) = (k : Int) := ⟨(q % (List.length d.cells : Int)).toNat, by omega⟩
      have hkl : k < d.cells.length := by omega
      rw [if_pos rfl, if_pos e1, if_pos ⟨hm0, hm1⟩, hk, keep_eq hkl]
      simp only [Option.bind_some]
      refine congrArg some ((set_upd (fun c => keepC c c.stored) hkl).trans ?_)
      apply List.ext_getElem (by simp [evict])
      intro i h1 h2
      simp only [evict, List.getElem_mapIdx, hk]
      by_cases e : i = k
      · rw [if_pos e, if_pos ⟨hq, by omega⟩]
      · rw [if_neg e, if_neg fun z => e (by omega)]
    · have : d.cells = [] := List.length_eq_zero_iff.1 (by omega)
      rw [this]
      simp [evict]
  have hd : ∀ (r : List Cell), ((((if d.armed = true then some ((decide ((IntKind.i64.wrap (d.left - 1)) = 0)), (IntKind.i64.wrap (d.left - 1))) else some (d.off, d.left)) : Option (Bool × Int)).bind fun x45 => some ((⟨r, nextP d.plan, x45.1, d.armed, x45.2, (d.steps + 1)⟩ : S_pmem_Device))) : Option Dev) = some ⟨r, nextP d.plan, if d.armed then decide (d.left - 1 = 0) else d.off, d.armed, if d.armed then d.left - 1 else d.left, d.steps + 1⟩ := by
    intro r
    cases ha : d.armed
    · simp
    · have := h.arm ha
      rw [ho] at this
      have : d.left ≠ 0 := by
        intro e
        rw [e] at this
        exact absurd this.2.2 (by decide)
      rw [w64 (by omega) (by omega)]
      simp
  by_cases hq : pick d.plan ≥ 0
  · rw [decide_eq_true hq, if_pos rfl, hc _ rfl hq]
    simp only [Option.bind_some]
    exact hd _
  · rw [decide_eq_false hq, if_neg (by decide)]
    have := hd d.cells
    rw [this]
    unfold tick
    rw [evict_no _ hq]
theorem evict_len (p : Int) (cs : List Cell) : (evict p cs).length = cs.length := by simp [evict]
theorem keep_ok {c : Cell} {w : Int} (h : okC c) (hw : U64 w) : okC (keepC c w) := ⟨hw, h.2.1, by unfold U64; simp [keepC]⟩
theorem mapIdx_ok {cs : List Cell} {g : Nat → Cell → Cell} (h : ∀ c ∈ cs, okC c) (hg : ∀ i c, okC c → okC (g i c)) : ∀ c ∈ cs.mapIdx g, okC c := by
  intro c hc
  obtain ⟨i, hi, rfl⟩ := List.getElem_of_mem hc
  rw [List.getElem_mapIdx]
  exact hg _ _ (h _ (List.getElem_mem _))
theorem evict_ok {p : Int} {cs : List Cell} (h : ∀ c ∈ cs, okC c) : ∀ c ∈ evict p cs, okC c := by
  refine mapIdx_ok h fun i c hc => ?_
  split
  · exact keep_ok hc hc.2.1
  · exact hc
theorem tick_ok {n : Nat} {B : Int} {d : Dev} (h : DevOk n B d) (ho : d.off = false) : DevOk n (B + 1) (tick d) := by
  refine ⟨?_, ?_, ?_, ?_, ?_, ?_, ?_⟩
  · exact (evict_len _ _).trans h.len
  · exact evict_ok h.val
  · intro e
    by_cases z : d.plan.list.length = 0
    · exact absurd (by simp [tick, nextP, z]) e
    · have : (tick d).plan = ⟨d.plan.list, (d.plan.at_ + 1) % (d.plan.list.length : Int)⟩ := by simp [tick, nextP, z]
      rw [this]
      exact ⟨Int.emod_nonneg _ (by omega), Int.emod_lt_of_pos _ (by omega)⟩
  · by_cases z : d.plan.list.length = 0
    · simp [tick, nextP, z]
    · simp only [tick, nextP, z, if_false]
      exact h.pl
  · intro ha
    have ha' : d.armed = true := ha
    have := h.arm ha'
    have hl : d.left ≠ 0 := by
      intro e
      rw [e, ho] at this
      exact absurd this.2.2 (by decide)
    simp only [tick, ha', if_true]
    exact ⟨by omega, by omega, trivial⟩
  · intro ha
    have ha' : d.armed = false := ha
    simp only [tick, ha', Bool.false_eq_true, if_false]
    exact h.una ha'
  · have := h.st
    simp only [tick]
    omega
theorem DevOk.up {n : Nat} {B C : Int} {d : Dev} (h : DevOk n B d) (hc : B ≤ C) : DevOk n C d := ⟨h.len, h.val, h.at0, h.pl, h.arm, h.una, ⟨h.st.1, by have := h.st; omega⟩⟩
theorem with_ok {n : Nat} {B : Int} {d : Dev} (h : DevOk n B d) {cs : List Cell} (hl : cs.length = n) (hv : ∀ c ∈ cs, okC c) : DevOk n B (withC d cs) := ⟨hl, hv, h.at0, h.pl, h.arm, h.una, h.st⟩
theorem may_eq {fu : Nat} {d : Dev} {k m : Int} : pmem_Device_may.f fu d k m = some (mayI d.off k m) := by
  unfold pmem_Device_may.f mayI
  cases d.off
  · simp only [Bool.false_eq_true, if_false]
    by_cases h1 : k < 0
    · simp [h1]
    · by_cases h2 : k ≥ m <;> simp [h1, h2]
  · simp
theorem may_zero {b : Bool} {k m : Int} : mayI b k m = 0 ↔ b = false ∧ 0 ≤ k ∧ k < m := by
  unfold mayI
  cases b
  · simp only [Bool.false_eq_true, if_false]
    split <;> simp <;> omega
  · simp
theorem store_eq {fu n : Nat} {B k w : Int} {d : Dev} (h : DevOk n B d) (hB : B < 9223372036854775807) (hw : U64 w) : pmem_Device_Store.f fu d k w = some (storeD d k w) := by
  unfold pmem_Device_Store.f storeD
  rw [may_eq]
  simp only [Option.bind_some]
  by_cases e : mayI d.off k (d.cells.length : Int) = 0
  · obtain ⟨ho, h0, h1⟩ := may_zero.1 e
    rw [decide_eq_true e, if_pos e, if_neg (by decide), if_pos ⟨h0, h1⟩]
    obtain ⟨j, rfl⟩ : ∃ j : Nat, k = (j : Int) := ⟨k.toNat, by omega⟩
    have e1 : (updR d.cells (j : Int) fun c => (⟨c.lasts, w, c.sent, c.flushed⟩ : S_pmem_cell)) = putC (j : Int) w d.cells := by
      rw [updR_nat]
      refine (set_upd (fun c => ⟨c.lasts, w, c.sent, c.flushed⟩) (by omega)).trans ?_
      apply List.ext_getElem (by simp [putC])
      intro i h1 h2
      simp only [putC, List.getElem_mapIdx, Int.natCast_inj]
    have e2 : pmem_Device_step.f fu (⟨putC (j : Int) w d.cells, d.plan, d.off, d.armed, d.left, d.steps⟩ : S_pmem_Device) = some (tick (withC d (putC (j : Int) w d.cells))) := by
      refine dstep_eq (with_ok h (by simp [putC, h.len]) (mapIdx_ok h.val fun i c hc => ?_)) hB ho
      split
      · exact ⟨hc.1, hw, hc.2.2⟩
      · exact hc
    rw [e1, e2]
    rfl
  · rw [decide_eq_false e, if_neg e, if_pos (by decide)]
theorem load_eq {fu : Nat} {k : Int} {d : Dev} : pmem_Device_Load.f fu d k = some (loadD d k) := by
  unfold pmem_Device_Load.f loadD
  rw [may_eq]
  simp only [Option.bind_some]
  by_cases e : mayI d.off k (d.cells.length : Int) = 0
  · obtain ⟨ho, h0, h1⟩ := may_zero.1 e
    rw [decide_eq_true e, if_pos e, if_neg (by decide), if_pos ⟨h0, h1⟩]
  · rw [decide_eq_false e, if_neg e, if_pos (by decide)]
theorem lines_eq {fu : Nat} {d : Dev} (h : d.cells.length ≤ 1000000) : pmem_Device_Lines.f fu d = some ((d.cells.length / 8 : Nat) : Int) := by
  unfold pmem_Device_Lines.f
  rw [Int.tdiv_eq_ediv_of_nonneg (by omega), w64 (by omega) (by omega)]
  congr 1
theorem send_loop {fu : Nat} {cs : List Cell} {k : Nat} (h : 8 * k + 8 ≤ cs.length) (hl : cs.length ≤ 1000000) (hf : 8 < fu) : loopM (pmem_Device_Flush.s0 fu (k : Int)) fu (0, cs) = some (sendL (k : Int) cs) := by
  refine loopM_run (S := fun j => ((j : Int), upd (fun _ c => sendC c) (8 * k) j cs)) 8 (by rw [upd_zero]; rfl) ?_ ?_ hf
  · intro j hj
    unfold pmem_Device_Flush.s0
    have w1 : IntKind.i64.wrap ((k : Int) * 8) = ((8 * k : Nat) : Int) := by rw [w64 (by omega) (by omega)]; omega
    have w2 : IntKind.i64.wrap (((8 * k : Nat) : Int) + (j : Int)) = ((8 * k + j : Nat) : Int) := by rw [w64 (by omega) (by omega)]; omega
    have w3 : IntKind.i64.wrap ((j : Int) + 1) = ((j + 1 : Nat) : Int) := by rw [w64 (by omega) (by omega)]; omega
    have hlt : 8 * k + j < (upd (fun _ c => sendC c) (8 * k) j cs).length := by rw [upd_len]; omega
    have c1 : 0 ≤ ((8 * k + j : Nat) : Int) ∧ ((8 * k + j : Nat) : Int) < ((upd (fun _ c => sendC c) (8 * k) j cs).length : Int) := by omega
    have c2 : (j : Int) < 8 := by omega
    simp only [w1, w2, w3]
    rw [decide_eq_true c2, if_pos rfl, if_pos c1]
    simp only [updR_nat, ix_set hlt, List.set_set]
    rw [ix_nat hlt, upd_next _ _ _ _ (by omega)]
    refine congrArg (fun z => some (Sum.inr (((j + 1 : Nat) : Int), z))) ?_
    exact upd_set (fun _ c => sendC c) (8 * k) j cs (by omega)
  · unfold pmem_Device_Flush.s0
    rw [decide_eq_false (show ¬ (((8 : Nat) : Int) < 8) by decide), if_neg (by decide)]
    refine congrArg (fun z => some (Sum.inl z)) ?_
    apply List.ext_getElem (by simp [upd, sendL])
    intro i h1 h2
    simp only [upd, sendL, List.getElem_mapIdx]
    by_cases c : 8 * k ≤ i ∧ i < 8 * k + 8
    · rw [if_pos c, if_pos (by omega)]
    · rw [if_neg c, if_neg (by omega)]
theorem sendL_ok {cs : List Cell} {k : Int} (h : ∀ c ∈ cs, okC c) : ∀ c ∈ sendL k cs, okC c := by
  refine mapIdx_ok h fun i c hc => ?_
  split
  · exact ⟨hc.1, hc.2.1, hc.2.1⟩
  · exact hc
theorem flush_eq {fu n : Nat} {B k : Int} {d : Dev} (h : DevOk n B d) (hB : B < 9223372036854775807) (hn : n ≤ 1000000) (hf : 8 < fu) : pmem_Device_Flush.f fu d k = some (flushD d k) := by
  unfold pmem_Device_Flush.f flushD
  have hl : d.cells.length ≤ 1000000 := by rw [h.len]; exact hn
  rw [lines_eq hl]
  simp only [Option.bind_some]
  rw [may_eq]
  simp only [Option.bind_some]
  by_cases e : mayI d.off k ((d.cells.length / 8 : Nat) : Int) = 0
  · obtain ⟨ho, h0, h1⟩ := may_zero.1 e
    rw [decide_eq_true e, if_pos e, if_neg (by decide)]
    obtain ⟨j, rfl⟩ : ∃ j : Nat, k = (j : Int) := ⟨k.toNat, by omega⟩
    rw [send_loop (by omega) hl hf]
    have e2 : pmem_Device_step.f fu (⟨sendL (j : Int) d.cells, d.plan, d.off, d.armed, d.left, d.steps⟩ : S_pmem_Device) = some (tick (withC d (sendL (j : Int) d.cells))) :=
      dstep_eq (with_ok h (by simp [sendL, h.len]) (sendL_ok h.val)) hB ho
    simp only [Option.bind_some]
    rw [e2]
    rfl
  · rw [decide_eq_false e, if_neg e, if_pos (by decide)]
def octs (ws : List Int) : List Int := ws.flatMap fun w => lay w.toNat 8
theorem octs_len : ∀ ws : List Int, (octs ws).length = 8 * ws.length
  | [] => rfl
  | w :: ws => by
    have := octs_len ws
    simp only [octs, List.flatMap_cons, List.length_append, lay_len, List.length_cons] at *
    omega
theorem octs_append (a b : List Int) : octs (a ++ b) = octs a ++ octs b := by simp [octs]
theorem octs_one (w : Int) : octs [w] = lay w.toNat 8 := by simp [octs]
theorem octets_eq {fu : Nat} {ws : List Int} (hv : ∀ w ∈ ws, U64 w) (hl : ws.length ≤ 100000) (hf : ws.length + 8 < fu) : octet_Octets.f fu ws = some (octs ws) := by
  unfold octet_Octets.f
  have : loopM (octet_Octets.s0 fu ws) fu ([], 0) = some (octs ws) := by
    refine loopM_run (S := fun j => (octs (ws.take j), (j : Int))) ws.length (by simp [octs]) ?_ ?_ (by omega)
    · intro j hj
      unfold octet_Octets.s0
      have w3 : IntKind.i64.wrap ((j : Int) + 1) = ((j + 1 : Nat) : Int) := by rw [w64 (by omega) (by omega)]; omega
      have c1 : 0 ≤ (j : Int) ∧ (j : Int) < (ws.length : Int) := by omega
      have hu := hv _ (List.getElem_mem hj)
      obtain ⟨v, hv'⟩ : ∃ v : Nat, ws[j] = (v : Int) := ⟨ws[j].toNat, by unfold U64 at hu; omega⟩
      simp only [w3]
      rw [decide_eq_true c1.2, if_pos rfl, if_pos c1, ix_nat hj, hv', show octet_Lay.f fu (v : Int) 8 = some (lay v 8) from olay_eq (n := 8) (by omega) (by omega)]
      simp only [Option.bind_some]
      rw [if_pos (by rw [octs_len, lay_len, List.length_take]; exact Nat.le_trans (by omega : _ ≤ 1000008) (by decide)), take_next hj, octs_append, octs_one, hv', Int.toNat_natCast]
    · unfold octet_Octets.s0
      rw [decide_eq_false (show ¬ ((ws.length : Int) < (ws.length : Int)) by omega), if_neg (by decide), List.take_length]
  rw [this]
  rfl
theorem set_next {l : List Int} {n j : Nat} {v : Int} (h : j < n) (hl : l.length = j) : (l ++ List.replicate (n - j) (0 : Int)).set j v = (l ++ [v]) ++ List.replicate (n - (j + 1)) (0 : Int) := by
  rw [List.set_append, if_neg (by omega), hl, Nat.sub_self, show n - j = n - (j + 1) + 1 from by omega, List.replicate_succ]
  simp
def storedD (d : Dev) : List Int := d.cells.map fun c => c.stored
theorem view_eq {fu n : Nat} {B : Int} {d : Dev} (h : DevOk n B d) (hn : n ≤ 100000) (hf : n + 8 < fu) : pmem_Device_View.f fu d = some (octs (storedD d)) := by
  unfold pmem_Device_View.f pmem_Device_octets_pmem_Device_View_1.f
  have hl := h.len
  rw [if_pos ⟨by omega, Nat.le_trans (by omega : _ ≤ 100000) (by decide)⟩]
  have : loopM (pmem_Device_octets_pmem_Device_View_1.s0 fu d) fu (0, (List.replicate (Int.toNat (List.length d.cells : Int)) (0 : Int))) = some (storedD d) := by
    refine loopM_run (S := fun j => ((j : Int), (storedD d).take j ++ List.replicate (d.cells.length - j) (0 : Int))) d.cells.length (by simp) ?_ ?_ (by omega)
    · intro j hj
      unfold pmem_Device_octets_pmem_Device_View_1.s0
      have w3 : IntKind.i64.wrap ((j : Int) + 1) = ((j + 1 : Nat) : Int) := by rw [w64 (by omega) (by omega)]; omega
      have hjl : j < (storedD d).length := by simpa [storedD] using hj
      have ht : ((storedD d).take j).length = j := by rw [List.length_take]; omega
      have c1 : 0 ≤ (j : Int) ∧ (j : Int) < (d.cells.length : Int) := by omega
      have c2 : 0 ≤ (j : Int) ∧ (j : Int) < (((storedD d).take j ++ List.replicate (d.cells.length - j) (0 : Int)).length : Int) := by
        rw [List.length_append, ht, List.length_replicate]
        omega
      simp only [w3]
      rw [decide_eq_true c1.2, if_pos rfl, if_pos c1]
      simp only [pmem_Device_View_1__i0.f, Option.bind_some, ix_nat hj]
      rw [if_pos c2, Int.toNat_natCast, set_next hj ht, take_next hjl]
      simp [storedD]
    · unfold pmem_Device_octets_pmem_Device_View_1.s0
      rw [decide_eq_false (show ¬ ((d.cells.length : Int) < (d.cells.length : Int)) by omega), if_neg (by decide), Nat.sub_self, List.take_of_length_le (by simp [storedD])]
      simp
  rw [this]
  simp only [Option.bind_some]
  rw [octets_eq (fun w hw => by
    obtain ⟨c, hc, rfl⟩ := List.mem_map.1 hw
    exact (h.val c hc).2.1) (by simp [storedD, hl, hn]) (by simp only [storedD, List.length_map]; omega)]
  rfl
def newD (n : Nat) : Dev := ⟨List.replicate n ⟨0, 0, 0, false⟩, ⟨[], 0⟩, false, false, 0, 0⟩
theorem new_eq {fu : Nat} {k : Nat} (hk : k ≤ 4096) : pmem_New.f fu (k : Int) = some (some (newD (8 * k)), 0) := by
  unfold pmem_New.f
  have h1 : ¬ (k : Int) < 0 := by omega
  have h2 : ¬ (k : Int) > 4096 := by omega
  have w : IntKind.i64.wrap ((k : Int) * 8) = ((8 * k : Nat) : Int) := by rw [w64 (by omega) (by omega)]; omega
  rw [decide_eq_false h1, decide_eq_false h2, if_neg (by decide), if_neg (by decide), w, Int.toNat_natCast, if_pos ⟨by omega, Nat.le_trans (by omega : _ ≤ 100000) (by decide)⟩]
  rfl
theorem newD_ok (n : Nat) : DevOk n 0 (newD n) := by
  refine ⟨by simp [newD], fun c hc => ?_, fun h => absurd rfl h, by simp [newD], fun h => (by cases h), fun _ => rfl, by simp [newD]⟩
  rw [List.eq_of_mem_replicate hc]
  unfold okC U64
  simp
theorem store_ok {n : Nat} {B k w : Int} {d : Dev} (h : DevOk n B d) (hw : U64 w) : DevOk n (B + 1) (storeD d k w).2 := by
  unfold storeD
  split
  · rename_i e
    refine tick_ok (with_ok h (by simp [putC, h.len]) (mapIdx_ok h.val fun i c hc => ?_)) (may_zero.1 e).1
    split
    · exact ⟨hc.1, hw, hc.2.2⟩
    · exact hc
  · exact h.up (by omega)
theorem flush_ok {n : Nat} {B k : Int} {d : Dev} (h : DevOk n B d) : DevOk n (B + 1) (flushD d k).2 := by
  unfold flushD
  split
  · rename_i e
    exact tick_ok (with_ok h (by simp [sendL, h.len]) (sendL_ok h.val)) (may_zero.1 e).1
  · exact h.up (by omega)
theorem octs_drop (ws : List Int) (i : Nat) : (octs ws).drop (8 * i) = octs (ws.drop i) := by
  by_cases h : i ≤ ws.length
  · have e : octs ws = octs (ws.take i) ++ octs (ws.drop i) := by rw [← octs_append, List.take_append_drop]
    have hl : (octs (ws.take i)).length = 8 * i := by rw [octs_len, List.length_take]; omega
    rw [e, ← hl, List.drop_left]
  · rw [List.drop_of_length_le (by rw [octs_len]; omega), List.drop_of_length_le (by omega)]
    rfl
theorem read_long {fu : Nat} {l : List Int} (h : 8 ≤ l.length) : octet_Read.f fu l = octet_Read.f fu (l.take 8) := by
  have h8 : (l.take 8).length = 8 := by rw [List.length_take]; omega
  have e1 : mnI (l.length : Int) 8 = 8 := by unfold mnI; split <;> omega
  have e2 : mnI ((l.take 8).length : Int) 8 = 8 := by rw [h8]; rfl
  have e3 : cut l 0 8 = l.take 8 := rfl
  have e4 : cut (l.take 8) 0 8 = l.take 8 := by
    unfold cut
    rw [List.take_of_length_le (by rw [h8]; decide)]
    rfl
  have es : octet_Read.s0 fu l = octet_Read.s0 fu (l.take 8) := by
    unfold octet_Read.s0
    rw [e1, e2, e3, e4]
  unfold octet_Read.f
  rw [e1, e2, es, if_pos (by omega), if_pos (by rw [h8]; decide)]
def wordsU (l : List Int) (j : Nat) : List Int := (List.range j).map fun i => ((num ((l.drop (8 * i)).take 8) : Nat) : Int)
theorem wordsU_succ (l : List Int) (j : Nat) : wordsU l (j + 1) = wordsU l j ++ [((num ((l.drop (8 * j)).take 8) : Nat) : Int)] := by
  simp [wordsU, List.range_succ]
theorem wordsU_len (l : List Int) (j : Nat) : (wordsU l j).length = j := by simp [wordsU]
theorem chunk_len {l : List Int} {j : Nat} (h : 8 * j + 8 ≤ l.length) : ((l.drop (8 * j)).take 8).length = 8 := by
  rw [List.length_take, List.length_drop]
  omega
theorem octs_words {l : List Int} (hb : Bytes l) : ∀ j, 8 * j ≤ l.length → octs (wordsU l j) = l.take (8 * j)
  | 0, _ => by simp [wordsU, octs]
  | j + 1, h => by
    have hc : ((l.drop (8 * j)).take 8).length = 8 := chunk_len (by omega)
    have hl := lay_num ((hb.drop (8 * j)).take 8)
    rw [hc] at hl
    rw [wordsU_succ, octs_append, octs_one, octs_words hb j (by omega), Int.toNat_natCast, hl, show 8 * (j + 1) = 8 * j + 8 from by omega, List.take_add]
theorem words_U64 {l : List Int} (hb : Bytes l) {n : Nat} : ∀ w ∈ wordsU l n, U64 w := by
  intro w hw
  obtain ⟨i, _, rfl⟩ := List.mem_map.1 hw
  have := num_lt8 ((hb.drop (8 * i)).take 8) (by rw [List.length_take]; omega)
  unfold U64
  omega
theorem words_eq {fu n : Nat} {l : List Int} (hb : Bytes l) (hl : l.length = 8 * n) (hn : n ≤ 100000) (hf : n + 8 < fu) : octet_Words.f fu l = some (wordsU l n) := by
  unfold octet_Words.f
  have : loopM (octet_Words.s0 fu) fu (l, []) = some (wordsU l n) := by
    refine loopM_run (S := fun j => (l.drop (8 * j), wordsU l j)) n (by simp [wordsU]) ?_ ?_ (by omega)
    · intro j hj
      unfold octet_Words.s0
      have hdl : (l.drop (8 * j)).length = 8 * n - 8 * j := by rw [List.length_drop, hl]
      have c1 : ((l.drop (8 * j)).length : Int) ≥ 8 := by omega
      have hc : ((l.drop (8 * j)).take 8).length = 8 := chunk_len (by omega)
      have hr : octet_Read.f fu (l.drop (8 * j)) = some ((num ((l.drop (8 * j)).take 8) : Nat) : Int) := by
        rw [read_long (by omega)]
        exact read_eq ((hb.drop _).take _) (by omega) (by omega)
      have e1 : cut (l.drop (8 * j)) 8 ((l.drop (8 * j)).length : Int) = l.drop (8 * (j + 1)) := by
        unfold cut
        rw [Int.toNat_natCast, List.take_length, show Int.toNat 8 = 8 from rfl, List.drop_drop]
        congr 1
      simp only [e1]
      rw [decide_eq_true c1, if_pos rfl, hr]
      simp only [Option.bind_some]
      rw [if_pos (by rw [wordsU_len]; exact Nat.le_trans (by simp only [List.length_cons, List.length_nil]; omega : _ ≤ 100001) (by decide)), if_pos c1, wordsU_succ]
    · unfold octet_Words.s0
      have : ¬ (((l.drop (8 * n)).length : Int) ≥ 8) := by rw [List.length_drop]; omega
      simp only [this, decide_false, Bool.false_eq_true, if_false]
  rw [this]
  rfl
def putAll : Dev → Int → List Int → Int × Dev
  | d, _, [] => (0, d)
  | d, k, w :: ws => if (storeD d k w).1 = 0 then putAll (storeD d k w).2 (k + 1) ws else storeD d k w
def sendD (d : Dev) (line first : Int) (ws : List Int) : Int × Dev := if (putAll d (8 * line + first) ws).1 = 0 then flushD (putAll d (8 * line + first) ws).2 line else putAll d (8 * line + first) ws
def inL (d : Dev) (line : Int) : Prop := 0 ≤ line ∧ line < ((d.cells.length / 8 : Nat) : Int)
instance (d : Dev) (line : Int) : Decidable (inL d line) := inferInstanceAs (Decidable (_ ∧ _))
def writeD (d : Dev) (line : Int) (b : List Int) : Int × Dev := if inL d line ∧ b.length = 64 then sendD d line 0 (wordsU b 8) else (2, d)
def lineC (d : Dev) (line : Int) : List Int := (List.range 8).map fun (i : Nat) => (ix d.cells (8 * line + (i : Int))).stored
def readD (d : Dev) (line : Int) : List Int × Int := if inL d line then if d.off = true then ([], 3) else (octs (lineC d line), 0) else ([], 2)
theorem put_ok {n : Nat} : ∀ {ws : List Int} {B k : Int} {d : Dev} (h : DevOk n B d) (hw : ∀ w ∈ ws, U64 w), DevOk n (B + (ws.length : Int)) (putAll d k ws).2
  | [], B, k, d, h, _ => h.up (by simp)
  | w :: ws, B, k, d, h, hw => by
    have h1 := store_ok (k := k) h (hw w (by simp))
    unfold putAll
    split
    · exact (put_ok h1 fun x hx => hw x (by simp [hx])).up (by simp only [List.length_cons]; omega)
    · exact h1.up (by simp only [List.length_cons]; omega)
theorem send_ok {n : Nat} {ws : List Int} {B k i : Int} {d : Dev} (h : DevOk n B d) (hw : ∀ w ∈ ws, U64 w) : DevOk n (B + (ws.length : Int) + 1) (sendD d k i ws).2 := by
  have h1 := put_ok (k := 8 * k + i) h hw
  unfold sendD
  split
  · exact flush_ok h1
  · exact h1.up (by omega)
theorem store_loop {fu n : Nat} {line first : Int} {ws : List Int} (hn : n ≤ 100000) (hw : ∀ w ∈ ws, U64 w) (hl : ws.length ≤ 1000) (hline : 0 ≤ line ∧ line ≤ 100000) (hfirst : 0 ≤ first ∧ first ≤ 1000) : ∀ (r j : Nat) (B : Int) (d : Dev) (k : Nat), j + r = ws.length → DevOk n B d → B + (r : Int) < 9223372036854775807 → r < k →
    loopM (press_store.s0 fu line first ws) k ((j : Int), d) = some (if (putAll d (8 * line + first + (j : Int)) (ws.drop j)).1 = 0 then .inr (putAll d (8 * line + first + (j : Int)) (ws.drop j)).2 else .inl (putAll d (8 * line + first + (j : Int)) (ws.drop j)))
  | r, j, B, d, 0, hj, h, hB, hk => by omega
  | 0, j, B, d, k + 1, hj, h, hB, hk => by
    unfold loopM
    have : j = ws.length := by omega
    subst this
    unfold press_store.s0
    rw [decide_eq_false (show ¬ ((ws.length : Int) < (ws.length : Int)) by omega), if_neg (by decide), List.drop_of_length_le (Nat.le_refl _)]
    rfl
  | r + 1, j, B, d, k + 1, hj, h, hB, hk => by
    have hjl : j < ws.length := by omega
    have hu := hw _ (List.getElem_mem hjl)
    have hst : pmem_Device_Store.f fu d (8 * line + first + (j : Int)) ws[j] = some (storeD d (8 * line + first + (j : Int)) ws[j]) := store_eq h (by omega) hu
    have w1 : IntKind.i64.wrap (line * 8) = 8 * line := by rw [w64 (by omega) (by omega)]; omega
    have w2 : IntKind.i64.wrap (8 * line + first) = 8 * line + first := w64 (by omega) (by omega)
    have w3 : IntKind.i64.wrap (8 * line + first + (j : Int)) = 8 * line + first + (j : Int) := w64 (by omega) (by omega)
    have hd : ws.drop j = ws[j] :: ws.drop (j + 1) := List.drop_eq_getElem_cons hjl
    unfold loopM
    have hs : press_store.s0 fu line first ws ((j : Int), d) = some (if (storeD d (8 * line + first + (j : Int)) ws[j]).1 = 0 then .inr (((j + 1 : Nat) : Int), (storeD d (8 * line + first + (j : Int)) ws[j]).2) else .inl (.inl (storeD d (8 * line + first + (j : Int)) ws[j]))) := by
      unfold press_store.s0
      simp only [w1, w2, w3]
      rw [decide_eq_true (show (j : Int) < (ws.length : Int) by omega), if_pos rfl, if_pos (by omega), ix_nat hjl, hst, next64 hjl (by omega)]
      simp only [Option.bind_some]
      by_cases e : (storeD d (8 * line + first + (j : Int)) ws[j]).1 = 0
      · rw [decide_eq_true e, if_neg (by decide), if_pos e]
      · rw [decide_eq_false e, if_pos (by decide), if_neg e]
    rw [hs, hd]
    unfold putAll
    by_cases e : (storeD d (8 * line + first + (j : Int)) ws[j]).1 = 0
    · have ih := store_loop (fu := fu) (n := n) (line := line) (first := first) hn hw hl hline hfirst r (j + 1) (B + 1) (storeD d (8 * line + first + (j : Int)) ws[j]).2 k (by omega) (store_ok h hu) (by omega) (by omega)
      rw [show 8 * line + first + ((j + 1 : Nat) : Int) = 8 * line + first + (j : Int) + 1 from by omega] at ih
      rw [if_pos e, if_pos e]
      exact ih
    · rw [if_neg e, if_neg e]
      simp only [e, if_false]
theorem send_eq {fu n : Nat} {B line first : Int} {ws : List Int} {d : Dev} (h : DevOk n B d) (hB : B + (ws.length : Int) + 1 < 9223372036854775807) (hn : n ≤ 100000) (hw : ∀ w ∈ ws, U64 w) (hl : ws.length ≤ 1000) (hline : 0 ≤ line ∧ line ≤ 100000) (hfirst : 0 ≤ first ∧ first ≤ 1000) (hf : 2000 < fu) : press_store.f fu d line first ws = some (sendD d line first ws) := by
  unfold press_store.f sendD
  have h1 := store_loop (fu := fu) hn hw hl hline hfirst ws.length 0 B d fu (by omega) h (by omega) (by omega)
  simp only [List.drop_zero, Int.natCast_zero, Int.add_zero] at h1
  have h2 := put_ok (k := 8 * line + first) h hw
  rw [h1]
  by_cases e : (putAll d (8 * line + first) ws).1 = 0
  · rw [if_pos e, if_pos e]
    simp only [Option.bind_some]
    rw [flush_eq h2 (by omega) (by omega) (by omega)]
    rfl
  · rw [if_neg e, if_neg e]
    rfl
theorem pmay_eq {fu : Nat} {d : Dev} {k : Int} (hl : d.cells.length ≤ 1000000) : press_may.f fu d k = some (if inL d k then 0 else 2) := by
  unfold press_may.f
  rw [lines_eq hl]
  by_cases h1 : k < 0
  · rw [decide_eq_true h1, if_neg (show ¬ inL d k from fun q => by have := q.1; omega)]
    rfl
  · rw [decide_eq_false h1, if_neg (by decide)]
    simp only [Option.bind_some]
    by_cases h2 : k ≥ ((d.cells.length / 8 : Nat) : Int)
    · rw [decide_eq_true h2, if_neg (show ¬ inL d k from fun q => by have := q.2; omega)]
      rfl
    · rw [decide_eq_false h2, if_pos (show inL d k from ⟨by omega, by omega⟩)]
      rfl
theorem write_eq {fu n : Nat} {B line : Int} {b : List Int} {d : Dev} (h : DevOk n B d) (hB : B + 9 < 9223372036854775807) (hn : n ≤ 100000) (hb : Bytes b) (hf : 2000 < fu) : press_Write.f fu d line b = some (writeD d line b) := by
  unfold press_Write.f writeD
  have hlen := h.len
  rw [pmay_eq (by omega)]
  simp only [Option.bind_some]
  by_cases hi : inL d line
  · rw [if_pos hi, if_neg (by decide)]
    by_cases hl : b.length = 64
    · have hw := words_U64 (n := 8) hb
      unfold inL at hi
      rw [decide_eq_true (show (b.length : Int) = 64 by omega), if_neg (by decide), if_pos ⟨hi, hl⟩, words_eq (n := 8) hb (by omega) (by decide) (by omega)]
      simp only [Option.bind_some]
      rw [send_eq h (by rw [wordsU_len]; omega) hn hw (by rw [wordsU_len]; decide) (by omega) (by decide) hf]
      rfl
    · rw [decide_eq_false (show ¬ (b.length : Int) = 64 by omega), if_pos (by decide), if_neg (fun q => hl q.2)]
  · rw [if_neg hi, if_pos (by decide), if_neg (fun q => hi q.1)]
theorem arr_set8 (a : Arr 8 Int) (j : Nat) (v : Int) (hj : j < 8) (f : Nat → Int) (hf : ∀ i, i < j → ix a.l (i : Int) = f i) (hv : v = f j) : ∀ i, i < j + 1 → ix (Arr.set a (j : Int) v).l (i : Int) = f i := by
  intro i hi
  have hl := a.h
  have e : (Arr.set a (j : Int) v).l = a.l.set j v := by simp [Arr.set]
  rw [e, ix_nat (by rw [List.length_set]; omega), List.getElem_set]
  by_cases h : j = i
  · subst h
    rw [if_pos rfl, hv]
  · rw [if_neg h, ← ix_nat (by omega)]
    exact hf i (by omega)
theorem read_dev {fu n : Nat} {B line : Int} {d : Dev} (h : DevOk n B d) (hn : n ≤ 100000) (hf : 2000 < fu) : press_Read.f fu d line = some (readD d line) := by
  unfold press_Read.f readD
  have hlen := h.len
  rw [pmay_eq (by omega)]
  simp only [Option.bind_some]
  by_cases hi : inL d line
  · rw [if_pos hi, if_neg (by decide), if_pos hi]
    have hin := hi
    unfold inL at hin
    have w1 : IntKind.i64.wrap (line * 8) = 8 * line := by rw [w64 (by omega) (by omega)]; omega
    have hld : ∀ j : Nat, j < 8 → pmem_Device_Load.f fu d (8 * line + (j : Int)) = some (if d.off = true then (0, 3) else ((ix d.cells (8 * line + (j : Int))).stored, 0)) := by
      intro j hj
      rw [load_eq]
      unfold loadD
      cases ho : d.off
      · rw [if_pos (may_zero.2 ⟨rfl, by omega, by omega⟩), if_neg (by decide)]
      · have : mayI true (8 * line + (j : Int)) (d.cells.length : Int) = 3 := rfl
        rw [this, if_neg (by decide), if_pos rfl]
    cases ho : d.off
    · rw [if_neg (by decide)]
      have loop : ∃ e, loopM (press_Read.s0 fu d line) fu (0, Arr.rep 8 (0 : Int)) = some e ∧ ∃ a : Arr 8 Int, e = .inr a ∧ ∀ i : Nat, i < 8 → ix a.l (i : Int) = (ix d.cells (8 * line + (i : Int))).stored := by
        refine loopM_inv (fun j s => ∃ a : Arr 8 Int, s = ((j : Int), a) ∧ ∀ i : Nat, i < j → ix a.l (i : Int) = (ix d.cells (8 * line + (i : Int))).stored) 8 _ ?_ ?_ (j := 0) ⟨_, rfl, fun i hi => by omega⟩ (by omega) (by omega)
        · rintro j _ hj ⟨a, rfl, ha⟩
          unfold press_Read.s0
          have w3 : IntKind.i64.wrap (8 * line + (j : Int)) = 8 * line + (j : Int) := w64 (by omega) (by omega)
          simp only [w1, w3]
          rw [decide_eq_true (show (j : Int) < 8 by omega), if_pos rfl, hld j hj, ho, if_neg (by decide), next64 hj (by decide)]
          simp only [Option.bind_some, decide_true, Bool.not_true, Bool.false_eq_true, if_false]
          rw [if_pos (by omega)]
          exact ⟨_, rfl, _, rfl, arr_set8 a j _ hj (fun i => (ix d.cells (8 * line + (i : Int))).stored) ha rfl⟩
        · rintro _ ⟨a, rfl, ha⟩
          unfold press_Read.s0
          rw [decide_eq_false (show ¬ (((8 : Nat) : Int) < 8) by decide), if_neg (by decide)]
          exact ⟨_, rfl, a, rfl, ha⟩
      obtain ⟨e, h1, a, rfl, ha⟩ := loop
      have hal : a.l = lineC d line := by
        apply List.ext_getElem (by rw [a.h]; simp [lineC])
        intro i h1 h2
        have : i < 8 := by rw [a.h] at h1; exact h1
        rw [← ix_nat h1, ha i this]
        simp [lineC]
      have hu : ∀ w ∈ lineC d line, U64 w := by
        intro w hw
        obtain ⟨i, hi8, rfl⟩ := List.mem_map.1 hw
        have := List.mem_range.1 hi8
        obtain ⟨p, hp⟩ : ∃ p : Nat, 8 * line + (i : Int) = (p : Int) := ⟨(8 * line + (i : Int)).toNat, by omega⟩
        rw [hp, ix_nat (by omega)]
        exact (h.val _ (List.getElem_mem _)).2.1
      rw [h1]
      simp only [Option.bind_some]
      rw [hal, octets_eq hu (by simp [lineC]) (by simp [lineC]; omega)]
      rfl
    · rw [if_pos rfl]
      have loop : loopM (press_Read.s0 fu d line) fu (0, Arr.rep 8 (0 : Int)) = some (.inl ([], 3)) := by
        obtain ⟨k, rfl⟩ : ∃ k, fu = k + 1 := ⟨fu - 1, by omega⟩
        unfold loopM
        have := hld 0 (by decide)
        rw [ho, if_pos rfl] at this
        unfold press_Read.s0
        have w3 : IntKind.i64.wrap (8 * line + 0) = 8 * line + ((0 : Nat) : Int) := by rw [w64 (by omega) (by omega)]; rfl
        simp only [w1, w3]
        rw [this]
        rfl
      rw [loop]
      rfl
  · rw [if_neg hi, if_pos (by decide), if_neg hi]
noncomputable def SO (n : Nat) (d : Dev) (a : AA) : S_shadow_Store := ⟨d, a.of n⟩
def writtenS (d : Dev) (a : AA) (k : Int) (b : List Int) : Int × Int × Dev × AA := if (writeD d k b).1 = 0 then (k, 0, (writeD d k b).2, a) else (0, (writeD d k b).1, (writeD d k b).2, a)
def makeS (n : Nat) (d : Dev) (a : AA) (b : List Int) : Int × Int × Dev × AA := if b.length = 64 then if (a.take n).2.1 = 0 then writtenS d (a.take n).2.2 (a.take n).1 b else (0, (a.take n).2.1, d, (a.take n).2.2) else (0, 2, d, a)
def turnS (n : Nat) (d : Dev) (a : AA) (k : Int) (b : List Int) : Int × Int × Dev × AA :=
  if b.length = 64 ∧ hasI n a.w k = true then
    if a.own n k = true then writtenS d a k b
    else if (makeS n d a b).2.1 = 0 then ((makeS n d a b).1, ((makeS n d a b).2.2.2.give n k).1, (makeS n d a b).2.2.1, ((makeS n d a b).2.2.2.give n k).2) else (0, (makeS n d a b).2.1, (makeS n d a b).2.2.1, (makeS n d a b).2.2.2)
  else (0, 2, d, a)
theorem write_dev {m : Nat} {B line : Int} {b : List Int} {d : Dev} (h : DevOk m B d) (hb : Bytes b) : DevOk m (B + 9) (writeD d line b).2 := by
  unfold writeD
  split
  · have := send_ok (k := line) (i := 0) h (words_U64 (n := 8) hb)
    exact this.up (by rw [wordsU_len]; omega)
  · exact h.up (by omega)
theorem written_eq {fu n m : Nat} {B k : Int} {b : List Int} {d : Dev} {a : AA} (h : DevOk m B d) (hB : B + 9 < 9223372036854775807) (hm : m ≤ 100000) (hb : Bytes b) (hf : 2000 < fu) : shadow_Store_written.f fu (SO n d a) k b = some ((writtenS d a k b).1, (writtenS d a k b).2.1, SO n (writtenS d a k b).2.2.1 (writtenS d a k b).2.2.2) := by
  unfold shadow_Store_written.f writtenS
  rw [show (SO n d a).device = d from rfl, write_eq h hB hm hb hf]
  simp only [Option.bind_some]
  by_cases e : (writeD d k b).1 = 0
  · rw [decide_eq_true e, if_neg (by decide), if_pos e]
    rfl
  · rw [decide_eq_false e, if_pos (by decide), if_neg e]
    rfl
theorem written_dev {m : Nat} {B k : Int} {b : List Int} {d : Dev} {a : AA} (h : DevOk m B d) (hb : Bytes b) : DevOk m (B + 9) (writtenS d a k b).2.2.1 ∧ (writtenS d a k b).2.2.2 = a := by
  have := write_dev (line := k) h hb
  unfold writtenS
  split <;> exact ⟨this, rfl⟩
theorem make_eq {fu n m : Nat} {B : Int} {b : List Int} {d : Dev} {a : AA} (h : DevOk m B d) (hB : B + 9 < 9223372036854775807) (hm : m ≤ 100000) (hb : Bytes b) (hf : 2000 < fu) (ha : AOk n a) (hn : n ≤ 90000) (hfn : n + 64 < fu) : shadow_Store_Make.f fu (SO n d a) b = some ((makeS n d a b).1, (makeS n d a b).2.1, SO n (makeS n d a b).2.2.1 (makeS n d a b).2.2.2) := by
  unfold shadow_Store_Make.f makeS
  by_cases e : b.length = 64
  · rw [decide_eq_true (show (b.length : Int) = 64 by omega), if_neg (by decide), if_pos e, show (SO n d a).blocks = a.of n from rfl, take_eq hn hfn ha]
    simp only [Option.bind_some]
    by_cases e2 : (a.take n).2.1 = 0
    · rw [decide_eq_true e2, if_neg (by decide), if_pos e2, show (⟨(SO n d a).device, (a.take n).2.2.of n⟩ : S_shadow_Store) = SO n d (a.take n).2.2 from rfl, written_eq h hB hm hb hf]
      rfl
    · rw [decide_eq_false e2, if_pos (by decide), if_neg e2]
      rfl
  · rw [decide_eq_false (show ¬ (b.length : Int) = 64 by omega), if_pos (by decide), if_neg e]
theorem make_ok {n m : Nat} {B : Int} {b : List Int} {d : Dev} {a : AA} (h : DevOk m B d) (hb : Bytes b) (ha : AOk n a) : DevOk m (B + 9) (makeS n d a b).2.2.1 ∧ AOk n (makeS n d a b).2.2.2 := by
  have ht := take_ok ha
  unfold makeS
  split
  · split
    · obtain ⟨h1, h2⟩ := written_dev (k := (a.take n).1) (a := (a.take n).2.2) h hb
      rw [h2]
      exact ⟨h1, ht⟩
    · exact ⟨h.up (by omega), ht⟩
  · exact ⟨h.up (by omega), ha⟩
theorem turn_eq {fu n m : Nat} {B k : Int} {b : List Int} {d : Dev} {a : AA} (h : DevOk m B d) (hB : B + 9 < 9223372036854775807) (hm : m ≤ 100000) (hb : Bytes b) (hf : 2000 < fu) (ha : AOk n a) (hn : n ≤ 90000) (hfn : n + 64 < fu) : shadow_Store_Turn.f fu (SO n d a) k b = some ((turnS n d a k b).1, (turnS n d a k b).2.1, SO n (turnS n d a k b).2.2.1 (turnS n d a k b).2.2.2) := by
  unfold shadow_Store_Turn.f turnS
  by_cases e : b.length = 64
  · rw [decide_eq_true (show (b.length : Int) = 64 by omega), if_neg (by decide), show (SO n d a).blocks = a.of n from rfl, works_eq hn hfn ha]
    simp only [Option.bind_some]
    rw [has_eq (by omega)]
    simp only [Option.bind_some]
    cases hh : hasI n a.w k
    · rw [Bool.not_false, if_pos rfl, if_neg (fun q => by simp at q)]
    · rw [Bool.not_true, if_neg (by decide), if_pos ⟨e, rfl⟩, own_eq hn]
      simp only [Option.bind_some]
      cases ho : a.own n k
      · rw [if_neg (by decide), if_neg (by decide), make_eq h hB hm hb hf ha hn hfn]
        simp only [Option.bind_some]
        obtain ⟨m1, m2⟩ := make_ok (n := n) h hb ha
        by_cases e2 : (makeS n d a b).2.1 = 0
        · rw [decide_eq_true e2, if_neg (by decide), if_pos e2, show (SO n (makeS n d a b).2.2.1 (makeS n d a b).2.2.2).blocks = (makeS n d a b).2.2.2.of n from rfl, give_eq hn hfn m2]
          rfl
        · rw [decide_eq_false e2, if_pos (by decide), if_neg e2]
      · rw [if_pos rfl, if_pos rfl, written_eq h hB hm hb hf]
        rfl
  · rw [decide_eq_false (show ¬ (b.length : Int) = 64 by omega), if_pos (by decide), if_neg (fun q => e q.1)]
theorem drop_eq {fu n : Nat} {k : Int} {d : Dev} {a : AA} (ha : AOk n a) (hn : n ≤ 90000) (hfn : n + 64 < fu) : shadow_Store_Drop.f fu (SO n d a) k = some ((a.give n k).1, SO n d (a.give n k).2) := by
  unfold shadow_Store_Drop.f
  rw [show (SO n d a).blocks = a.of n from rfl, give_eq hn hfn ha]
  rfl
theorem sget_eq {fu n m : Nat} {B k : Int} {d : Dev} {a : AA} (h : DevOk m B d) (hm : m ≤ 100000) (hf : 2000 < fu) : shadow_Store_Get.f fu (SO n d a) k = some (readD d k) := by
  unfold shadow_Store_Get.f
  rw [show (SO n d a).device = d from rfl, read_dev h hm hf]
  rfl
structure Clean (d : Dev) : Prop where
  off : d.off = false
  arm : d.armed = false
  pl : d.plan.list = []
theorem tick_clean {d : Dev} (h : Clean d) : tick d = ⟨d.cells, d.plan, false, false, d.left, d.steps + 1⟩ := by
  have hp : pick d.plan = -1 := by simp [pick, h.pl]
  have hn : nextP d.plan = d.plan := by simp [nextP, h.pl]
  unfold tick
  rw [hp, hn, evict_no _ (by decide), h.arm, h.off]
  rfl
theorem clean_with {d : Dev} {cs : List Cell} (h : Clean d) : Clean (tick (withC d cs)) ∧ (tick (withC d cs)).cells = cs := by
  have h' : Clean (withC d cs) := ⟨h.off, h.arm, h.pl⟩
  rw [tick_clean h']
  exact ⟨⟨rfl, rfl, h.pl⟩, rfl⟩
theorem putC_ix {cs : List Cell} {k w : Int} {i : Nat} (hi : i < cs.length) : ix (putC k w cs) (i : Int) = if (i : Int) = k then ⟨(ix cs (i : Int)).lasts, w, (ix cs (i : Int)).sent, (ix cs (i : Int)).flushed⟩ else ix cs (i : Int) := by
  have hl : i < (putC k w cs).length := by simpa [putC] using hi
  rw [ix_nat hl, ix_nat hi]
  simp only [putC, List.getElem_mapIdx]
theorem sendL_ix {cs : List Cell} {k : Int} {i : Nat} (hi : i < cs.length) : ix (sendL k cs) (i : Int) = if 8 * k ≤ (i : Int) ∧ (i : Int) < 8 * k + 8 then sendC (ix cs (i : Int)) else ix cs (i : Int) := by
  have hl : i < (sendL k cs).length := by simpa [sendL] using hi
  rw [ix_nat hl, ix_nat hi]
  simp only [sendL, List.getElem_mapIdx]
theorem put_clean : ∀ {ws : List Int} {k : Nat} {d : Dev}, Clean d → k + ws.length ≤ d.cells.length → (putAll d (k : Int) ws).1 = 0 ∧ Clean (putAll d (k : Int) ws).2 ∧ (putAll d (k : Int) ws).2.cells.length = d.cells.length ∧
    ∀ i : Nat, i < d.cells.length → ix (putAll d (k : Int) ws).2.cells (i : Int) = if k ≤ i ∧ i < k + ws.length then ⟨(ix d.cells (i : Int)).lasts, ix ws ((i - k : Nat) : Int), (ix d.cells (i : Int)).sent, (ix d.cells (i : Int)).flushed⟩ else ix d.cells (i : Int)
  | [], k, d, h, hk => ⟨rfl, h, rfl, fun i hi => by
    have : ¬ (k ≤ i ∧ i < k + ([] : List Int).length) := fun q => by have h1 := q.1; have h2 := q.2; simp only [List.length_nil] at h2; omega
    rw [if_neg this]
    rfl⟩
  | w :: ws, k, d, h, hk => by
    have hk : k + (ws.length + 1) ≤ d.cells.length := hk
    have hm : mayI d.off (k : Int) (d.cells.length : Int) = 0 := may_zero.2 ⟨h.off, by omega, by omega⟩
    have hs : storeD d (k : Int) w = (0, tick (withC d (putC (k : Int) w d.cells))) := by
      unfold storeD
      rw [if_pos hm]
    obtain ⟨c1, c2⟩ := clean_with (cs := putC (k : Int) w d.cells) h
    have hl : (putC (k : Int) w d.cells).length = d.cells.length := by simp [putC]
    obtain ⟨i1, i2, i3, i4⟩ := put_clean (ws := ws) (k := k + 1) c1 (by rw [c2, hl]; omega)
    have e : putAll d (k : Int) (w :: ws) = putAll (tick (withC d (putC (k : Int) w d.cells))) ((k + 1 : Nat) : Int) ws := by
      conv => lhs; unfold putAll
      rw [hs]
      simp only [if_true]
      rfl
    rw [e]
    rw [c2, hl] at i3 i4
    refine ⟨i1, i2, i3, fun i hi => ?_⟩
    rw [i4 i hi, putC_ix hi]
    by_cases e1 : i = k
    · subst e1
      have e9 : i ≤ i ∧ i < i + (w :: ws).length := ⟨Nat.le_refl _, by simp only [List.length_cons]; omega⟩
      rw [if_neg (by omega), if_pos rfl, if_pos e9, Nat.sub_self]
      rfl
    · rw [if_neg (show ¬ ((i : Int) = (k : Int)) by omega)]
      by_cases e2 : k + 1 ≤ i ∧ i < k + 1 + ws.length
      · rw [if_pos e2, if_pos (by simp only [List.length_cons]; omega)]
        obtain ⟨p, hp⟩ : ∃ p, i - k = p + 1 := ⟨i - k - 1, by omega⟩
        have hp2 : i - (k + 1) = p := by omega
        have e5 : ix (w :: ws) ((p + 1 : Nat) : Int) = ix ws (p : Int) := by
          unfold ix
          rw [Int.toNat_natCast, Int.toNat_natCast]
          rfl
        rw [hp, hp2, e5]
      · rw [if_neg e2, if_neg (by simp only [List.length_cons]; omega)]
theorem write_clean {d : Dev} {line : Nat} {b : List Int} (h : Clean d) (hi : 8 * line + 8 ≤ d.cells.length) (hb : b.length = 64) : (writeD d (line : Int) b).1 = 0 ∧ Clean (writeD d (line : Int) b).2 ∧ (writeD d (line : Int) b).2.cells.length = d.cells.length ∧
    ∀ i : Nat, i < d.cells.length → ix (writeD d (line : Int) b).2.cells (i : Int) = if i / 8 = line then ⟨(ix d.cells (i : Int)).lasts, ix (wordsU b 8) ((i - 8 * line : Nat) : Int), ix (wordsU b 8) ((i - 8 * line : Nat) : Int), true⟩ else ix d.cells (i : Int) := by
  have hin : inL d (line : Int) := ⟨by omega, by omega⟩
  obtain ⟨p1, p2, p3, p4⟩ := put_clean (ws := wordsU b 8) (k := 8 * line) h (by rw [wordsU_len]; exact hi)
  have ek : 8 * (line : Int) + 0 = ((8 * line : Nat) : Int) := by omega
  have hw : writeD d (line : Int) b = flushD (putAll d ((8 * line : Nat) : Int) (wordsU b 8)).2 (line : Int) := by
    unfold writeD
    rw [if_pos ⟨hin, hb⟩]
    unfold sendD
    rw [ek, if_pos p1]
  generalize putAll d ((8 * line : Nat) : Int) (wordsU b 8) = D at *
  have hm : mayI D.2.off (line : Int) ((D.2.cells.length / 8 : Nat) : Int) = 0 := may_zero.2 ⟨p2.off, by omega, by rw [p3]; omega⟩
  have hfl : flushD D.2 (line : Int) = (0, tick (withC D.2 (sendL (line : Int) D.2.cells))) := by
    unfold flushD
    rw [if_pos hm]
  obtain ⟨c1, c2⟩ := clean_with (cs := sendL (line : Int) D.2.cells) p2
  rw [hw, hfl]
  refine ⟨rfl, c1, by rw [c2]; simpa [sendL] using p3, fun i hi' => ?_⟩
  rw [c2, sendL_ix (by rw [p3]; exact hi'), p4 i hi', wordsU_len]
  by_cases e : i / 8 = line
  · rw [if_pos (by omega), if_pos (by omega), if_pos e]
    rfl
  · rw [if_neg (by omega), if_neg (by omega), if_neg e]
theorem wordsU_octs {b : List Int} (hb : Bytes b) (hl : b.length = 64) : octs (wordsU b 8) = b := by
  rw [octs_words hb 8 (by omega), List.take_of_length_le (by omega)]
theorem read_clean {d : Dev} {line : Nat} (h : Clean d) (hi : 8 * line + 8 ≤ d.cells.length) : readD d (line : Int) = (octs (lineC d (line : Int)), 0) := by
  unfold readD
  rw [if_pos (show inL d (line : Int) from ⟨by omega, by omega⟩), h.off, if_neg (by decide)]
theorem line_congr {d e : Dev} {k : Nat} (h : ∀ i : Nat, i < 8 → ix d.cells ((8 * k + i : Nat) : Int) = ix e.cells ((8 * k + i : Nat) : Int)) : lineC d (k : Int) = lineC e (k : Int) := by
  unfold lineC
  apply List.map_congr_left
  intro i hi
  have := h i (List.mem_range.1 hi)
  rw [show 8 * (k : Int) + (i : Int) = ((8 * k + i : Nat) : Int) by omega, this]
theorem line_written {d : Dev} {line : Nat} {b : List Int} (h : Clean d) (hi : 8 * line + 8 ≤ d.cells.length) (hb : Bytes b) (hl : b.length = 64) : octs (lineC (writeD d (line : Int) b).2 (line : Int)) = b := by
  obtain ⟨_, _, _, hw⟩ := write_clean h hi hl
  have : lineC (writeD d (line : Int) b).2 (line : Int) = wordsU b 8 := by
    apply List.ext_getElem (by simp [lineC, wordsU_len])
    intro i h1 h2
    have hi8 : i < 8 := by simpa [lineC] using h1
    simp only [lineC, List.getElem_map, List.getElem_range]
    rw [show 8 * (line : Int) + (i : Int) = ((8 * line + i : Nat) : Int) by omega, hw _ (by omega), if_pos (by omega), show 8 * line + i - 8 * line = i by omega]
    exact ix_nat h2
  rw [this, wordsU_octs hb hl]
abbrev FU : Nat := 200000
def ini (n : Nat) : Nat → Bool := addF n (fun _ => false) [0, 1]
def nul (n : Nat) : Nat → Bool := addF n (fun _ => false) []
def A0 (n : Nat) (r : Int) : AA := ⟨r, ini n, nul n, ini n, ini n⟩
theorem ini_low (n : Nat) : Low n (ini n) := addF_low fun k h => by cases h
theorem nul_low (n : Nat) : Low n (nul n) := addF_low fun k h => by cases h
theorem A0_ok {n : Nat} {r : Int} (hr : 0 ≤ r ∧ r ≤ 1000) : AOk n (A0 n r) := ⟨ini_low n, nul_low n, ini_low n, ini_low n, hr⟩
theorem made_eq {fu n : Nat} {r : Int} (hn : n ≤ 3072) (hf : n + 2000 < fu) (hr : 0 ≤ r ∧ r ≤ 1000) : rickyardlaw19_Made.f fu (n : Int) r = some (some (SO n (newD (8 * n)) (A0 n r)), some (newD (8 * n)), some ((A0 n r).of n)) := by
  unfold rickyardlaw19_Made.f
  rw [new_eq (by omega)]
  simp only [Option.bind_some, Option.elim_some]
  rw [of_eq (l := [0, 1]) hn (by decide) (by simp; omega), of_eq (l := []) hn (by decide) (by simp; omega)]
  simp only [Option.bind_some]
  rw [anew_eq (by omega) (by omega) (addF_low fun k h => by cases h) (addF_low fun k h => by cases h) hr.1]
  simp only [Option.bind_some, Option.elim_some]
  have ha := A0_ok (n := n) hr
  unfold shadow_New.f
  rw [show (⟨r, addF n (fun _ => false) [0, 1], addF n (fun _ => false) [], addF n (fun _ => false) [0, 1], addF n (fun _ => false) [0, 1]⟩ : AA) = A0 n r from rfl, works_eq (by omega) (by omega) ha]
  have hl : (newD (8 * n)).cells.length = 8 * n := by simp [newD]
  simp only [Option.bind_some, bits_Set_Size.f]
  rw [lines_eq (by omega), hl]
  simp only [Option.bind_some]
  rw [show (setOf n (A0 n r).w).size = (n : Int) from rfl, decide_eq_false (show ¬ ((n : Int) > ((8 * n / 8 : Nat) : Int)) by omega), if_neg (by decide)]
  rfl
theorem newD_clean (n : Nat) : Clean (newD n) := ⟨rfl, rfl, rfl⟩
structure SOk (n : Nat) (B : Int) (d : Dev) (a : AA) : Prop where
  dev : DevOk (8 * n) B d
  cl : Clean d
  al : AOk n a
theorem SOk.up {n : Nat} {B C : Int} {d : Dev} {a : AA} (h : SOk n B d a) (hc : B ≤ C) : SOk n C d a := ⟨h.dev.up hc, h.cl, h.al⟩
theorem SOk.len {n : Nat} {B : Int} {d : Dev} {a : AA} (h : SOk n B d a) : d.cells.length = 8 * n := h.dev.len
theorem writtenS_clean {d : Dev} {a : AA} {line : Nat} {b : List Int} (h : Clean d) (hi : 8 * line + 8 ≤ d.cells.length) (hb : b.length = 64) : writtenS d a (line : Int) b = ((line : Int), 0, (writeD d (line : Int) b).2, a) := by
  unfold writtenS
  rw [if_pos (write_clean h hi hb).1]
def ln (d : Dev) (j : Nat) : List Int := octs (lineC d (j : Int))
theorem octs_byt (ws : List Int) : Bytes (octs ws) := by
  intro x hx
  unfold octs at hx
  obtain ⟨w, _, hw⟩ := List.mem_flatMap.1 hx
  exact lay_bytes _ _ x hw
theorem ln_write {n : Nat} {B : Int} {d : Dev} {a : AA} {k : Nat} {b : List Int} (h : SOk n B d a) (hk : k < n) (hb : Bytes b) (hl : b.length = 64) :
    ln (writeD d (k : Int) b).2 k = b ∧ ∀ j, j < n → j ≠ k → ln (writeD d (k : Int) b).2 j = ln d j := by
  have hlen := h.len
  refine ⟨line_written h.cl (by omega) hb hl, fun j hj hne => ?_⟩
  unfold ln
  rw [line_congr fun i hi => ?_]
  rw [(write_clean (line := k) h.cl (by omega) hl).2.2.2 _ (by omega), if_neg (by omega)]
structure Wr (n : Nat) (B : Int) (d : Dev) (a : AA) (k : Nat) (b : List Int) (d' : Dev) (a' : AA) : Prop where
  so : SOk n (B + 9) d' a'
  lt : k < n
  new : ln d' k = b
  old : ∀ j, j < n → j ≠ k → ln d' j = ln d j
  m : a'.m = a.m
  c : a'.c = a.c
  e : a'.e = a.e
  r : a'.r = a.r
theorem put_w {n k j : Nat} {a : AA} (hk : k < n) : (a.put n k).w j = true ↔ a.w j = true ∨ j = k := by
  show addF n a.w [(k : Int)] j = true ↔ _
  unfold addF
  simp only [Bool.or_eq_true, Bool.and_eq_true, decide_eq_true_eq, List.mem_singleton]
  constructor
  · rintro (h | ⟨_, h⟩)
    · exact .inl h
    · exact .inr (by omega)
  · rintro (h | rfl)
    · exact .inl h
    · exact .inr ⟨hk, rfl⟩
theorem cut_w {k j : Nat} {a : AA} : (a.cut (k : Int)).w j = true ↔ a.w j = true ∧ j ≠ k := by
  show dropF a.w [(k : Int)] j = true ↔ _
  unfold dropF
  simp only [Bool.and_eq_true, Bool.not_eq_true', decide_eq_false_iff_not, List.mem_singleton]
  constructor
  · rintro ⟨h, h2⟩
    exact ⟨h, by omega⟩
  · rintro ⟨h, h2⟩
    exact ⟨h, by omega⟩
theorem make_line {n : Nat} {B : Int} {d : Dev} {a : AA} {b : List Int} (h : SOk n B d a) (hb : Bytes b) (hl : b.length = 64) (hr : a.r = 0) (hf : (a.free n).length ≠ 0) :
    ∃ (k : Nat) (d' : Dev), makeS n d a b = ((k : Int), 0, d', a.put n k) ∧ a.held k = false ∧ Wr n B d a k b d' (a.put n k) := by
  obtain ⟨l1, l2, l3⟩ := least_ok hf
  have ht := take_ok h.al
  have e : a.take n = ((a.least n : Int), 0, a.put n (a.least n)) := by
    unfold AA.take
    rw [if_neg (by rw [hr]; omega)]
  rw [e] at ht
  refine ⟨a.least n, (writeD d (a.least n : Int) b).2, ?_, l2, ?_⟩
  · unfold makeS
    rw [if_pos hl, e]
    simp only [if_true]
    exact writtenS_clean (line := a.least n) h.cl (by have := h.len; omega) hl
  · obtain ⟨s1, s2⟩ := ln_write h l1 hb hl
    exact ⟨⟨write_dev h.dev hb, (write_clean (line := a.least n) h.cl (by have := h.len; omega) hl).2.1, ht⟩, l1, s1, s2, rfl, rfl, rfl, rfl⟩
theorem has_w {n k : Nat} {f : Nat → Bool} (hk : k < n) : hasI n f (k : Int) = f k := by
  unfold hasI
  rw [decide_eq_true (show (0 : Int) ≤ (k : Int) by omega), decide_eq_true (show (k : Int) < (n : Int) by omega), Int.toNat_natCast]
  rfl
theorem give_line {n k : Nat} {a : AA} (hk : k < n) (hw : a.w k = true) : a.give n (k : Int) = (0, a.cut (k : Int)) := by
  unfold AA.give
  rw [has_w hk, if_pos hw]
theorem turn_line {n : Nat} {B : Int} {d : Dev} {a : AA} {b : List Int} {k : Nat} (h : SOk n B d a) (hb : Bytes b) (hl : b.length = 64) (hr : a.r = 0) (hf : (a.free n).length ≠ 0) (hk : k < n) (hw : a.w k = true) :
    ∃ (k' : Nat) (d' : Dev) (a' : AA), turnS n d a (k : Int) b = ((k' : Int), 0, d', a') ∧ Wr n B d a k' b d' a' ∧ (∀ j, a'.w j = true ↔ (a.w j = true ∧ j ≠ k) ∨ j = k') ∧ (k' = k ∧ a.m k = false ∨ k' ≠ k ∧ a.held k' = false) := by
  unfold turnS
  rw [if_pos ⟨hl, by rw [has_w hk]; exact hw⟩]
  unfold AA.own
  rw [has_w hk, has_w hk, hw]
  cases hm : a.m k with
  | false =>
    rw [if_pos (by rfl)]
    obtain ⟨s1, s2⟩ := ln_write h hk hb hl
    refine ⟨k, _, _, writtenS_clean (line := k) h.cl (by have := h.len; omega) hl, ⟨⟨write_dev h.dev hb, (write_clean (line := k) h.cl (by have := h.len; omega) hl).2.1, h.al⟩, hk, s1, s2, rfl, rfl, rfl, rfl⟩, fun j => ?_, .inl ⟨rfl, rfl⟩⟩
    by_cases e : j = k
    · subst e
      simp [hw]
    · simp [e]
  | true =>
    rw [if_neg (by decide)]
    obtain ⟨k', d', e1, e2, W⟩ := make_line h hb hl hr hf
    have hne : k' ≠ k := fun e => by
      unfold AA.held at e2
      rw [e, hw] at e2
      simp at e2
    have hw' : (a.put n k').w k = true := (put_w W.lt).2 (.inl hw)
    rw [e1, if_pos rfl]
    simp only
    rw [give_line hk hw']
    refine ⟨k', d', (a.put n k').cut (k : Int), rfl, ⟨⟨W.so.dev, W.so.cl, ?_⟩, W.lt, W.new, W.old, rfl, rfl, rfl, rfl⟩, fun j => ?_, .inr ⟨hne, e2⟩⟩
    · have := give_ok (k := (k : Int)) W.so.al
      rw [give_line hk hw'] at this
      exact this
    · rw [cut_w, put_w W.lt]
      constructor
      · rintro ⟨h1 | h1, h2⟩
        · exact .inl ⟨h1, h2⟩
        · exact .inr h1
      · rintro (⟨h1, h2⟩ | rfl)
        · exact ⟨.inl h1, h2⟩
        · exact ⟨.inr rfl, hne⟩
theorem cnt_or (f g : Nat → Bool) (n : Nat) : cnt (fun k => f k || g k) n ≤ cnt f n + cnt g n := by
  unfold cnt
  induction List.range n with
  | nil => simp
  | cons x l ih =>
    simp only [List.filter_cons]
    cases f x <;> cases g x <;> simp <;> omega
theorem cnt_mono {f g : Nat → Bool} {n : Nat} (h : ∀ k, k < n → f k = true → g k = true) : cnt f n ≤ cnt g n := by
  unfold cnt
  have : ∀ l : List Nat, (∀ k ∈ l, k < n) → (l.filter f).length ≤ (l.filter g).length := by
    intro l
    induction l with
    | nil => simp
    | cons x l ih =>
      intro hl
      have i := ih fun k hk => hl k (List.mem_cons_of_mem _ hk)
      have hx := h x (hl x List.mem_cons_self)
      simp only [List.filter_cons]
      cases hf : f x with
      | false => cases g x <;> simp <;> omega
      | true => rw [hx hf]; simp; omega
  exact this _ fun k hk => List.mem_range.1 hk
theorem cnt_one (x n : Nat) : cnt (fun k => decide (k = x)) n ≤ 1 := by
  induction n with
  | zero => simp [cnt]
  | succ n ih =>
    unfold cnt at ih ⊢
    rw [List.range_succ, List.filter_append, List.length_append]
    by_cases e : n = x
    · subst e
      have : ((List.range n).filter fun k => decide (k = n)) = [] := List.filter_eq_nil_iff.2 fun k hk => by have := List.mem_range.1 hk; simp; omega
      rw [this]
      simp
    · have : ([n].filter fun k => decide (k = x)) = [] := by simp [e]
      rw [this]
      simpa using ih
theorem cnt_mem : ∀ (l : List Nat) (n : Nat), cnt (fun k => decide (k ∈ l)) n ≤ l.length
  | [], n => by simp [cnt]
  | x :: l, n => by
    have h1 := cnt_or (fun k => decide (k = x)) (fun k => decide (k ∈ l)) n
    have h2 := cnt_one x n
    have h3 := cnt_mem l n
    have h4 : cnt (fun k => decide (k ∈ x :: l)) n ≤ cnt (fun k => decide (k = x) || decide (k ∈ l)) n := cnt_mono fun k _ h => by simpa using h
    rw [List.length_cons]
    omega
theorem free_ex {n : Nat} {a : AA} (l : List Nat) (M : Nat) (hw : ∀ j, a.w j = true → j ∈ l) (hc : ∀ j, a.c j = true ∨ a.e j = true → j ∈ [0, 1]) (hm : cnt a.m n ≤ M) (hn : l.length + 2 + M < n) : (a.free n).length ≠ 0 := by
  have h0 := cnt_not a.held n
  have h1 : cnt a.held n ≤ cnt (fun k => decide (k ∈ l) || (decide (k ∈ [0, 1]) || a.m k)) n := cnt_mono fun k _ h => by
    unfold AA.held at h
    simp only [Bool.or_eq_true] at h
    simp only [Bool.or_eq_true, decide_eq_true_eq]
    rcases h with ((h | h) | h) | h
    · exact .inl (hw k h)
    · exact .inr (.inl (hc k (.inl h)))
    · exact .inr (.inl (hc k (.inr h)))
    · exact .inr (.inr h)
  have h2 := cnt_or (fun k => decide (k ∈ l)) (fun k => decide (k ∈ [0, 1]) || a.m k) n
  have h3 := cnt_or (fun k => decide (k ∈ [0, 1])) a.m n
  have h4 := cnt_mem l n
  have h5 := cnt_mem [0, 1] n
  simp only [List.length_cons, List.length_nil] at h5
  have : (a.free n).length = ((List.range n).filter fun k => !a.held k).length := rfl
  omega
end Go.Proofs.YtdifnahlheogdaaGreatDoor.Pure
