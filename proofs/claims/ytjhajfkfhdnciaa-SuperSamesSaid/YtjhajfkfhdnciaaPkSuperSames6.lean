/- SuperSames: texts merged, part 6 of 7. The last part proves that the law SuperSames holds for every input. -/
import Derived.Test.YtjhajfkfhdnciaaPkSuperSames5
/- Lists that are alike; rows of octets read as numbers. -/
set_option linter.unusedVariables false
set_option linter.unusedSimpArgs false
namespace Go.Proofs.Ytjhajfkfhdnciaa.Pure
open Go Go.Xw
theorem ix_ext {a b : List Int} (hl : a.length = b.length) (h : ∀ j, j < a.length → ix a (j : Int) = ix b (j : Int)) : a = b := by
  apply List.ext_getElem hl
  intro i h1 h2
  rw [← ix_nat h1, ← ix_nat h2]
  exact h i h1
theorem ints2_eq {fu : Nat} {a b : List Int} (ha : a.length ≤ 9000000000000000000) (hf : a.length < fu) : rickyardref01_Ints.f fu a b = some (decide (a = b)) := by
  unfold rickyardref01_Ints.f
  by_cases hl : a.length = b.length
  · have hL : (a.length : Int) = (b.length : Int) := by omega
    rw [decide_eq_true hL]
    simp only [Bool.not_true, Bool.false_eq_true, if_false]
    have hs : ∀ j : Nat, j < a.length → rickyardref01_Ints.s0 fu a b (j : Int) = some (if ix a (j : Int) = ix b (j : Int) then .inr ((j + 1 : Nat) : Int) else .inl (.inl false)) := by
      intro j hj
      unfold rickyardref01_Ints.s0
      have h1 : (j : Int) < (a.length : Int) := by omega
      have h2 : (j : Int) < (b.length : Int) := by omega
      have c0 : 0 ≤ (j : Int) := by omega
      have w3 : IntKind.i64.wrap ((j : Int) + 1) = ((j + 1 : Nat) : Int) := by rw [w64 (by omega) (by omega)]; omega
      simp only [h1, h2, c0, and_self, decide_true, if_true, w3]
      by_cases e : ix a (j : Int) = ix b (j : Int) <;> simp [e]
    by_cases h : a = b
    · have : loopM (rickyardref01_Ints.s0 fu a b) fu 0 = some (.inr ()) := by
        refine loopM_run (S := fun j => (j : Int)) a.length rfl (fun j hj => by rw [hs j hj, if_pos (by rw [h])]) ?_ hf
        unfold rickyardref01_Ints.s0
        simp
      rw [this]
      simp [h]
    · have : loopM (rickyardref01_Ints.s0 fu a b) fu 0 = some (.inl false) := by
        refine loopM_bad (S := fun j => (j : Int)) a.length (fun j => ix a (j : Int) = ix b (j : Int)) rfl ?_ (fun j hj _ hg => by rw [hs j hj, if_pos hg]) (fun j hj _ hg => by rw [hs j hj, if_neg hg]) hf
        apply Classical.byContradiction
        intro hx
        exact h (ix_ext hl fun i hi => Classical.byContradiction fun hg => hx ⟨i, hi, hg⟩)
      rw [this]
      simp [h]
  · have hL : ¬ (a.length : Int) = (b.length : Int) := by omega
    have h : ¬ a = b := fun e => hl (by rw [e])
    rw [decide_eq_false hL, decide_eq_false h]
    rfl
theorem equal_eq {fu : Nat} {a b : List Int} (ha : a.length ≤ 9000000000000000000) (hf : a.length < fu) : slices_Equal.f fu a b = some (decide (a = b)) := by
  unfold slices_Equal.f
  by_cases hl : a.length = b.length
  · have hL : (a.length : Int) = (b.length : Int) := by omega
    rw [decide_eq_true hL]
    simp only [Bool.not_true, Bool.false_eq_true, if_false]
    have hs : ∀ j : Nat, j < a.length → slices_Equal.s0 fu a b (j : Int) = some (if ix a (j : Int) = ix b (j : Int) then .inr ((j + 1 : Nat) : Int) else .inl (.inl false)) := by
      intro j hj
      unfold slices_Equal.s0
      have h1 : (j : Int) < (a.length : Int) := by omega
      have h2 : (j : Int) < (b.length : Int) := by omega
      have c0 : 0 ≤ (j : Int) := by omega
      have w3 : IntKind.i64.wrap ((j : Int) + 1) = ((j + 1 : Nat) : Int) := by rw [w64 (by omega) (by omega)]; omega
      simp only [h1, h2, c0, and_self, decide_true, if_true, w3]
      by_cases e : ix a (j : Int) = ix b (j : Int) <;> simp [e]
    by_cases h : a = b
    · have : loopM (slices_Equal.s0 fu a b) fu 0 = some (.inr ()) := by
        refine loopM_run (S := fun j => (j : Int)) a.length rfl (fun j hj => by rw [hs j hj, if_pos (by rw [h])]) ?_ hf
        unfold slices_Equal.s0
        simp
      rw [this]
      simp [h]
    · have : loopM (slices_Equal.s0 fu a b) fu 0 = some (.inl false) := by
        refine loopM_bad (S := fun j => (j : Int)) a.length (fun j => ix a (j : Int) = ix b (j : Int)) rfl ?_ (fun j hj _ hg => by rw [hs j hj, if_pos hg]) (fun j hj _ hg => by rw [hs j hj, if_neg hg]) hf
        apply Classical.byContradiction
        intro hx
        exact h (ix_ext hl fun i hi => Classical.byContradiction fun hg => hx ⟨i, hi, hg⟩)
      rw [this]
      simp [h]
  · have hL : ¬ (a.length : Int) = (b.length : Int) := by omega
    have h : ¬ a = b := fun e => hl (by rw [e])
    rw [decide_eq_false hL, decide_eq_false h]
    rfl
def rowE (l : List Int) (n : Nat) : List Int := (List.range n).flatMap fun (i : Nat) => lay (u64n (ix l (i : Int))) 2
theorem rowE_len (l : List Int) (n : Nat) : (rowE l n).length = 2 * n := flat_len (fun i => lay_len _ _) n
theorem rowE_bytes (l : List Int) (n : Nat) : Bytes (rowE l n) := flat_bytes (fun i => lay_bytes _ _) n
theorem lim_of' {a b : Nat} (h : a + b ≤ 1000) : a + b ≤ LIM := by
  have : (1000 : Nat) ≤ LIM := by decide
  omega
def part (l : List Int) (i n : Nat) : List Int := (l.drop i).take n
theorem part_len {l : List Int} {i n : Nat} (h : i + n ≤ l.length) : (part l i n).length = n := by
  unfold part
  rw [List.length_take, List.length_drop]
  omega
theorem part_bytes {l : List Int} (hb : Bytes l) (i n : Nat) : Bytes (part l i n) := (hb.drop i).take n
def intAt (l : List Int) (i n : Nat) : Int := IntKind.i64.wrap ((num (part l i n) : Nat) : Int)
theorem rintAt_eq {fu : Nat} {b : List Int} {i n : Nat} (hb : Bytes b) (h : i + n ≤ b.length) (hn : n ≤ 8) (hf : 100 < fu) : rickyardref01_Int.f fu (cut (b.map toB) (i : Int) ((i + n : Nat) : Int)) = some (intAt b i n) := by
  have e : cut (b.map toB) (i : Int) ((i + n : Nat) : Int) = (part b i n).map toB := by
    unfold cut part
    rw [Int.toNat_natCast, Int.toNat_natCast, List.drop_take, ← List.map_drop, ← List.map_take]
    congr 2
    omega
  rw [e, rint_eq (part_bytes hb i n) (by rw [part_len h]; exact hn) (by rw [part_len h]; omega)]
  rfl
theorem u64n_i64 {n : Nat} (h : n < 18446744073709551616) : u64n (IntKind.i64.wrap (n : Int)) = n := by
  unfold u64n IntKind.wrap
  simp only [IntKind.signed, IntKind.bits]
  simp
  split <;> omega
theorem lay_part {l : List Int} {i n : Nat} (hb : Bytes l) (h : i + n ≤ l.length) (hn : n ≤ 8) : lay (u64n (intAt l i n)) n = part l i n := by
  have hpl := part_len h
  have hpb := part_bytes hb i n
  unfold intAt
  rw [u64n_i64 (num_lt8 hpb (by omega))]
  have := lay_num hpb
  rwa [hpl] at this
theorem intAt_small {l : List Int} {i n : Nat} (hb : Bytes l) (h : i + n ≤ l.length) (hn : n ≤ 7) : intAt l i n = ((num (part l i n) : Nat) : Int) := num_small (part_bytes hb i n) (by rw [part_len h]; exact hn)
theorem ix_map {f : Nat → Int} {t i : Nat} (h : i < t) : ix ((List.range t).map f) (i : Int) = f i := by
  rw [ix_nat (by simpa using h)]
  simp
end Go.Proofs.Ytjhajfkfhdnciaa.Pure

/- rickyard/rickyardref12.Right: its model, and that the Go function computes it: written by gen.py. -/
set_option linter.unusedVariables false
namespace Go.Proofs.Ytjhajfkfhdnciaa
open Go Go.Xw
def rickyardref12_Right.f (fu : Nat) (a0 : S_api_Geometry) : Option Bool := some ((if (decide (a0.Blocks ≥ 16)) = true then (if (decide (a0.Blocks ≤ 3072)) = true then (if (decide (a0.Slots ≥ 1)) = true then (if (decide (a0.Slots ≤ 1792)) = true then (if (decide (a0.Gens ≥ 1)) = true then (decide (a0.Gens ≤ 4294967295)) else false) else false) else false) else false) else false))
set_option maxRecDepth 100000 in
set_option maxHeartbeats 400000 in
theorem rickyardref12_Right.ok (fu : Nat) (w : World) (a0 : S_api_Geometry) (r : Bool) (h : rickyardref12_Right.f fu a0 = some r) :
    Calls Try.prog 124 (([aggV [Seg.cell (.int .i64 a0.Blocks), Seg.cell (.int .i64 a0.Slots), Seg.cell (.int .i64 a0.Gens)]] : List Value).toArray) w (fun e w' => ∃ v, e = .returned v ∧ v = .bool r ∧ Gr w w') := by
  unfold rickyardref12_Right.f at h
  have fB : Gr w w := Fr.refl _ _
  refine calls_cw Try.func124 rfl Try.ntmps124 rfl ?_
  refine cw_seq ?_
  refine cw_region ?_
  refine ol_op (by exact opv_box (ss := [Seg.cell (.int .i64 a0.Blocks), Seg.cell (.int .i64 a0.Slots), Seg.cell (.int .i64 a0.Gens)]) rfl rfl rfl) rfl rfl rfl ?_
  rintro _ w6 ⟨G1, rfl, b2, q3, z4⟩
  have z4 := Nat.le_trans fB.size z4
  have fB := fB.gr q3
  refine ol_val (v := .bool false) (by exact xr_assign rfl rfl) rfl rfl rfl ?_
  refine ol_nil ?_
  refine cw_seq ?_
  refine cw_mid (fun ρ' w' => ρ' 2 = .bool (if (decide (a0.Blocks ≥ 16)) = true then (if (decide (a0.Blocks ≤ 3072)) = true then (if (decide (a0.Slots ≥ 1)) = true then (if (decide (a0.Slots ≤ 1792)) = true then (if (decide (a0.Gens ≥ 1)) = true then (decide (a0.Gens ≤ 4294967295)) else false) else false) else false) else false) else false) ∧ w6 = w') ?_ ?_
  · skip
    refine cw_region ?_
    refine ol_val (v := .pointer (some ⟨G1, 0, none⟩)) (by exact xr_fieldAddr (p := 0) (q := 0) rfl fl116_0 rfl) rfl rfl rfl ?_
    refine ol_val (v := .int .i64 a0.Blocks) (by exact xr_load1 (v := .int .i64 a0.Blocks) rfl ag3 rfl (b2.seg 0 rfl rfl)) rfl rfl rfl ?_
    refine ol_val (v := .bool (decide (a0.Blocks ≥ 16))) (by exact xr_geq rfl rfl rfl) rfl rfl rfl ?_
    refine ol_val (v := .bool (decide (a0.Blocks ≥ 16))) (by exact xr_move rfl rfl) rfl rfl rfl ?_
    rcases bt (decide (a0.Blocks ≥ 16)) with c7 | c7
    · skip
      refine ol_gval (v := .pointer (some ⟨G1, 0, none⟩)) (by exact xr_fieldAddr (p := 0) (q := 0) rfl fl116_0 rfl) rfl rfl rfl rfl rfl c7 ?_
      refine ol_gval (v := .int .i64 a0.Blocks) (by exact xr_load1 (v := .int .i64 a0.Blocks) rfl ag3 rfl (b2.seg 0 rfl rfl)) rfl rfl rfl rfl rfl c7 ?_
      refine ol_gval (v := .bool (decide (a0.Blocks ≤ 3072))) (by exact xr_leq rfl rfl rfl) rfl rfl rfl rfl rfl c7 ?_
      refine ol_val (v := .bool (decide (a0.Blocks ≤ 3072))) (by exact xr_pickT rfl rfl c7 rfl) rfl rfl rfl ?_
      refine ol_val (v := .bool (decide (a0.Blocks ≤ 3072))) (by exact xr_move rfl rfl) rfl rfl rfl ?_
      rcases bt (decide (a0.Blocks ≤ 3072)) with c8 | c8
      · skip
        refine ol_gval (v := .pointer (some ⟨G1, 1, none⟩)) (by exact xr_fieldAddr (p := 0) (q := 1) rfl fl116_1 rfl) rfl rfl rfl rfl rfl c8 ?_
        refine ol_gval (v := .int .i64 a0.Slots) (by exact xr_load1 (v := .int .i64 a0.Slots) rfl ag3 rfl (b2.seg 1 rfl rfl)) rfl rfl rfl rfl rfl c8 ?_
        refine ol_gval (v := .bool (decide (a0.Slots ≥ 1))) (by exact xr_geq rfl rfl rfl) rfl rfl rfl rfl rfl c8 ?_
        refine ol_val (v := .bool (decide (a0.Slots ≥ 1))) (by exact xr_pickT rfl rfl c8 rfl) rfl rfl rfl ?_
        refine ol_val (v := .bool (decide (a0.Slots ≥ 1))) (by exact xr_move rfl rfl) rfl rfl rfl ?_
        rcases bt (decide (a0.Slots ≥ 1)) with c9 | c9
        · skip
          refine ol_gval (v := .pointer (some ⟨G1, 1, none⟩)) (by exact xr_fieldAddr (p := 0) (q := 1) rfl fl116_1 rfl) rfl rfl rfl rfl rfl c9 ?_
          refine ol_gval (v := .int .i64 a0.Slots) (by exact xr_load1 (v := .int .i64 a0.Slots) rfl ag3 rfl (b2.seg 1 rfl rfl)) rfl rfl rfl rfl rfl c9 ?_
          refine ol_gval (v := .bool (decide (a0.Slots ≤ 1792))) (by exact xr_leq rfl rfl rfl) rfl rfl rfl rfl rfl c9 ?_
          refine ol_val (v := .bool (decide (a0.Slots ≤ 1792))) (by exact xr_pickT rfl rfl c9 rfl) rfl rfl rfl ?_
          refine ol_val (v := .bool (decide (a0.Slots ≤ 1792))) (by exact xr_move rfl rfl) rfl rfl rfl ?_
          rcases bt (decide (a0.Slots ≤ 1792)) with c10 | c10
          · skip
            refine ol_gval (v := .pointer (some ⟨G1, 2, none⟩)) (by exact xr_fieldAddr (p := 0) (q := 2) rfl fl116_2 rfl) rfl rfl rfl rfl rfl c10 ?_
            refine ol_gval (v := .int .i64 a0.Gens) (by exact xr_load1 (v := .int .i64 a0.Gens) rfl ag3 rfl (b2.seg 2 rfl rfl)) rfl rfl rfl rfl rfl c10 ?_
            refine ol_gval (v := .bool (decide (a0.Gens ≥ 1))) (by exact xr_geq rfl rfl rfl) rfl rfl rfl rfl rfl c10 ?_
            refine ol_val (v := .bool (decide (a0.Gens ≥ 1))) (by exact xr_pickT rfl rfl c10 rfl) rfl rfl rfl ?_
            refine ol_val (v := .bool (decide (a0.Gens ≥ 1))) (by exact xr_move rfl rfl) rfl rfl rfl ?_
            rcases bt (decide (a0.Gens ≥ 1)) with c11 | c11
            · skip
              refine ol_gval (v := .pointer (some ⟨G1, 2, none⟩)) (by exact xr_fieldAddr (p := 0) (q := 2) rfl fl116_2 rfl) rfl rfl rfl rfl rfl c11 ?_
              refine ol_gval (v := .int .i64 a0.Gens) (by exact xr_load1 (v := .int .i64 a0.Gens) rfl ag3 rfl (b2.seg 2 rfl rfl)) rfl rfl rfl rfl rfl c11 ?_
              refine ol_gval (v := .bool (decide (a0.Gens ≤ 4294967295))) (by exact xr_leq rfl rfl rfl) rfl rfl rfl rfl rfl c11 ?_
              refine ol_val (v := .bool (decide (a0.Gens ≤ 4294967295))) (by exact xr_pickT rfl rfl c11 rfl) rfl rfl rfl ?_
              refine ol_val (v := .bool (decide (a0.Gens ≤ 4294967295))) (by exact xr_assign rfl rfl) rfl rfl rfl ?_
              refine ol_nil ?_
              refine thn_i ?_
              exact ⟨(rfl).trans (congrArg (fun z => (.bool z : Value)) (show (decide (a0.Gens ≤ 4294967295)) = (if (decide (a0.Blocks ≥ 16)) = true then (if (decide (a0.Blocks ≤ 3072)) = true then (if (decide (a0.Slots ≥ 1)) = true then (if (decide (a0.Slots ≤ 1792)) = true then (if (decide (a0.Gens ≥ 1)) = true then (decide (a0.Gens ≤ 4294967295)) else false) else false) else false) else false) else false) from by rw [ite_t c7, ite_t c8, ite_t c9, ite_t c10, ite_t c11])), rfl⟩
            · skip
              refine ol_gskip rfl rfl rfl rfl rfl c11 ?_
              refine ol_gskip rfl rfl rfl rfl rfl c11 ?_
              refine ol_gskip rfl rfl rfl rfl rfl c11 ?_
              refine ol_val (v := .bool false) (by exact xr_pickF rfl rfl c11 rfl) rfl rfl rfl ?_
              refine ol_val (v := .bool false) (by exact xr_assign rfl rfl) rfl rfl rfl ?_
              refine ol_nil ?_
              refine thn_i ?_
              exact ⟨(rfl).trans (congrArg (fun z => (.bool z : Value)) (show false = (if (decide (a0.Blocks ≥ 16)) = true then (if (decide (a0.Blocks ≤ 3072)) = true then (if (decide (a0.Slots ≥ 1)) = true then (if (decide (a0.Slots ≤ 1792)) = true then (if (decide (a0.Gens ≥ 1)) = true then (decide (a0.Gens ≤ 4294967295)) else false) else false) else false) else false) else false) from by rw [ite_t c7, ite_t c8, ite_t c9, ite_t c10, ite_f c11])), rfl⟩
          · skip
            refine ol_gskip rfl rfl rfl rfl rfl c10 ?_
            refine ol_gskip rfl rfl rfl rfl rfl c10 ?_
            refine ol_gskip rfl rfl rfl rfl rfl c10 ?_
            refine ol_val (v := .bool false) (by exact xr_pickF rfl rfl c10 rfl) rfl rfl rfl ?_
            refine ol_val (v := .bool false) (by exact xr_move rfl rfl) rfl rfl rfl ?_
            refine ol_gskip rfl rfl rfl rfl rfl rfl ?_
            refine ol_gskip rfl rfl rfl rfl rfl rfl ?_
            refine ol_gskip rfl rfl rfl rfl rfl rfl ?_
            refine ol_val (v := .bool false) (by exact xr_pickF rfl rfl rfl rfl) rfl rfl rfl ?_
            refine ol_val (v := .bool false) (by exact xr_assign rfl rfl) rfl rfl rfl ?_
            refine ol_nil ?_
            refine thn_i ?_
            exact ⟨(rfl).trans (congrArg (fun z => (.bool z : Value)) (show false = (if (decide (a0.Blocks ≥ 16)) = true then (if (decide (a0.Blocks ≤ 3072)) = true then (if (decide (a0.Slots ≥ 1)) = true then (if (decide (a0.Slots ≤ 1792)) = true then (if (decide (a0.Gens ≥ 1)) = true then (decide (a0.Gens ≤ 4294967295)) else false) else false) else false) else false) else false) from by rw [ite_t c7, ite_t c8, ite_t c9, ite_f c10])), rfl⟩
        · skip
          refine ol_gskip rfl rfl rfl rfl rfl c9 ?_
          refine ol_gskip rfl rfl rfl rfl rfl c9 ?_
          refine ol_gskip rfl rfl rfl rfl rfl c9 ?_
          refine ol_val (v := .bool false) (by exact xr_pickF rfl rfl c9 rfl) rfl rfl rfl ?_
          refine ol_val (v := .bool false) (by exact xr_move rfl rfl) rfl rfl rfl ?_
          refine ol_gskip rfl rfl rfl rfl rfl rfl ?_
          refine ol_gskip rfl rfl rfl rfl rfl rfl ?_
          refine ol_gskip rfl rfl rfl rfl rfl rfl ?_
          refine ol_val (v := .bool false) (by exact xr_pickF rfl rfl rfl rfl) rfl rfl rfl ?_
          refine ol_val (v := .bool false) (by exact xr_move rfl rfl) rfl rfl rfl ?_
          refine ol_gskip rfl rfl rfl rfl rfl rfl ?_
          refine ol_gskip rfl rfl rfl rfl rfl rfl ?_
          refine ol_gskip rfl rfl rfl rfl rfl rfl ?_
          refine ol_val (v := .bool false) (by exact xr_pickF rfl rfl rfl rfl) rfl rfl rfl ?_
          refine ol_val (v := .bool false) (by exact xr_assign rfl rfl) rfl rfl rfl ?_
          refine ol_nil ?_
          refine thn_i ?_
          exact ⟨(rfl).trans (congrArg (fun z => (.bool z : Value)) (show false = (if (decide (a0.Blocks ≥ 16)) = true then (if (decide (a0.Blocks ≤ 3072)) = true then (if (decide (a0.Slots ≥ 1)) = true then (if (decide (a0.Slots ≤ 1792)) = true then (if (decide (a0.Gens ≥ 1)) = true then (decide (a0.Gens ≤ 4294967295)) else false) else false) else false) else false) else false) from by rw [ite_t c7, ite_t c8, ite_f c9])), rfl⟩
      · skip
        refine ol_gskip rfl rfl rfl rfl rfl c8 ?_
        refine ol_gskip rfl rfl rfl rfl rfl c8 ?_
        refine ol_gskip rfl rfl rfl rfl rfl c8 ?_
        refine ol_val (v := .bool false) (by exact xr_pickF rfl rfl c8 rfl) rfl rfl rfl ?_
        refine ol_val (v := .bool false) (by exact xr_move rfl rfl) rfl rfl rfl ?_
        refine ol_gskip rfl rfl rfl rfl rfl rfl ?_
        refine ol_gskip rfl rfl rfl rfl rfl rfl ?_
        refine ol_gskip rfl rfl rfl rfl rfl rfl ?_
        refine ol_val (v := .bool false) (by exact xr_pickF rfl rfl rfl rfl) rfl rfl rfl ?_
        refine ol_val (v := .bool false) (by exact xr_move rfl rfl) rfl rfl rfl ?_
        refine ol_gskip rfl rfl rfl rfl rfl rfl ?_
        refine ol_gskip rfl rfl rfl rfl rfl rfl ?_
        refine ol_gskip rfl rfl rfl rfl rfl rfl ?_
        refine ol_val (v := .bool false) (by exact xr_pickF rfl rfl rfl rfl) rfl rfl rfl ?_
        refine ol_val (v := .bool false) (by exact xr_move rfl rfl) rfl rfl rfl ?_
        refine ol_gskip rfl rfl rfl rfl rfl rfl ?_
        refine ol_gskip rfl rfl rfl rfl rfl rfl ?_
        refine ol_gskip rfl rfl rfl rfl rfl rfl ?_
        refine ol_val (v := .bool false) (by exact xr_pickF rfl rfl rfl rfl) rfl rfl rfl ?_
        refine ol_val (v := .bool false) (by exact xr_assign rfl rfl) rfl rfl rfl ?_
        refine ol_nil ?_
        refine thn_i ?_
        exact ⟨(rfl).trans (congrArg (fun z => (.bool z : Value)) (show false = (if (decide (a0.Blocks ≥ 16)) = true then (if (decide (a0.Blocks ≤ 3072)) = true then (if (decide (a0.Slots ≥ 1)) = true then (if (decide (a0.Slots ≤ 1792)) = true then (if (decide (a0.Gens ≥ 1)) = true then (decide (a0.Gens ≤ 4294967295)) else false) else false) else false) else false) else false) from by rw [ite_t c7, ite_f c8])), rfl⟩
    · skip
      refine ol_gskip rfl rfl rfl rfl rfl c7 ?_
      refine ol_gskip rfl rfl rfl rfl rfl c7 ?_
      refine ol_gskip rfl rfl rfl rfl rfl c7 ?_
      refine ol_val (v := .bool false) (by exact xr_pickF rfl rfl c7 rfl) rfl rfl rfl ?_
      refine ol_val (v := .bool false) (by exact xr_move rfl rfl) rfl rfl rfl ?_
      refine ol_gskip rfl rfl rfl rfl rfl rfl ?_
      refine ol_gskip rfl rfl rfl rfl rfl rfl ?_
      refine ol_gskip rfl rfl rfl rfl rfl rfl ?_
      refine ol_val (v := .bool false) (by exact xr_pickF rfl rfl rfl rfl) rfl rfl rfl ?_
      refine ol_val (v := .bool false) (by exact xr_move rfl rfl) rfl rfl rfl ?_
      refine ol_gskip rfl rfl rfl rfl rfl rfl ?_
      refine ol_gskip rfl rfl rfl rfl rfl rfl ?_
      refine ol_gskip rfl rfl rfl rfl rfl rfl ?_
      refine ol_val (v := .bool false) (by exact xr_pickF rfl rfl rfl rfl) rfl rfl rfl ?_
      refine ol_val (v := .bool false) (by exact xr_move rfl rfl) rfl rfl rfl ?_
      refine ol_gskip rfl rfl rfl rfl rfl rfl ?_
      refine ol_gskip rfl rfl rfl rfl rfl rfl ?_
      refine ol_gskip rfl rfl rfl rfl rfl rfl ?_
      refine ol_val (v := .bool false) (by exact xr_pickF rfl rfl rfl rfl) rfl rfl rfl ?_
      refine ol_val (v := .bool false) (by exact xr_move rfl rfl) rfl rfl rfl ?_
      refine ol_gskip rfl rfl rfl rfl rfl rfl ?_
      refine ol_gskip rfl rfl rfl rfl rfl rfl ?_
      refine ol_gskip rfl rfl rfl rfl rfl rfl ?_
      refine ol_val (v := .bool false) (by exact xr_pickF rfl rfl rfl rfl) rfl rfl rfl ?_
      refine ol_val (v := .bool false) (by exact xr_assign rfl rfl) rfl rfl rfl ?_
      refine ol_nil ?_
      refine thn_i ?_
      exact ⟨(rfl).trans (congrArg (fun z => (.bool z : Value)) (show false = (if (decide (a0.Blocks ≥ 16)) = true then (if (decide (a0.Blocks ≤ 3072)) = true then (if (decide (a0.Slots ≥ 1)) = true then (if (decide (a0.Slots ≤ 1792)) = true then (if (decide (a0.Gens ≥ 1)) = true then (decide (a0.Gens ≤ 4294967295)) else false) else false) else false) else false) else false) from by rw [ite_f c7])), rfl⟩
  · skip
    rintro ρ12 _ ⟨e2, rfl⟩
    refine cw_ret ?_
    repeat (first | with_reducible refine thn_r ?_ | with_reducible refine blk_r ?_)
    obtain rfl := Option.some.inj h
    refine fin_ret1 Try.results124 e2 ?_
    exact ⟨_, rfl, rfl, fB⟩
end Go.Proofs.Ytjhajfkfhdnciaa

/- rickyard/rickyardref12.Need: its model, and that the Go function computes it: written by gen.py. -/
set_option linter.unusedVariables false
namespace Go.Proofs.Ytjhajfkfhdnciaa
open Go Go.Xw
def rickyardref12_Need.s0 (fu : Nat) (a0 : Int) (a1 : Int) : Int → Option (Sum Int Int) := fun s1 => (if (decide ((IntKind.i64.wrap (s1 * a1)) < a0)) = true then some (Sum.inr ((IntKind.i64.wrap (s1 + 1)))) else some (Sum.inl (s1)))
def rickyardref12_Need.f (fu : Nat) (a0 : Int) (a1 : Int) : Option Int := ((loopM (rickyardref12_Need.s0 fu a0 a1) fu (0)).bind fun e2 => some (e2))
set_option maxRecDepth 100000 in
set_option maxHeartbeats 400000 in
theorem rickyardref12_Need.ok (fu : Nat) (w : World) (a0 : Int) (a1 : Int) (r : Int) (h : rickyardref12_Need.f fu a0 a1 = some r) :
    Calls Try.prog 143 (([.int .i64 a0, .int .i64 a1] : List Value).toArray) w (fun e w' => ∃ v, e = .returned v ∧ v = .int .i64 r ∧ Gr w w') := by
  unfold rickyardref12_Need.f at h
  have fB : Gr w w := Fr.refl _ _
  refine calls_cw Try.func143 rfl Try.ntmps143 rfl ?_
  refine cw_seq ?_
  refine cw_region ?_
  refine ol_val (v := .int .i64 0) (by exact xr_assign rfl rfl) rfl rfl rfl ?_
  refine ol_nil ?_
  refine cw_seq ?_
  refine cw_region ?_
  refine ol_val (v := .int .i64 0) (by exact xr_assign rfl rfl) rfl rfl rfl ?_
  refine ol_nil ?_
  refine cw_seq ?_
  obtain ⟨e2, l3, h4⟩ := bs h
  refine cw_mid (fun ρ' w' => ρ' 5 = .int .i64 e2 ∧ Gr w w') ?_ ?_
  · refine cw_block ?_
    refine cw_round (fun (s1 : Int) ρ' w' => ρ' 0 = .int .i64 a0 ∧ ρ' 1 = .int .i64 a1 ∧ ρ' 5 = .int .i64 s1 ∧ Gr w w') l3 ?_ ?_
    · skip
      exact ⟨rfl, rfl, rfl, fB⟩
    · rintro s1 x7 ρ5 w6 ⟨e0, e1, e5, fB⟩ h
      unfold rickyardref12_Need.s0 at h
      refine cw_seq ?_
      refine cw_seq ?_
      refine cw_region ?_
      refine ol_val (v := .int .i64 s1) (by exact xr_move rfl e5) rfl rfl rfl ?_
      refine ol_val (v := .int .i64 a1) (by exact xr_move rfl e1) rfl rfl rfl ?_
      refine ol_val (v := .int .i64 (IntKind.i64.wrap (s1 * a1))) (by exact xr_mul rfl rfl rfl) rfl rfl rfl ?_
      refine ol_val (v := .int .i64 a0) (by exact xr_move rfl e0) rfl rfl rfl ?_
      refine ol_val (v := .bool (decide ((IntKind.i64.wrap (s1 * a1)) < a0))) (by exact xr_lss rfl rfl rfl) rfl rfl rfl ?_
      refine ol_nil ?_
      rcases is h with ⟨c8, h⟩ | ⟨c8, h⟩
      · refine cw_condT rfl c8 ?_
        refine cw_skip ?_
        refine cw_block ?_
        refine cw_region ?_
        refine ol_val (v := .int .i64 s1) (by exact xr_move rfl e5) rfl rfl rfl ?_
        refine ol_val (v := .int .i64 (IntKind.i64.wrap (s1 + 1))) (by exact xr_add rfl rfl rfl) rfl rfl rfl ?_
        refine ol_val (v := .int .i64 (IntKind.i64.wrap (s1 + 1))) (by exact xr_assign rfl rfl) rfl rfl rfl ?_
        refine ol_nil ?_
        refine blk_i ?_
        obtain rfl := Option.some.inj h
        refine lp_in ?_
        exact ⟨e0, e1, rfl, fB⟩
      · refine cw_condF rfl c8 ?_
        refine cw_exit ?_
        repeat (first | with_reducible refine thn_e ?_ | with_reducible refine blk_e rfl ?_)
        obtain rfl := Option.some.inj h
        refine lp_exit ?_
        rintro rfl
        refine thn_x ?_
        exact ⟨e5, fB⟩
  · rintro ρ9 w10 ⟨e5, fB⟩
    have h := h4
    refine cw_seq ?_
    refine cw_region ?_
    refine ol_val (v := .int .i64 e2) (by exact xr_move rfl e5) rfl rfl rfl ?_
    refine ol_val (v := .int .i64 e2) (by exact xr_assign rfl rfl) rfl rfl rfl ?_
    refine ol_nil ?_
    refine cw_ret ?_
    repeat (first | with_reducible refine thn_r ?_ | with_reducible refine blk_r ?_)
    obtain rfl := Option.some.inj h
    refine fin_ret1 Try.results143 rfl ?_
    exact ⟨_, rfl, rfl, fB⟩
end Go.Proofs.Ytjhajfkfhdnciaa

/- rickyard/rickyardref12.Charts: its model, and that the Go function computes it: written by gen.py. -/
set_option linter.unusedVariables false
namespace Go.Proofs.Ytjhajfkfhdnciaa
open Go Go.Xw
def rickyardref12_Charts.f (fu : Nat) (a0 : S_api_Geometry) : Option Int := ((rickyardref12_Need.f fu a0.Blocks 384 : Option Int).bind fun t7 => some (t7))
set_option maxRecDepth 100000 in
set_option maxHeartbeats 400000 in
theorem rickyardref12_Charts.ok (fu : Nat) (w : World) (a0 : S_api_Geometry) (r : Int) (h : rickyardref12_Charts.f fu a0 = some r) :
    Calls Try.prog 125 (([aggV [Seg.cell (.int .i64 a0.Blocks), Seg.cell (.int .i64 a0.Slots), Seg.cell (.int .i64 a0.Gens)]] : List Value).toArray) w (fun e w' => ∃ v, e = .returned v ∧ v = .int .i64 r ∧ Gr w w') := by
  unfold rickyardref12_Charts.f at h
  have fB : Gr w w := Fr.refl _ _
  refine calls_cw Try.func125 rfl Try.ntmps125 rfl ?_
  refine cw_seq ?_
  refine cw_region ?_
  refine ol_op (by exact opv_box (ss := [Seg.cell (.int .i64 a0.Blocks), Seg.cell (.int .i64 a0.Slots), Seg.cell (.int .i64 a0.Gens)]) rfl rfl rfl) rfl rfl rfl ?_
  rintro _ w6 ⟨G1, rfl, b2, q3, z4⟩
  have z4 := Nat.le_trans fB.size z4
  have fB := fB.gr q3
  refine ol_val (v := .int .i64 0) (by exact xr_assign rfl rfl) rfl rfl rfl ?_
  refine ol_nil ?_
  refine cw_seq ?_
  refine cw_region ?_
  refine ol_val (v := .pointer (some ⟨G1, 0, none⟩)) (by exact xr_fieldAddr (p := 0) (q := 0) rfl fl116_0 rfl) rfl rfl rfl ?_
  refine ol_val (v := .int .i64 a0.Blocks) (by exact xr_load1 (v := .int .i64 a0.Blocks) rfl ag3 rfl (b2.seg 0 rfl rfl)) rfl rfl rfl ?_
  obtain ⟨t7, k8, h⟩ := bs h
  refine ol_op (by exact opv_call rfl cal143 (ac rfl (ac rfl an)) (rickyardref12_Need.ok fu _ a0.Blocks 384 _ k8)) rfl rfl rfl ?_
  rintro _ w10 ⟨rfl, q9⟩
  have fB := fB.gr q9
  refine ol_val (v := .int .i64 t7) (by exact xr_assign rfl rfl) rfl rfl rfl ?_
  refine ol_nil ?_
  refine cw_ret ?_
  repeat (first | with_reducible refine thn_r ?_ | with_reducible refine blk_r ?_)
  obtain rfl := Option.some.inj h
  refine fin_ret1 Try.results125 rfl ?_
  exact ⟨_, rfl, rfl, fB⟩
end Go.Proofs.Ytjhajfkfhdnciaa

/- rickyard/rickyardref13.Right: its model, and that the Go function computes it: written by gen.py. -/
set_option linter.unusedVariables false
namespace Go.Proofs.Ytjhajfkfhdnciaa
open Go Go.Xw
def rickyardref13_Right.s2 (fu : Nat) (a0 : S_api_Super) (s98 : (List Int) × Int) : Int → Option (Sum (Sum (Sum (Sum Bool (List Int)) ((List Int) × Int)) Unit) Int) := fun s130 => (if (decide (s130 < s98.2)) = true then (if 0 ≤ s130 ∧ s130 < (List.length a0.Charts : Int) then (if 0 ≤ s98.2 ∧ s98.2 < (List.length a0.Charts : Int) then (if (decide ((ix a0.Charts s130) = (ix a0.Charts s98.2))) = true then some (Sum.inl (Sum.inl (Sum.inl (Sum.inl (false))))) else some (Sum.inr ((IntKind.i64.wrap (s130 + 1))))) else none) else none) else some (Sum.inl (Sum.inr ())))
def rickyardref13_Right.s1 (fu : Nat) (a0 : S_api_Super) : ((List Int) × Int) → Option (Sum (Sum Bool (List Int)) ((List Int) × Int)) := fun s98 => (if (decide (s98.2 < (List.length a0.Charts : Int))) = true then (if 0 ≤ s98.2 ∧ s98.2 < (List.length a0.Charts : Int) then (if List.length s98.1 + List.length [(ix a0.Charts s98.2)] ≤ LIM then ((loopM (rickyardref13_Right.s2 fu a0 s98) fu (0)).bind fun e131 => match e131 with | Sum.inl p => some p | Sum.inr x134 => some (Sum.inr ((s98.1 ++ [(ix a0.Charts s98.2)]), (IntKind.i64.wrap (s98.2 + 1))))) else none) else none) else some (Sum.inl (Sum.inr (s98.1))))
def rickyardref13_Right.s3 (fu : Nat) (a0 : S_api_Super) (x102 : (List Int)) : Int → Option (Sum (Sum Bool Unit) Int) := fun s149 => (if (decide (s149 < (List.length x102 : Int))) = true then (((if 0 ≤ s149 ∧ s149 < (List.length x102 : Int) then (if (decide ((ix x102 s149) < 2)) = true then some (true) else (if 0 ≤ s149 ∧ s149 < (List.length x102 : Int) then some ((decide ((ix x102 s149) ≥ a0.Tickets.Geometry.Blocks))) else none)) else none) : Option Bool).bind fun x158 => (if x158 = true then some (Sum.inl (Sum.inl (false))) else some (Sum.inr ((IntKind.i64.wrap (s149 + 1)))))) else some (Sum.inl (Sum.inr ())))
def rickyardref13_Right.f (fu : Nat) (a0 : S_api_Super) : Option Bool := (((if (decide (a0.Epoch < 1)) = true then some (true) else (if (decide (a0.Epoch > 4611686018427387904)) = true then some (true) else ((rickyardref12_Right.f fu a0.Tickets.Geometry : Option Bool).bind fun t11 => some ((!t11))))) : Option Bool).bind fun x7 => (if x7 = true then some (false) else (((if (decide (a0.Tickets.High < 0)) = true then some (true) else (if (decide (a0.Tickets.High > a0.Tickets.Geometry.Slots)) = true then some (true) else (if (decide (a0.Tickets.Free < 0)) = true then some (true) else (if (decide (a0.Tickets.Free > a0.Tickets.High)) = true then some (true) else ((rickyardref12_Charts.f fu a0.Tickets.Geometry : Option Int).bind fun t37 => some ((!decide ((List.length a0.Charts : Int) = t37)))))))) : Option Bool).bind fun x19 => (if x19 = true then some (false) else (((if (decide (a0.Tickets.High = 0)) = true then (if (!decide (a0.Tickets.Top = 0)) = true then some (Sum.inl (false)) else some (Sum.inr ([]))) else (if List.length ([] : List Int) + List.length [a0.Tickets.Top] ≤ LIM then some (Sum.inr ((([] : List Int) ++ [a0.Tickets.Top]))) else none)) : Option (Sum Bool (List Int))).bind fun x47 => match x47 with | Sum.inl p => some p | Sum.inr x50 => (((if (!decide (a0.Dir = 0)) = true then (if List.length x50 + List.length [a0.Dir] ≤ LIM then some ((x50 ++ [a0.Dir])) else none) else some (x50)) : Option (List Int)).bind fun x73 => ((loopM (rickyardref13_Right.s1 fu a0) fu (x73, 0)).bind fun e99 => match e99 with | Sum.inl p => some p | Sum.inr x102 => ((loopM (rickyardref13_Right.s3 fu a0 x102) fu (0)).bind fun e150 => match e150 with | Sum.inl p => some p | Sum.inr x153 => some (true)))))))))
set_option maxRecDepth 100000 in
set_option maxHeartbeats 400000 in
theorem rickyardref13_Right.ok (fu : Nat) (w : World) (a0 : S_api_Super) (V0_0 : Value) (R0_0 : Rd (kI .i64) w V0_0 a0.Charts) (r : Bool) (h : rickyardref13_Right.f fu a0 = some r) :
    Calls Try.prog 90 (([aggV [Seg.cell (.int .i64 a0.Epoch), Seg.cell (.int .i64 a0.Tickets.Geometry.Blocks), Seg.cell (.int .i64 a0.Tickets.Geometry.Slots), Seg.cell (.int .i64 a0.Tickets.Geometry.Gens), Seg.cell (.int .i64 a0.Tickets.Top), Seg.cell (.int .i64 a0.Tickets.High), Seg.cell (.int .i64 a0.Tickets.Free), Seg.cell (.int .i64 a0.Dir), Seg.cell V0_0 R0_0.one]] : List Value).toArray) w (fun e w' => ∃ v, e = .returned v ∧ v = .bool r ∧ Gr w w') := by
  unfold rickyardref13_Right.f at h
  have fB : Gr w w := Fr.refl _ _
  refine calls_cw Try.func90 rfl Try.ntmps90 rfl ?_
  refine cw_seq ?_
  refine cw_region ?_
  refine ol_op (by exact opv_box (ss := [Seg.cell (.int .i64 a0.Epoch), Seg.cell (.int .i64 a0.Tickets.Geometry.Blocks), Seg.cell (.int .i64 a0.Tickets.Geometry.Slots), Seg.cell (.int .i64 a0.Tickets.Geometry.Gens), Seg.cell (.int .i64 a0.Tickets.Top), Seg.cell (.int .i64 a0.Tickets.High), Seg.cell (.int .i64 a0.Tickets.Free), Seg.cell (.int .i64 a0.Dir), Seg.cell V0_0 R0_0.one]) rfl rfl rfl) rfl rfl rfl ?_
  rintro _ w6 ⟨G1, rfl, b2, q3, z4⟩
  have z4 := Nat.le_trans fB.size z4
  have fB := fB.gr q3
  refine ol_val (v := .bool false) (by exact xr_assign rfl rfl) rfl rfl rfl ?_
  refine ol_nil ?_
  refine cw_seq ?_
  refine cw_seq ?_
  obtain ⟨x7, j8, h⟩ := bs h
  refine cw_mid (fun ρ' w' => ρ' 1 = .pointer (some ⟨G1, 0, none⟩) ∧ ρ' 21 = .bool x7 ∧ Gr w6 w') ?_ ?_
  · skip
    refine cw_region ?_
    refine ol_val (v := .pointer (some ⟨G1, 0, none⟩)) (by exact xr_fieldAddr (p := 0) (q := 0) rfl fl120_0 rfl) rfl rfl rfl ?_
    refine ol_val (v := .int .i64 a0.Epoch) (by exact xr_load1 (v := .int .i64 a0.Epoch) rfl ag3 rfl (b2.seg 0 rfl rfl)) rfl rfl rfl ?_
    refine ol_val (v := .bool (decide (a0.Epoch < 1))) (by exact xr_lss rfl rfl rfl) rfl rfl rfl ?_
    refine ol_val (v := .bool (decide (a0.Epoch < 1))) (by exact xr_move rfl rfl) rfl rfl rfl ?_
    rcases is j8 with ⟨c9, j8⟩ | ⟨c9, j8⟩
    · skip
      refine ol_gskip rfl rfl rfl rfl rfl c9 ?_
      refine ol_gskip rfl rfl rfl rfl rfl c9 ?_
      refine ol_gskip rfl rfl rfl rfl rfl c9 ?_
      refine ol_val (v := .bool true) (by exact xr_pickT rfl rfl c9 rfl) rfl rfl rfl ?_
      refine ol_val (v := .bool true) (by exact xr_move rfl rfl) rfl rfl rfl ?_
      refine ol_gskip rfl rfl rfl rfl rfl rfl ?_
      refine ol_gskip rfl rfl rfl rfl rfl rfl ?_
      refine ol_gskip rfl rfl rfl rfl rfl rfl ?_
      refine ol_gskip rfl rfl rfl rfl rfl rfl ?_
      refine ol_gskip rfl rfl rfl rfl rfl rfl ?_
      refine ol_val (v := .bool true) (by exact xr_pickT rfl rfl rfl rfl) rfl rfl rfl ?_
      refine ol_nil ?_
      obtain rfl := Option.some.inj j8
      refine thn_i ?_
      exact ⟨rfl, rfl, Fr.refl _ _⟩
    · skip
      refine ol_gval (v := .pointer (some ⟨G1, 0, none⟩)) (by exact xr_fieldAddr (p := 0) (q := 0) rfl fl120_0 rfl) rfl rfl rfl rfl rfl c9 ?_
      refine ol_gval (v := .int .i64 a0.Epoch) (by exact xr_load1 (v := .int .i64 a0.Epoch) rfl ag3 rfl (b2.seg 0 rfl rfl)) rfl rfl rfl rfl rfl c9 ?_
      refine ol_gval (v := .bool (decide (a0.Epoch > 4611686018427387904))) (by exact xr_gtr rfl rfl rfl) rfl rfl rfl rfl rfl c9 ?_
      refine ol_val (v := .bool (decide (a0.Epoch > 4611686018427387904))) (by exact xr_pickF rfl rfl c9 rfl) rfl rfl rfl ?_
      refine ol_val (v := .bool (decide (a0.Epoch > 4611686018427387904))) (by exact xr_move rfl rfl) rfl rfl rfl ?_
      rcases is j8 with ⟨c10, j8⟩ | ⟨c10, j8⟩
      · skip
        refine ol_gskip rfl rfl rfl rfl rfl c10 ?_
        refine ol_gskip rfl rfl rfl rfl rfl c10 ?_
        refine ol_gskip rfl rfl rfl rfl rfl c10 ?_
        refine ol_gskip rfl rfl rfl rfl rfl c10 ?_
        refine ol_gskip rfl rfl rfl rfl rfl c10 ?_
        refine ol_val (v := .bool true) (by exact xr_pickT rfl rfl c10 rfl) rfl rfl rfl ?_
        refine ol_nil ?_
        obtain rfl := Option.some.inj j8
        refine thn_i ?_
        exact ⟨rfl, rfl, Fr.refl _ _⟩
      · skip
        refine ol_gval (v := .pointer (some ⟨G1, 1, none⟩)) (by exact xr_fieldAddr (p := 0) (q := 1) rfl fl120_1 rfl) rfl rfl rfl rfl rfl c10 ?_
        refine ol_gval (v := .pointer (some ⟨G1, 1, none⟩)) (by exact xr_fieldAddr (p := 1) (q := 0) rfl fl118_0 rfl) rfl rfl rfl rfl rfl c10 ?_
        refine ol_gval (v := aggV [Seg.cell (.int .i64 a0.Tickets.Geometry.Blocks), Seg.cell (.int .i64 a0.Tickets.Geometry.Slots), Seg.cell (.int .i64 a0.Tickets.Geometry.Gens)]) (by exact xr_loadS (ss := [Seg.cell (.int .i64 a0.Tickets.Geometry.Blocks), Seg.cell (.int .i64 a0.Tickets.Geometry.Slots), Seg.cell (.int .i64 a0.Tickets.Geometry.Gens)]) rfl ag116 sz116 rfl rfl (b2.segs 1 3 rfl)) rfl rfl rfl rfl rfl c10 ?_
        obtain ⟨t11, k12, j8⟩ := bs j8
        refine ol_gop (by exact opv_call rfl cal124 (ac rfl an) (rickyardref12_Right.ok fu _ a0.Tickets.Geometry _ k12)) rfl rfl rfl rfl rfl c10 ?_
        rintro _ w14 ⟨rfl, q13⟩
        have b2 := b2.gr q13
        have fB := fB.gr q13
        refine ol_gval (v := .bool (!t11)) (by exact xr_not rfl rfl) rfl rfl rfl rfl rfl c10 ?_
        refine ol_val (v := .bool (!t11)) (by exact xr_pickF rfl rfl c10 rfl) rfl rfl rfl ?_
        refine ol_nil ?_
        obtain rfl := Option.some.inj j8
        refine thn_i ?_
        exact ⟨rfl, rfl, q13⟩
  · skip
    rintro ρ15 w16 ⟨e1, e21, q17⟩
    have b2 := b2.gr q17
    have fB := fB.gr q17
    rcases is h with ⟨c18, h⟩ | ⟨c18, h⟩
    · refine cw_condT e21 c18 ?_
      refine cw_seq ?_
      refine cw_region ?_
      refine ol_val (v := .bool false) (by exact xr_assign rfl rfl) rfl rfl rfl ?_
      refine ol_nil ?_
      refine cw_ret ?_
      repeat (first | with_reducible refine thn_r ?_ | with_reducible refine blk_r ?_)
      obtain rfl := Option.some.inj h
      refine fin_ret1 Try.results90 rfl ?_
      exact ⟨_, rfl, rfl, fB⟩
    · refine cw_condF e21 c18 ?_
      refine cw_skip ?_
      refine cw_seq ?_
      refine cw_seq ?_
      obtain ⟨x19, j20, h⟩ := bs h
      refine cw_mid (fun ρ' w' => ρ' 1 = .pointer (some ⟨G1, 0, none⟩) ∧ ρ' 60 = .bool x19 ∧ Gr w16 w') ?_ ?_
      · skip
        rcases is j20 with ⟨c21, j20⟩ | ⟨c21, j20⟩
        · skip
          refine cw_drawL 38 [fun vz wz => vz = (.pointer (some ⟨G1, 1, none⟩) : Value), fun vz wz => vz = (.pointer (some ⟨G1, 5, none⟩) : Value), fun vz wz => vz = (.int .i64 a0.Tickets.High : Value), fun vz wz => vz = (.bool (decide (a0.Tickets.High < 0)) : Value), fun vz wz => vz = (.bool (decide (a0.Tickets.High < 0)) : Value), fun vz _ => vz = undef, fun vz _ => vz = undef, fun vz _ => vz = undef, fun vz _ => vz = undef, fun vz _ => vz = undef, fun vz _ => vz = undef, fun vz _ => vz = undef, fun vz _ => vz = undef, fun vz wz => vz = (.bool true : Value), fun vz wz => vz = (.bool true : Value), fun vz _ => vz = undef, fun vz _ => vz = undef, fun vz _ => vz = undef, fun vz _ => vz = undef, fun vz wz => vz = (.bool true : Value), fun vz wz => vz = (.bool true : Value), fun vz _ => vz = undef, fun vz _ => vz = undef, fun vz _ => vz = undef, fun vz _ => vz = undef, fun vz _ => vz = undef, fun vz _ => vz = undef, fun vz _ => vz = undef, fun vz wz => vz = (.bool true : Value), fun vz wz => vz = (.bool true : Value), fun vz _ => vz = undef, fun vz _ => vz = undef, fun vz _ => vz = undef, fun vz _ => vz = undef, fun vz _ => vz = undef, fun vz _ => vz = undef, fun vz _ => vz = undef, fun vz _ => vz = undef] mo rfl ⟨fun _ _ _ h _ => h, fun _ _ _ h _ => h, fun _ _ _ h _ => h, fun _ _ _ h _ => h, fun _ _ _ h _ => h, fun _ _ _ h _ => h, fun _ _ _ h _ => h, fun _ _ _ h _ => h, fun _ _ _ h _ => h, fun _ _ _ h _ => h, fun _ _ _ h _ => h, fun _ _ _ h _ => h, fun _ _ _ h _ => h, fun _ _ _ h _ => h, fun _ _ _ h _ => h, fun _ _ _ h _ => h, fun _ _ _ h _ => h, fun _ _ _ h _ => h, fun _ _ _ h _ => h, fun _ _ _ h _ => h, fun _ _ _ h _ => h, fun _ _ _ h _ => h, fun _ _ _ h _ => h, fun _ _ _ h _ => h, fun _ _ _ h _ => h, fun _ _ _ h _ => h, fun _ _ _ h _ => h, fun _ _ _ h _ => h, fun _ _ _ h _ => h, fun _ _ _ h _ => h, fun _ _ _ h _ => h, fun _ _ _ h _ => h, fun _ _ _ h _ => h, fun _ _ _ h _ => h, fun _ _ _ h _ => h, fun _ _ _ h _ => h, fun _ _ _ h _ => h, fun _ _ _ h _ => h, trivial⟩ ?_ ?_
          · refine ⟨?_, ?_, ?_, ?_, ?_, ?_, ?_, ?_, ?_, ?_, ?_, ?_, ?_, ?_, ?_, ?_, ?_, ?_, ?_, ?_, ?_, ?_, ?_, ?_, ?_, ?_, ?_, ?_, ?_, ?_, ?_, ?_, ?_, ?_, ?_, ?_, ?_, ?_, trivial⟩
            · intro ρz wz hz hk hd
              exact sk_val (v := .pointer (some ⟨G1, 1, none⟩)) (by exact xr_fieldAddr (p := 0) (q := 1) rfl fl120_1 ((hk 1 rfl).trans e1)) rfl rfl
            · intro ρz wz hz hk hd
              have d22 := hd 0 rfl 22 rfl
              exact sk_val (v := .pointer (some ⟨G1, 5, none⟩)) (by exact xr_fieldAddr (p := 1) (q := 4) rfl fl118_2 d22) rfl rfl
            · intro ρz wz hz hk hd
              have d23 := hd 1 rfl 23 rfl
              exact sk_val (v := .int .i64 a0.Tickets.High) (by exact xr_load1 (v := .int .i64 a0.Tickets.High) rfl ag3 d23 ((b2.gr hz).seg 5 rfl rfl)) rfl rfl
            · intro ρz wz hz hk hd
              have d24 := hd 2 rfl 24 rfl
              exact sk_val (v := .bool (decide (a0.Tickets.High < 0))) (by exact xr_lss rfl d24 rfl) rfl rfl
            · intro ρz wz hz hk hd
              have d25 := hd 3 rfl 25 rfl
              exact sk_val (v := .bool (decide (a0.Tickets.High < 0))) (by exact xr_move rfl d25) rfl rfl
            · intro ρz wz hz hk hd
              have d26 := hd 4 rfl 26 rfl
              exact sk_skip rfl rfl d26 c21 rfl
            · intro ρz wz hz hk hd
              have d26 := hd 4 rfl 26 rfl
              exact sk_skip rfl rfl d26 c21 rfl
            · intro ρz wz hz hk hd
              have d26 := hd 4 rfl 26 rfl
              exact sk_skip rfl rfl d26 c21 rfl
            · intro ρz wz hz hk hd
              have d26 := hd 4 rfl 26 rfl
              exact sk_skip rfl rfl d26 c21 rfl
            · intro ρz wz hz hk hd
              have d26 := hd 4 rfl 26 rfl
              exact sk_skip rfl rfl d26 c21 rfl
            · intro ρz wz hz hk hd
              have d26 := hd 4 rfl 26 rfl
              exact sk_skip rfl rfl d26 c21 rfl
            · intro ρz wz hz hk hd
              have d26 := hd 4 rfl 26 rfl
              exact sk_skip rfl rfl d26 c21 rfl
            · intro ρz wz hz hk hd
              have d26 := hd 4 rfl 26 rfl
              exact sk_skip rfl rfl d26 c21 rfl
            · intro ρz wz hz hk hd
              have d26 := hd 4 rfl 26 rfl
              exact sk_val (v := .bool true) (by exact xr_pickT rfl d26 c21 rfl) rfl rfl
            · intro ρz wz hz hk hd
              have d35 := hd 13 rfl 35 rfl
              exact sk_val (v := .bool true) (by exact xr_move rfl d35) rfl rfl
            · intro ρz wz hz hk hd
              have d36 := hd 14 rfl 36 rfl
              exact sk_skip rfl rfl d36 rfl rfl
            · intro ρz wz hz hk hd
              have d36 := hd 14 rfl 36 rfl
              exact sk_skip rfl rfl d36 rfl rfl
            · intro ρz wz hz hk hd
              have d36 := hd 14 rfl 36 rfl
              exact sk_skip rfl rfl d36 rfl rfl
            · intro ρz wz hz hk hd
              have d36 := hd 14 rfl 36 rfl
              exact sk_skip rfl rfl d36 rfl rfl
            · intro ρz wz hz hk hd
              have d36 := hd 14 rfl 36 rfl
              exact sk_val (v := .bool true) (by exact xr_pickT rfl d36 rfl rfl) rfl rfl
            · intro ρz wz hz hk hd
              have d41 := hd 19 rfl 41 rfl
              exact sk_val (v := .bool true) (by exact xr_move rfl d41) rfl rfl
            · intro ρz wz hz hk hd
              have d42 := hd 20 rfl 42 rfl
              exact sk_skip rfl rfl d42 rfl rfl
            · intro ρz wz hz hk hd
              have d42 := hd 20 rfl 42 rfl
              exact sk_skip rfl rfl d42 rfl rfl
            · intro ρz wz hz hk hd
              have d42 := hd 20 rfl 42 rfl
              exact sk_skip rfl rfl d42 rfl rfl
            · intro ρz wz hz hk hd
              have d42 := hd 20 rfl 42 rfl
              exact sk_skip rfl rfl d42 rfl rfl
            · intro ρz wz hz hk hd
              have d42 := hd 20 rfl 42 rfl
              exact sk_skip rfl rfl d42 rfl rfl
            · intro ρz wz hz hk hd
              have d42 := hd 20 rfl 42 rfl
              exact sk_skip rfl rfl d42 rfl rfl
            · intro ρz wz hz hk hd
              have d42 := hd 20 rfl 42 rfl
              exact sk_skip rfl rfl d42 rfl rfl
            · intro ρz wz hz hk hd
              have d42 := hd 20 rfl 42 rfl
              exact sk_val (v := .bool true) (by exact xr_pickT rfl d42 rfl rfl) rfl rfl
            · intro ρz wz hz hk hd
              have d50 := hd 28 rfl 50 rfl
              exact sk_val (v := .bool true) (by exact xr_move rfl d50) rfl rfl
            · intro ρz wz hz hk hd
              have d51 := hd 29 rfl 51 rfl
              exact sk_skip rfl rfl d51 rfl rfl
            · intro ρz wz hz hk hd
              have d51 := hd 29 rfl 51 rfl
              exact sk_skip rfl rfl d51 rfl rfl
            · intro ρz wz hz hk hd
              have d51 := hd 29 rfl 51 rfl
              exact sk_skip rfl rfl d51 rfl rfl
            · intro ρz wz hz hk hd
              have d51 := hd 29 rfl 51 rfl
              exact sk_skip rfl rfl d51 rfl rfl
            · intro ρz wz hz hk hd
              have d51 := hd 29 rfl 51 rfl
              exact sk_skip rfl rfl d51 rfl rfl
            · intro ρz wz hz hk hd
              have d51 := hd 29 rfl 51 rfl
              exact sk_skip rfl rfl d51 rfl rfl
            · intro ρz wz hz hk hd
              have d51 := hd 29 rfl 51 rfl
              exact sk_skip rfl rfl d51 rfl rfl
            · intro ρz wz hz hk hd
              have d51 := hd 29 rfl 51 rfl
              exact sk_skip rfl rfl d51 rfl rfl
          · intro ρ22 w23 q24 hk hd
            have e1 := (hk 1 rfl).trans e1
            have e51 := hd 29 rfl 51 rfl
            have b2 := b2.gr q24
            have fB := fB.gr q24
            refine ol_val (v := .bool true) (by exact xr_pickT rfl e51 rfl rfl) rfl rfl rfl ?_
            refine ol_nil ?_
            obtain rfl := Option.some.inj j20
            refine thn_i ?_
            exact ⟨e1, rfl, q24⟩
        · skip
          rcases is j20 with ⟨c25, j20⟩ | ⟨c25, j20⟩
          · skip
            refine cw_drawL 38 [fun vz wz => vz = (.pointer (some ⟨G1, 1, none⟩) : Value), fun vz wz => vz = (.pointer (some ⟨G1, 5, none⟩) : Value), fun vz wz => vz = (.int .i64 a0.Tickets.High : Value), fun vz wz => vz = (.bool (decide (a0.Tickets.High < 0)) : Value), fun vz wz => vz = (.bool (decide (a0.Tickets.High < 0)) : Value), fun vz wz => vz = (.pointer (some ⟨G1, 1, none⟩) : Value), fun vz wz => vz = (.pointer (some ⟨G1, 5, none⟩) : Value), fun vz wz => vz = (.int .i64 a0.Tickets.High : Value), fun vz wz => vz = (.pointer (some ⟨G1, 1, none⟩) : Value), fun vz wz => vz = (.pointer (some ⟨G1, 1, none⟩) : Value), fun vz wz => vz = (.pointer (some ⟨G1, 2, none⟩) : Value), fun vz wz => vz = (.int .i64 a0.Tickets.Geometry.Slots : Value), fun vz wz => vz = (.bool (decide (a0.Tickets.High > a0.Tickets.Geometry.Slots)) : Value), fun vz wz => vz = (.bool (decide (a0.Tickets.High > a0.Tickets.Geometry.Slots)) : Value), fun vz wz => vz = (.bool (decide (a0.Tickets.High > a0.Tickets.Geometry.Slots)) : Value), fun vz _ => vz = undef, fun vz _ => vz = undef, fun vz _ => vz = undef, fun vz _ => vz = undef, fun vz wz => vz = (.bool true : Value), fun vz wz => vz = (.bool true : Value), fun vz _ => vz = undef, fun vz _ => vz = undef, fun vz _ => vz = undef, fun vz _ => vz = undef, fun vz _ => vz = undef, fun vz _ => vz = undef, fun vz _ => vz = undef, fun vz wz => vz = (.bool true : Value), fun vz wz => vz = (.bool true : Value), fun vz _ => vz = undef, fun vz _ => vz = undef, fun vz _ => vz = undef, fun vz _ => vz = undef, fun vz _ => vz = undef, fun vz _ => vz = undef, fun vz _ => vz = undef, fun vz _ => vz = undef] mo rfl ⟨fun _ _ _ h _ => h, fun _ _ _ h _ => h, fun _ _ _ h _ => h, fun _ _ _ h _ => h, fun _ _ _ h _ => h, fun _ _ _ h _ => h, fun _ _ _ h _ => h, fun _ _ _ h _ => h, fun _ _ _ h _ => h, fun _ _ _ h _ => h, fun _ _ _ h _ => h, fun _ _ _ h _ => h, fun _ _ _ h _ => h, fun _ _ _ h _ => h, fun _ _ _ h _ => h, fun _ _ _ h _ => h, fun _ _ _ h _ => h, fun _ _ _ h _ => h, fun _ _ _ h _ => h, fun _ _ _ h _ => h, fun _ _ _ h _ => h, fun _ _ _ h _ => h, fun _ _ _ h _ => h, fun _ _ _ h _ => h, fun _ _ _ h _ => h, fun _ _ _ h _ => h, fun _ _ _ h _ => h, fun _ _ _ h _ => h, fun _ _ _ h _ => h, fun _ _ _ h _ => h, fun _ _ _ h _ => h, fun _ _ _ h _ => h, fun _ _ _ h _ => h, fun _ _ _ h _ => h, fun _ _ _ h _ => h, fun _ _ _ h _ => h, fun _ _ _ h _ => h, fun _ _ _ h _ => h, trivial⟩ ?_ ?_
            · refine ⟨?_, ?_, ?_, ?_, ?_, ?_, ?_, ?_, ?_, ?_, ?_, ?_, ?_, ?_, ?_, ?_, ?_, ?_, ?_, ?_, ?_, ?_, ?_, ?_, ?_, ?_, ?_, ?_, ?_, ?_, ?_, ?_, ?_, ?_, ?_, ?_, ?_, ?_, trivial⟩
              · intro ρz wz hz hk hd
                exact sk_val (v := .pointer (some ⟨G1, 1, none⟩)) (by exact xr_fieldAddr (p := 0) (q := 1) rfl fl120_1 ((hk 1 rfl).trans e1)) rfl rfl
              · intro ρz wz hz hk hd
                have d22 := hd 0 rfl 22 rfl
                exact sk_val (v := .pointer (some ⟨G1, 5, none⟩)) (by exact xr_fieldAddr (p := 1) (q := 4) rfl fl118_2 d22) rfl rfl
              · intro ρz wz hz hk hd
                have d23 := hd 1 rfl 23 rfl
                exact sk_val (v := .int .i64 a0.Tickets.High) (by exact xr_load1 (v := .int .i64 a0.Tickets.High) rfl ag3 d23 ((b2.gr hz).seg 5 rfl rfl)) rfl rfl
              · intro ρz wz hz hk hd
                have d24 := hd 2 rfl 24 rfl
                exact sk_val (v := .bool (decide (a0.Tickets.High < 0))) (by exact xr_lss rfl d24 rfl) rfl rfl
              · intro ρz wz hz hk hd
                have d25 := hd 3 rfl 25 rfl
                exact sk_val (v := .bool (decide (a0.Tickets.High < 0))) (by exact xr_move rfl d25) rfl rfl
              · intro ρz wz hz hk hd
                have d26 := hd 4 rfl 26 rfl
                exact sk_gval (v := .pointer (some ⟨G1, 1, none⟩)) (by exact xr_fieldAddr (p := 0) (q := 1) rfl fl120_1 ((hk 1 rfl).trans e1)) rfl rfl d26 c21 rfl
              · intro ρz wz hz hk hd
                have d27 := hd 5 rfl 27 rfl
                have d26 := hd 4 rfl 26 rfl
                exact sk_gval (v := .pointer (some ⟨G1, 5, none⟩)) (by exact xr_fieldAddr (p := 1) (q := 4) rfl fl118_2 d27) rfl rfl d26 c21 rfl
              · intro ρz wz hz hk hd
                have d28 := hd 6 rfl 28 rfl
                have d26 := hd 4 rfl 26 rfl
                exact sk_gval (v := .int .i64 a0.Tickets.High) (by exact xr_load1 (v := .int .i64 a0.Tickets.High) rfl ag3 d28 ((b2.gr hz).seg 5 rfl rfl)) rfl rfl d26 c21 rfl
              · intro ρz wz hz hk hd
                have d26 := hd 4 rfl 26 rfl
                exact sk_gval (v := .pointer (some ⟨G1, 1, none⟩)) (by exact xr_fieldAddr (p := 0) (q := 1) rfl fl120_1 ((hk 1 rfl).trans e1)) rfl rfl d26 c21 rfl
              · intro ρz wz hz hk hd
                have d30 := hd 8 rfl 30 rfl
                have d26 := hd 4 rfl 26 rfl
                exact sk_gval (v := .pointer (some ⟨G1, 1, none⟩)) (by exact xr_fieldAddr (p := 1) (q := 0) rfl fl118_0 d30) rfl rfl d26 c21 rfl
              · intro ρz wz hz hk hd
                have d31 := hd 9 rfl 31 rfl
                have d26 := hd 4 rfl 26 rfl
                exact sk_gval (v := .pointer (some ⟨G1, 2, none⟩)) (by exact xr_fieldAddr (p := 1) (q := 1) rfl fl116_1 d31) rfl rfl d26 c21 rfl
              · intro ρz wz hz hk hd
                have d32 := hd 10 rfl 32 rfl
                have d26 := hd 4 rfl 26 rfl
                exact sk_gval (v := .int .i64 a0.Tickets.Geometry.Slots) (by exact xr_load1 (v := .int .i64 a0.Tickets.Geometry.Slots) rfl ag3 d32 ((b2.gr hz).seg 2 rfl rfl)) rfl rfl d26 c21 rfl
              · intro ρz wz hz hk hd
                have d29 := hd 7 rfl 29 rfl
                have d33 := hd 11 rfl 33 rfl
                have d26 := hd 4 rfl 26 rfl
                exact sk_gval (by exact xr_gtr rfl d29 d33) rfl rfl d26 c21 rfl
              · intro ρz wz hz hk hd
                have d26 := hd 4 rfl 26 rfl
                have d34 := hd 12 rfl 34 rfl
                exact sk_val (by exact xr_pickF rfl d26 c21 d34) rfl rfl
              · intro ρz wz hz hk hd
                have d35 := hd 13 rfl 35 rfl
                exact sk_val (by exact xr_move rfl d35) rfl rfl
              · intro ρz wz hz hk hd
                have d36 := hd 14 rfl 36 rfl
                exact sk_skip rfl rfl d36 c25 rfl
              · intro ρz wz hz hk hd
                have d36 := hd 14 rfl 36 rfl
                exact sk_skip rfl rfl d36 c25 rfl
              · intro ρz wz hz hk hd
                have d36 := hd 14 rfl 36 rfl
                exact sk_skip rfl rfl d36 c25 rfl
              · intro ρz wz hz hk hd
                have d36 := hd 14 rfl 36 rfl
                exact sk_skip rfl rfl d36 c25 rfl
              · intro ρz wz hz hk hd
                have d36 := hd 14 rfl 36 rfl
                exact sk_val (v := .bool true) (by exact xr_pickT rfl d36 c25 rfl) rfl rfl
              · intro ρz wz hz hk hd
                have d41 := hd 19 rfl 41 rfl
                exact sk_val (v := .bool true) (by exact xr_move rfl d41) rfl rfl
              · intro ρz wz hz hk hd
                have d42 := hd 20 rfl 42 rfl
                exact sk_skip rfl rfl d42 rfl rfl
              · intro ρz wz hz hk hd
                have d42 := hd 20 rfl 42 rfl
                exact sk_skip rfl rfl d42 rfl rfl
              · intro ρz wz hz hk hd
                have d42 := hd 20 rfl 42 rfl
                exact sk_skip rfl rfl d42 rfl rfl
              · intro ρz wz hz hk hd
                have d42 := hd 20 rfl 42 rfl
                exact sk_skip rfl rfl d42 rfl rfl
              · intro ρz wz hz hk hd
                have d42 := hd 20 rfl 42 rfl
                exact sk_skip rfl rfl d42 rfl rfl
              · intro ρz wz hz hk hd
                have d42 := hd 20 rfl 42 rfl
                exact sk_skip rfl rfl d42 rfl rfl
              · intro ρz wz hz hk hd
                have d42 := hd 20 rfl 42 rfl
                exact sk_skip rfl rfl d42 rfl rfl
              · intro ρz wz hz hk hd
                have d42 := hd 20 rfl 42 rfl
                exact sk_val (v := .bool true) (by exact xr_pickT rfl d42 rfl rfl) rfl rfl
              · intro ρz wz hz hk hd
                have d50 := hd 28 rfl 50 rfl
                exact sk_val (v := .bool true) (by exact xr_move rfl d50) rfl rfl
              · intro ρz wz hz hk hd
                have d51 := hd 29 rfl 51 rfl
                exact sk_skip rfl rfl d51 rfl rfl
              · intro ρz wz hz hk hd
                have d51 := hd 29 rfl 51 rfl
                exact sk_skip rfl rfl d51 rfl rfl
              · intro ρz wz hz hk hd
                have d51 := hd 29 rfl 51 rfl
                exact sk_skip rfl rfl d51 rfl rfl
              · intro ρz wz hz hk hd
                have d51 := hd 29 rfl 51 rfl
                exact sk_skip rfl rfl d51 rfl rfl
              · intro ρz wz hz hk hd
                have d51 := hd 29 rfl 51 rfl
                exact sk_skip rfl rfl d51 rfl rfl
              · intro ρz wz hz hk hd
                have d51 := hd 29 rfl 51 rfl
                exact sk_skip rfl rfl d51 rfl rfl
              · intro ρz wz hz hk hd
                have d51 := hd 29 rfl 51 rfl
                exact sk_skip rfl rfl d51 rfl rfl
              · intro ρz wz hz hk hd
                have d51 := hd 29 rfl 51 rfl
                exact sk_skip rfl rfl d51 rfl rfl
            · intro ρ26 w27 q28 hk hd
              have e1 := (hk 1 rfl).trans e1
              have e51 := hd 29 rfl 51 rfl
              have b2 := b2.gr q28
              have fB := fB.gr q28
              refine ol_val (v := .bool true) (by exact xr_pickT rfl e51 rfl rfl) rfl rfl rfl ?_
              refine ol_nil ?_
              obtain rfl := Option.some.inj j20
              refine thn_i ?_
              exact ⟨e1, rfl, q28⟩
          · skip
            rcases is j20 with ⟨c29, j20⟩ | ⟨c29, j20⟩
            · skip
              refine cw_drawL 38 [fun vz wz => vz = (.pointer (some ⟨G1, 1, none⟩) : Value), fun vz wz => vz = (.pointer (some ⟨G1, 5, none⟩) : Value), fun vz wz => vz = (.int .i64 a0.Tickets.High : Value), fun vz wz => vz = (.bool (decide (a0.Tickets.High < 0)) : Value), fun vz wz => vz = (.bool (decide (a0.Tickets.High < 0)) : Value), fun vz wz => vz = (.pointer (some ⟨G1, 1, none⟩) : Value), fun vz wz => vz = (.pointer (some ⟨G1, 5, none⟩) : Value), fun vz wz => vz = (.int .i64 a0.Tickets.High : Value), fun vz wz => vz = (.pointer (some ⟨G1, 1, none⟩) : Value), fun vz wz => vz = (.pointer (some ⟨G1, 1, none⟩) : Value), fun vz wz => vz = (.pointer (some ⟨G1, 2, none⟩) : Value), fun vz wz => vz = (.int .i64 a0.Tickets.Geometry.Slots : Value), fun vz wz => vz = (.bool (decide (a0.Tickets.High > a0.Tickets.Geometry.Slots)) : Value), fun vz wz => vz = (.bool (decide (a0.Tickets.High > a0.Tickets.Geometry.Slots)) : Value), fun vz wz => vz = (.bool (decide (a0.Tickets.High > a0.Tickets.Geometry.Slots)) : Value), fun vz wz => vz = (.pointer (some ⟨G1, 1, none⟩) : Value), fun vz wz => vz = (.pointer (some ⟨G1, 6, none⟩) : Value), fun vz wz => vz = (.int .i64 a0.Tickets.Free : Value), fun vz wz => vz = (.bool (decide (a0.Tickets.Free < 0)) : Value), fun vz wz => vz = (.bool (decide (a0.Tickets.Free < 0)) : Value), fun vz wz => vz = (.bool (decide (a0.Tickets.Free < 0)) : Value), fun vz _ => vz = undef, fun vz _ => vz = undef, fun vz _ => vz = undef, fun vz _ => vz = undef, fun vz _ => vz = undef, fun vz _ => vz = undef, fun vz _ => vz = undef, fun vz wz => vz = (.bool true : Value), fun vz wz => vz = (.bool true : Value), fun vz _ => vz = undef, fun vz _ => vz = undef, fun vz _ => vz = undef, fun vz _ => vz = undef, fun vz _ => vz = undef, fun vz _ => vz = undef, fun vz _ => vz = undef, fun vz _ => vz = undef] mo rfl ⟨fun _ _ _ h _ => h, fun _ _ _ h _ => h, fun _ _ _ h _ => h, fun _ _ _ h _ => h, fun _ _ _ h _ => h, fun _ _ _ h _ => h, fun _ _ _ h _ => h, fun _ _ _ h _ => h, fun _ _ _ h _ => h, fun _ _ _ h _ => h, fun _ _ _ h _ => h, fun _ _ _ h _ => h, fun _ _ _ h _ => h, fun _ _ _ h _ => h, fun _ _ _ h _ => h, fun _ _ _ h _ => h, fun _ _ _ h _ => h, fun _ _ _ h _ => h, fun _ _ _ h _ => h, fun _ _ _ h _ => h, fun _ _ _ h _ => h, fun _ _ _ h _ => h, fun _ _ _ h _ => h, fun _ _ _ h _ => h, fun _ _ _ h _ => h, fun _ _ _ h _ => h, fun _ _ _ h _ => h, fun _ _ _ h _ => h, fun _ _ _ h _ => h, fun _ _ _ h _ => h, fun _ _ _ h _ => h, fun _ _ _ h _ => h, fun _ _ _ h _ => h, fun _ _ _ h _ => h, fun _ _ _ h _ => h, fun _ _ _ h _ => h, fun _ _ _ h _ => h, fun _ _ _ h _ => h, trivial⟩ ?_ ?_
              · refine ⟨?_, ?_, ?_, ?_, ?_, ?_, ?_, ?_, ?_, ?_, ?_, ?_, ?_, ?_, ?_, ?_, ?_, ?_, ?_, ?_, ?_, ?_, ?_, ?_, ?_, ?_, ?_, ?_, ?_, ?_, ?_, ?_, ?_, ?_, ?_, ?_, ?_, ?_, trivial⟩
                · intro ρz wz hz hk hd
                  exact sk_val (v := .pointer (some ⟨G1, 1, none⟩)) (by exact xr_fieldAddr (p := 0) (q := 1) rfl fl120_1 ((hk 1 rfl).trans e1)) rfl rfl
                · intro ρz wz hz hk hd
                  have d22 := hd 0 rfl 22 rfl
                  exact sk_val (v := .pointer (some ⟨G1, 5, none⟩)) (by exact xr_fieldAddr (p := 1) (q := 4) rfl fl118_2 d22) rfl rfl
                · intro ρz wz hz hk hd
                  have d23 := hd 1 rfl 23 rfl
                  exact sk_val (v := .int .i64 a0.Tickets.High) (by exact xr_load1 (v := .int .i64 a0.Tickets.High) rfl ag3 d23 ((b2.gr hz).seg 5 rfl rfl)) rfl rfl
                · intro ρz wz hz hk hd
                  have d24 := hd 2 rfl 24 rfl
                  exact sk_val (v := .bool (decide (a0.Tickets.High < 0))) (by exact xr_lss rfl d24 rfl) rfl rfl
                · intro ρz wz hz hk hd
                  have d25 := hd 3 rfl 25 rfl
                  exact sk_val (v := .bool (decide (a0.Tickets.High < 0))) (by exact xr_move rfl d25) rfl rfl
                · intro ρz wz hz hk hd
                  have d26 := hd 4 rfl 26 rfl
                  exact sk_gval (v := .pointer (some ⟨G1, 1, none⟩)) (by exact xr_fieldAddr (p := 0) (q := 1) rfl fl120_1 ((hk 1 rfl).trans e1)) rfl rfl d26 c21 rfl
                · intro ρz wz hz hk hd
                  have d27 := hd 5 rfl 27 rfl
                  have d26 := hd 4 rfl 26 rfl
                  exact sk_gval (v := .pointer (some ⟨G1, 5, none⟩)) (by exact xr_fieldAddr (p := 1) (q := 4) rfl fl118_2 d27) rfl rfl d26 c21 rfl
                · intro ρz wz hz hk hd
                  have d28 := hd 6 rfl 28 rfl
                  have d26 := hd 4 rfl 26 rfl
                  exact sk_gval (v := .int .i64 a0.Tickets.High) (by exact xr_load1 (v := .int .i64 a0.Tickets.High) rfl ag3 d28 ((b2.gr hz).seg 5 rfl rfl)) rfl rfl d26 c21 rfl
                · intro ρz wz hz hk hd
                  have d26 := hd 4 rfl 26 rfl
                  exact sk_gval (v := .pointer (some ⟨G1, 1, none⟩)) (by exact xr_fieldAddr (p := 0) (q := 1) rfl fl120_1 ((hk 1 rfl).trans e1)) rfl rfl d26 c21 rfl
                · intro ρz wz hz hk hd
                  have d30 := hd 8 rfl 30 rfl
                  have d26 := hd 4 rfl 26 rfl
                  exact sk_gval (v := .pointer (some ⟨G1, 1, none⟩)) (by exact xr_fieldAddr (p := 1) (q := 0) rfl fl118_0 d30) rfl rfl d26 c21 rfl
                · intro ρz wz hz hk hd
                  have d31 := hd 9 rfl 31 rfl
                  have d26 := hd 4 rfl 26 rfl
                  exact sk_gval (v := .pointer (some ⟨G1, 2, none⟩)) (by exact xr_fieldAddr (p := 1) (q := 1) rfl fl116_1 d31) rfl rfl d26 c21 rfl
                · intro ρz wz hz hk hd
                  have d32 := hd 10 rfl 32 rfl
                  have d26 := hd 4 rfl 26 rfl
                  exact sk_gval (v := .int .i64 a0.Tickets.Geometry.Slots) (by exact xr_load1 (v := .int .i64 a0.Tickets.Geometry.Slots) rfl ag3 d32 ((b2.gr hz).seg 2 rfl rfl)) rfl rfl d26 c21 rfl
                · intro ρz wz hz hk hd
                  have d29 := hd 7 rfl 29 rfl
                  have d33 := hd 11 rfl 33 rfl
                  have d26 := hd 4 rfl 26 rfl
                  exact sk_gval (by exact xr_gtr rfl d29 d33) rfl rfl d26 c21 rfl
                · intro ρz wz hz hk hd
                  have d26 := hd 4 rfl 26 rfl
                  have d34 := hd 12 rfl 34 rfl
                  exact sk_val (by exact xr_pickF rfl d26 c21 d34) rfl rfl
                · intro ρz wz hz hk hd
                  have d35 := hd 13 rfl 35 rfl
                  exact sk_val (by exact xr_move rfl d35) rfl rfl
                · intro ρz wz hz hk hd
                  have d36 := hd 14 rfl 36 rfl
                  exact sk_gval (v := .pointer (some ⟨G1, 1, none⟩)) (by exact xr_fieldAddr (p := 0) (q := 1) rfl fl120_1 ((hk 1 rfl).trans e1)) rfl rfl d36 c25 rfl
                · intro ρz wz hz hk hd
                  have d37 := hd 15 rfl 37 rfl
                  have d36 := hd 14 rfl 36 rfl
                  exact sk_gval (v := .pointer (some ⟨G1, 6, none⟩)) (by exact xr_fieldAddr (p := 1) (q := 5) rfl fl118_3 d37) rfl rfl d36 c25 rfl
                · intro ρz wz hz hk hd
                  have d38 := hd 16 rfl 38 rfl
                  have d36 := hd 14 rfl 36 rfl
                  exact sk_gval (v := .int .i64 a0.Tickets.Free) (by exact xr_load1 (v := .int .i64 a0.Tickets.Free) rfl ag3 d38 ((b2.gr hz).seg 6 rfl rfl)) rfl rfl d36 c25 rfl
                · intro ρz wz hz hk hd
                  have d39 := hd 17 rfl 39 rfl
                  have d36 := hd 14 rfl 36 rfl
                  exact sk_gval (v := .bool (decide (a0.Tickets.Free < 0))) (by exact xr_lss rfl d39 rfl) rfl rfl d36 c25 rfl
                · intro ρz wz hz hk hd
                  have d36 := hd 14 rfl 36 rfl
                  have d40 := hd 18 rfl 40 rfl
                  exact sk_val (v := .bool (decide (a0.Tickets.Free < 0))) (by exact xr_pickF rfl d36 c25 d40) rfl rfl
                · intro ρz wz hz hk hd
                  have d41 := hd 19 rfl 41 rfl
                  exact sk_val (v := .bool (decide (a0.Tickets.Free < 0))) (by exact xr_move rfl d41) rfl rfl
                · intro ρz wz hz hk hd
                  have d42 := hd 20 rfl 42 rfl
                  exact sk_skip rfl rfl d42 c29 rfl
                · intro ρz wz hz hk hd
                  have d42 := hd 20 rfl 42 rfl
                  exact sk_skip rfl rfl d42 c29 rfl
                · intro ρz wz hz hk hd
                  have d42 := hd 20 rfl 42 rfl
                  exact sk_skip rfl rfl d42 c29 rfl
                · intro ρz wz hz hk hd
                  have d42 := hd 20 rfl 42 rfl
                  exact sk_skip rfl rfl d42 c29 rfl
                · intro ρz wz hz hk hd
                  have d42 := hd 20 rfl 42 rfl
                  exact sk_skip rfl rfl d42 c29 rfl
                · intro ρz wz hz hk hd
                  have d42 := hd 20 rfl 42 rfl
                  exact sk_skip rfl rfl d42 c29 rfl
                · intro ρz wz hz hk hd
                  have d42 := hd 20 rfl 42 rfl
                  exact sk_skip rfl rfl d42 c29 rfl
                · intro ρz wz hz hk hd
                  have d42 := hd 20 rfl 42 rfl
                  exact sk_val (v := .bool true) (by exact xr_pickT rfl d42 c29 rfl) rfl rfl
                · intro ρz wz hz hk hd
                  have d50 := hd 28 rfl 50 rfl
                  exact sk_val (v := .bool true) (by exact xr_move rfl d50) rfl rfl
                · intro ρz wz hz hk hd
                  have d51 := hd 29 rfl 51 rfl
                  exact sk_skip rfl rfl d51 rfl rfl
                · intro ρz wz hz hk hd
                  have d51 := hd 29 rfl 51 rfl
                  exact sk_skip rfl rfl d51 rfl rfl
                · intro ρz wz hz hk hd
                  have d51 := hd 29 rfl 51 rfl
                  exact sk_skip rfl rfl d51 rfl rfl
                · intro ρz wz hz hk hd
                  have d51 := hd 29 rfl 51 rfl
                  exact sk_skip rfl rfl d51 rfl rfl
                · intro ρz wz hz hk hd
                  have d51 := hd 29 rfl 51 rfl
                  exact sk_skip rfl rfl d51 rfl rfl
                · intro ρz wz hz hk hd
                  have d51 := hd 29 rfl 51 rfl
                  exact sk_skip rfl rfl d51 rfl rfl
                · intro ρz wz hz hk hd
                  have d51 := hd 29 rfl 51 rfl
                  exact sk_skip rfl rfl d51 rfl rfl
                · intro ρz wz hz hk hd
                  have d51 := hd 29 rfl 51 rfl
                  exact sk_skip rfl rfl d51 rfl rfl
              · intro ρ30 w31 q32 hk hd
                have e1 := (hk 1 rfl).trans e1
                have e51 := hd 29 rfl 51 rfl
                have b2 := b2.gr q32
                have fB := fB.gr q32
                refine ol_val (v := .bool true) (by exact xr_pickT rfl e51 rfl rfl) rfl rfl rfl ?_
                refine ol_nil ?_
                obtain rfl := Option.some.inj j20
                refine thn_i ?_
                exact ⟨e1, rfl, q32⟩
            · skip
              rcases is j20 with ⟨c33, j20⟩ | ⟨c33, j20⟩
              · skip
                refine cw_drawL 38 [fun vz wz => vz = (.pointer (some ⟨G1, 1, none⟩) : Value), fun vz wz => vz = (.pointer (some ⟨G1, 5, none⟩) : Value), fun vz wz => vz = (.int .i64 a0.Tickets.High : Value), fun vz wz => vz = (.bool (decide (a0.Tickets.High < 0)) : Value), fun vz wz => vz = (.bool (decide (a0.Tickets.High < 0)) : Value), fun vz wz => vz = (.pointer (some ⟨G1, 1, none⟩) : Value), fun vz wz => vz = (.pointer (some ⟨G1, 5, none⟩) : Value), fun vz wz => vz = (.int .i64 a0.Tickets.High : Value), fun vz wz => vz = (.pointer (some ⟨G1, 1, none⟩) : Value), fun vz wz => vz = (.pointer (some ⟨G1, 1, none⟩) : Value), fun vz wz => vz = (.pointer (some ⟨G1, 2, none⟩) : Value), fun vz wz => vz = (.int .i64 a0.Tickets.Geometry.Slots : Value), fun vz wz => vz = (.bool (decide (a0.Tickets.High > a0.Tickets.Geometry.Slots)) : Value), fun vz wz => vz = (.bool (decide (a0.Tickets.High > a0.Tickets.Geometry.Slots)) : Value), fun vz wz => vz = (.bool (decide (a0.Tickets.High > a0.Tickets.Geometry.Slots)) : Value), fun vz wz => vz = (.pointer (some ⟨G1, 1, none⟩) : Value), fun vz wz => vz = (.pointer (some ⟨G1, 6, none⟩) : Value), fun vz wz => vz = (.int .i64 a0.Tickets.Free : Value), fun vz wz => vz = (.bool (decide (a0.Tickets.Free < 0)) : Value), fun vz wz => vz = (.bool (decide (a0.Tickets.Free < 0)) : Value), fun vz wz => vz = (.bool (decide (a0.Tickets.Free < 0)) : Value), fun vz wz => vz = (.pointer (some ⟨G1, 1, none⟩) : Value), fun vz wz => vz = (.pointer (some ⟨G1, 6, none⟩) : Value), fun vz wz => vz = (.int .i64 a0.Tickets.Free : Value), fun vz wz => vz = (.pointer (some ⟨G1, 1, none⟩) : Value), fun vz wz => vz = (.pointer (some ⟨G1, 5, none⟩) : Value), fun vz wz => vz = (.int .i64 a0.Tickets.High : Value), fun vz wz => vz = (.bool (decide (a0.Tickets.Free > a0.Tickets.High)) : Value), fun vz wz => vz = (.bool (decide (a0.Tickets.Free > a0.Tickets.High)) : Value), fun vz wz => vz = (.bool (decide (a0.Tickets.Free > a0.Tickets.High)) : Value), fun vz _ => vz = undef, fun vz _ => vz = undef, fun vz _ => vz = undef, fun vz _ => vz = undef, fun vz _ => vz = undef, fun vz _ => vz = undef, fun vz _ => vz = undef, fun vz _ => vz = undef] mo rfl ⟨fun _ _ _ h _ => h, fun _ _ _ h _ => h, fun _ _ _ h _ => h, fun _ _ _ h _ => h, fun _ _ _ h _ => h, fun _ _ _ h _ => h, fun _ _ _ h _ => h, fun _ _ _ h _ => h, fun _ _ _ h _ => h, fun _ _ _ h _ => h, fun _ _ _ h _ => h, fun _ _ _ h _ => h, fun _ _ _ h _ => h, fun _ _ _ h _ => h, fun _ _ _ h _ => h, fun _ _ _ h _ => h, fun _ _ _ h _ => h, fun _ _ _ h _ => h, fun _ _ _ h _ => h, fun _ _ _ h _ => h, fun _ _ _ h _ => h, fun _ _ _ h _ => h, fun _ _ _ h _ => h, fun _ _ _ h _ => h, fun _ _ _ h _ => h, fun _ _ _ h _ => h, fun _ _ _ h _ => h, fun _ _ _ h _ => h, fun _ _ _ h _ => h, fun _ _ _ h _ => h, fun _ _ _ h _ => h, fun _ _ _ h _ => h, fun _ _ _ h _ => h, fun _ _ _ h _ => h, fun _ _ _ h _ => h, fun _ _ _ h _ => h, fun _ _ _ h _ => h, fun _ _ _ h _ => h, trivial⟩ ?_ ?_
                · refine ⟨?_, ?_, ?_, ?_, ?_, ?_, ?_, ?_, ?_, ?_, ?_, ?_, ?_, ?_, ?_, ?_, ?_, ?_, ?_, ?_, ?_, ?_, ?_, ?_, ?_, ?_, ?_, ?_, ?_, ?_, ?_, ?_, ?_, ?_, ?_, ?_, ?_, ?_, trivial⟩
                  · intro ρz wz hz hk hd
                    exact sk_val (v := .pointer (some ⟨G1, 1, none⟩)) (by exact xr_fieldAddr (p := 0) (q := 1) rfl fl120_1 ((hk 1 rfl).trans e1)) rfl rfl
                  · intro ρz wz hz hk hd
                    have d22 := hd 0 rfl 22 rfl
                    exact sk_val (v := .pointer (some ⟨G1, 5, none⟩)) (by exact xr_fieldAddr (p := 1) (q := 4) rfl fl118_2 d22) rfl rfl
                  · intro ρz wz hz hk hd
                    have d23 := hd 1 rfl 23 rfl
                    exact sk_val (v := .int .i64 a0.Tickets.High) (by exact xr_load1 (v := .int .i64 a0.Tickets.High) rfl ag3 d23 ((b2.gr hz).seg 5 rfl rfl)) rfl rfl
                  · intro ρz wz hz hk hd
                    have d24 := hd 2 rfl 24 rfl
                    exact sk_val (v := .bool (decide (a0.Tickets.High < 0))) (by exact xr_lss rfl d24 rfl) rfl rfl
                  · intro ρz wz hz hk hd
                    have d25 := hd 3 rfl 25 rfl
                    exact sk_val (v := .bool (decide (a0.Tickets.High < 0))) (by exact xr_move rfl d25) rfl rfl
                  · intro ρz wz hz hk hd
                    have d26 := hd 4 rfl 26 rfl
                    exact sk_gval (v := .pointer (some ⟨G1, 1, none⟩)) (by exact xr_fieldAddr (p := 0) (q := 1) rfl fl120_1 ((hk 1 rfl).trans e1)) rfl rfl d26 c21 rfl
                  · intro ρz wz hz hk hd
                    have d27 := hd 5 rfl 27 rfl
                    have d26 := hd 4 rfl 26 rfl
                    exact sk_gval (v := .pointer (some ⟨G1, 5, none⟩)) (by exact xr_fieldAddr (p := 1) (q := 4) rfl fl118_2 d27) rfl rfl d26 c21 rfl
                  · intro ρz wz hz hk hd
                    have d28 := hd 6 rfl 28 rfl
                    have d26 := hd 4 rfl 26 rfl
                    exact sk_gval (v := .int .i64 a0.Tickets.High) (by exact xr_load1 (v := .int .i64 a0.Tickets.High) rfl ag3 d28 ((b2.gr hz).seg 5 rfl rfl)) rfl rfl d26 c21 rfl
                  · intro ρz wz hz hk hd
                    have d26 := hd 4 rfl 26 rfl
                    exact sk_gval (v := .pointer (some ⟨G1, 1, none⟩)) (by exact xr_fieldAddr (p := 0) (q := 1) rfl fl120_1 ((hk 1 rfl).trans e1)) rfl rfl d26 c21 rfl
                  · intro ρz wz hz hk hd
                    have d30 := hd 8 rfl 30 rfl
                    have d26 := hd 4 rfl 26 rfl
                    exact sk_gval (v := .pointer (some ⟨G1, 1, none⟩)) (by exact xr_fieldAddr (p := 1) (q := 0) rfl fl118_0 d30) rfl rfl d26 c21 rfl
                  · intro ρz wz hz hk hd
                    have d31 := hd 9 rfl 31 rfl
                    have d26 := hd 4 rfl 26 rfl
                    exact sk_gval (v := .pointer (some ⟨G1, 2, none⟩)) (by exact xr_fieldAddr (p := 1) (q := 1) rfl fl116_1 d31) rfl rfl d26 c21 rfl
                  · intro ρz wz hz hk hd
                    have d32 := hd 10 rfl 32 rfl
                    have d26 := hd 4 rfl 26 rfl
                    exact sk_gval (v := .int .i64 a0.Tickets.Geometry.Slots) (by exact xr_load1 (v := .int .i64 a0.Tickets.Geometry.Slots) rfl ag3 d32 ((b2.gr hz).seg 2 rfl rfl)) rfl rfl d26 c21 rfl
                  · intro ρz wz hz hk hd
                    have d29 := hd 7 rfl 29 rfl
                    have d33 := hd 11 rfl 33 rfl
                    have d26 := hd 4 rfl 26 rfl
                    exact sk_gval (by exact xr_gtr rfl d29 d33) rfl rfl d26 c21 rfl
                  · intro ρz wz hz hk hd
                    have d26 := hd 4 rfl 26 rfl
                    have d34 := hd 12 rfl 34 rfl
                    exact sk_val (by exact xr_pickF rfl d26 c21 d34) rfl rfl
                  · intro ρz wz hz hk hd
                    have d35 := hd 13 rfl 35 rfl
                    exact sk_val (by exact xr_move rfl d35) rfl rfl
                  · intro ρz wz hz hk hd
                    have d36 := hd 14 rfl 36 rfl
                    exact sk_gval (v := .pointer (some ⟨G1, 1, none⟩)) (by exact xr_fieldAddr (p := 0) (q := 1) rfl fl120_1 ((hk 1 rfl).trans e1)) rfl rfl d36 c25 rfl
                  · intro ρz wz hz hk hd
                    have d37 := hd 15 rfl 37 rfl
                    have d36 := hd 14 rfl 36 rfl
                    exact sk_gval (v := .pointer (some ⟨G1, 6, none⟩)) (by exact xr_fieldAddr (p := 1) (q := 5) rfl fl118_3 d37) rfl rfl d36 c25 rfl
                  · intro ρz wz hz hk hd
                    have d38 := hd 16 rfl 38 rfl
                    have d36 := hd 14 rfl 36 rfl
                    exact sk_gval (v := .int .i64 a0.Tickets.Free) (by exact xr_load1 (v := .int .i64 a0.Tickets.Free) rfl ag3 d38 ((b2.gr hz).seg 6 rfl rfl)) rfl rfl d36 c25 rfl
                  · intro ρz wz hz hk hd
                    have d39 := hd 17 rfl 39 rfl
                    have d36 := hd 14 rfl 36 rfl
                    exact sk_gval (v := .bool (decide (a0.Tickets.Free < 0))) (by exact xr_lss rfl d39 rfl) rfl rfl d36 c25 rfl
                  · intro ρz wz hz hk hd
                    have d36 := hd 14 rfl 36 rfl
                    have d40 := hd 18 rfl 40 rfl
                    exact sk_val (v := .bool (decide (a0.Tickets.Free < 0))) (by exact xr_pickF rfl d36 c25 d40) rfl rfl
                  · intro ρz wz hz hk hd
                    have d41 := hd 19 rfl 41 rfl
                    exact sk_val (v := .bool (decide (a0.Tickets.Free < 0))) (by exact xr_move rfl d41) rfl rfl
                  · intro ρz wz hz hk hd
                    have d42 := hd 20 rfl 42 rfl
                    exact sk_gval (v := .pointer (some ⟨G1, 1, none⟩)) (by exact xr_fieldAddr (p := 0) (q := 1) rfl fl120_1 ((hk 1 rfl).trans e1)) rfl rfl d42 c29 rfl
                  · intro ρz wz hz hk hd
                    have d43 := hd 21 rfl 43 rfl
                    have d42 := hd 20 rfl 42 rfl
                    exact sk_gval (v := .pointer (some ⟨G1, 6, none⟩)) (by exact xr_fieldAddr (p := 1) (q := 5) rfl fl118_3 d43) rfl rfl d42 c29 rfl
                  · intro ρz wz hz hk hd
                    have d44 := hd 22 rfl 44 rfl
                    have d42 := hd 20 rfl 42 rfl
                    exact sk_gval (v := .int .i64 a0.Tickets.Free) (by exact xr_load1 (v := .int .i64 a0.Tickets.Free) rfl ag3 d44 ((b2.gr hz).seg 6 rfl rfl)) rfl rfl d42 c29 rfl
                  · intro ρz wz hz hk hd
                    have d42 := hd 20 rfl 42 rfl
                    exact sk_gval (v := .pointer (some ⟨G1, 1, none⟩)) (by exact xr_fieldAddr (p := 0) (q := 1) rfl fl120_1 ((hk 1 rfl).trans e1)) rfl rfl d42 c29 rfl
                  · intro ρz wz hz hk hd
                    have d46 := hd 24 rfl 46 rfl
                    have d42 := hd 20 rfl 42 rfl
                    exact sk_gval (v := .pointer (some ⟨G1, 5, none⟩)) (by exact xr_fieldAddr (p := 1) (q := 4) rfl fl118_2 d46) rfl rfl d42 c29 rfl
                  · intro ρz wz hz hk hd
                    have d47 := hd 25 rfl 47 rfl
                    have d42 := hd 20 rfl 42 rfl
                    exact sk_gval (v := .int .i64 a0.Tickets.High) (by exact xr_load1 (v := .int .i64 a0.Tickets.High) rfl ag3 d47 ((b2.gr hz).seg 5 rfl rfl)) rfl rfl d42 c29 rfl
                  · intro ρz wz hz hk hd
                    have d45 := hd 23 rfl 45 rfl
                    have d48 := hd 26 rfl 48 rfl
                    have d42 := hd 20 rfl 42 rfl
                    exact sk_gval (v := .bool (decide (a0.Tickets.Free > a0.Tickets.High))) (by exact xr_gtr rfl d45 d48) rfl rfl d42 c29 rfl
                  · intro ρz wz hz hk hd
                    have d42 := hd 20 rfl 42 rfl
                    have d49 := hd 27 rfl 49 rfl
                    exact sk_val (v := .bool (decide (a0.Tickets.Free > a0.Tickets.High))) (by exact xr_pickF rfl d42 c29 d49) rfl rfl
                  · intro ρz wz hz hk hd
                    have d50 := hd 28 rfl 50 rfl
                    exact sk_val (v := .bool (decide (a0.Tickets.Free > a0.Tickets.High))) (by exact xr_move rfl d50) rfl rfl
                  · intro ρz wz hz hk hd
                    have d51 := hd 29 rfl 51 rfl
                    exact sk_skip rfl rfl d51 c33 rfl
                  · intro ρz wz hz hk hd
                    have d51 := hd 29 rfl 51 rfl
                    exact sk_skip rfl rfl d51 c33 rfl
                  · intro ρz wz hz hk hd
                    have d51 := hd 29 rfl 51 rfl
                    exact sk_skip rfl rfl d51 c33 rfl
                  · intro ρz wz hz hk hd
                    have d51 := hd 29 rfl 51 rfl
                    exact sk_skip rfl rfl d51 c33 rfl
                  · intro ρz wz hz hk hd
                    have d51 := hd 29 rfl 51 rfl
                    exact sk_skip rfl rfl d51 c33 rfl
                  · intro ρz wz hz hk hd
                    have d51 := hd 29 rfl 51 rfl
                    exact sk_skip rfl rfl d51 c33 rfl
                  · intro ρz wz hz hk hd
                    have d51 := hd 29 rfl 51 rfl
                    exact sk_skip rfl rfl d51 c33 rfl
                  · intro ρz wz hz hk hd
                    have d51 := hd 29 rfl 51 rfl
                    exact sk_skip rfl rfl d51 c33 rfl
                · intro ρ34 w35 q36 hk hd
                  have e1 := (hk 1 rfl).trans e1
                  have e51 := hd 29 rfl 51 rfl
                  have b2 := b2.gr q36
                  have fB := fB.gr q36
                  refine ol_val (v := .bool true) (by exact xr_pickT rfl e51 c33 rfl) rfl rfl rfl ?_
                  refine ol_nil ?_
                  obtain rfl := Option.some.inj j20
                  refine thn_i ?_
                  exact ⟨e1, rfl, q36⟩
              · skip
                obtain ⟨t37, k38, j20⟩ := bs j20
                refine cw_drawL 38 [fun vz wz => vz = (.pointer (some ⟨G1, 1, none⟩) : Value), fun vz wz => vz = (.pointer (some ⟨G1, 5, none⟩) : Value), fun vz wz => vz = (.int .i64 a0.Tickets.High : Value), fun vz wz => vz = (.bool (decide (a0.Tickets.High < 0)) : Value), fun vz wz => vz = (.bool (decide (a0.Tickets.High < 0)) : Value), fun vz wz => vz = (.pointer (some ⟨G1, 1, none⟩) : Value), fun vz wz => vz = (.pointer (some ⟨G1, 5, none⟩) : Value), fun vz wz => vz = (.int .i64 a0.Tickets.High : Value), fun vz wz => vz = (.pointer (some ⟨G1, 1, none⟩) : Value), fun vz wz => vz = (.pointer (some ⟨G1, 1, none⟩) : Value), fun vz wz => vz = (.pointer (some ⟨G1, 2, none⟩) : Value), fun vz wz => vz = (.int .i64 a0.Tickets.Geometry.Slots : Value), fun vz wz => vz = (.bool (decide (a0.Tickets.High > a0.Tickets.Geometry.Slots)) : Value), fun vz wz => vz = (.bool (decide (a0.Tickets.High > a0.Tickets.Geometry.Slots)) : Value), fun vz wz => vz = (.bool (decide (a0.Tickets.High > a0.Tickets.Geometry.Slots)) : Value), fun vz wz => vz = (.pointer (some ⟨G1, 1, none⟩) : Value), fun vz wz => vz = (.pointer (some ⟨G1, 6, none⟩) : Value), fun vz wz => vz = (.int .i64 a0.Tickets.Free : Value), fun vz wz => vz = (.bool (decide (a0.Tickets.Free < 0)) : Value), fun vz wz => vz = (.bool (decide (a0.Tickets.Free < 0)) : Value), fun vz wz => vz = (.bool (decide (a0.Tickets.Free < 0)) : Value), fun vz wz => vz = (.pointer (some ⟨G1, 1, none⟩) : Value), fun vz wz => vz = (.pointer (some ⟨G1, 6, none⟩) : Value), fun vz wz => vz = (.int .i64 a0.Tickets.Free : Value), fun vz wz => vz = (.pointer (some ⟨G1, 1, none⟩) : Value), fun vz wz => vz = (.pointer (some ⟨G1, 5, none⟩) : Value), fun vz wz => vz = (.int .i64 a0.Tickets.High : Value), fun vz wz => vz = (.bool (decide (a0.Tickets.Free > a0.Tickets.High)) : Value), fun vz wz => vz = (.bool (decide (a0.Tickets.Free > a0.Tickets.High)) : Value), fun vz wz => vz = (.bool (decide (a0.Tickets.Free > a0.Tickets.High)) : Value), fun vz wz => vz = (.pointer (some ⟨G1, 8, none⟩) : Value), fun vz wz => vz = (V0_0 : Value), fun vz wz => vz = (.int .i64 (List.length a0.Charts : Int) : Value), fun vz wz => vz = (.pointer (some ⟨G1, 1, none⟩) : Value), fun vz wz => vz = (.pointer (some ⟨G1, 1, none⟩) : Value), fun vz wz => vz = (aggV [Seg.cell (.int .i64 a0.Tickets.Geometry.Blocks), Seg.cell (.int .i64 a0.Tickets.Geometry.Slots), Seg.cell (.int .i64 a0.Tickets.Geometry.Gens)] : Value), fun vz wz => vz = (.int .i64 t37 : Value), fun vz wz => vz = (.bool (!decide ((List.length a0.Charts : Int) = t37)) : Value)] mo rfl ⟨fun _ _ _ h _ => h, fun _ _ _ h _ => h, fun _ _ _ h _ => h, fun _ _ _ h _ => h, fun _ _ _ h _ => h, fun _ _ _ h _ => h, fun _ _ _ h _ => h, fun _ _ _ h _ => h, fun _ _ _ h _ => h, fun _ _ _ h _ => h, fun _ _ _ h _ => h, fun _ _ _ h _ => h, fun _ _ _ h _ => h, fun _ _ _ h _ => h, fun _ _ _ h _ => h, fun _ _ _ h _ => h, fun _ _ _ h _ => h, fun _ _ _ h _ => h, fun _ _ _ h _ => h, fun _ _ _ h _ => h, fun _ _ _ h _ => h, fun _ _ _ h _ => h, fun _ _ _ h _ => h, fun _ _ _ h _ => h, fun _ _ _ h _ => h, fun _ _ _ h _ => h, fun _ _ _ h _ => h, fun _ _ _ h _ => h, fun _ _ _ h _ => h, fun _ _ _ h _ => h, fun _ _ _ h _ => h, fun _ _ _ h _ => h, fun _ _ _ h _ => h, fun _ _ _ h _ => h, fun _ _ _ h _ => h, fun _ _ _ h _ => h, fun _ _ _ h _ => h, fun _ _ _ h _ => h, trivial⟩ ?_ ?_
                · refine ⟨?_, ?_, ?_, ?_, ?_, ?_, ?_, ?_, ?_, ?_, ?_, ?_, ?_, ?_, ?_, ?_, ?_, ?_, ?_, ?_, ?_, ?_, ?_, ?_, ?_, ?_, ?_, ?_, ?_, ?_, ?_, ?_, ?_, ?_, ?_, ?_, ?_, ?_, trivial⟩
                  · intro ρz wz hz hk hd
                    exact sk_val (v := .pointer (some ⟨G1, 1, none⟩)) (by exact xr_fieldAddr (p := 0) (q := 1) rfl fl120_1 ((hk 1 rfl).trans e1)) rfl rfl
                  · intro ρz wz hz hk hd
                    have d22 := hd 0 rfl 22 rfl
                    exact sk_val (v := .pointer (some ⟨G1, 5, none⟩)) (by exact xr_fieldAddr (p := 1) (q := 4) rfl fl118_2 d22) rfl rfl
                  · intro ρz wz hz hk hd
                    have d23 := hd 1 rfl 23 rfl
                    exact sk_val (v := .int .i64 a0.Tickets.High) (by exact xr_load1 (v := .int .i64 a0.Tickets.High) rfl ag3 d23 ((b2.gr hz).seg 5 rfl rfl)) rfl rfl
                  · intro ρz wz hz hk hd
                    have d24 := hd 2 rfl 24 rfl
                    exact sk_val (v := .bool (decide (a0.Tickets.High < 0))) (by exact xr_lss rfl d24 rfl) rfl rfl
                  · intro ρz wz hz hk hd
                    have d25 := hd 3 rfl 25 rfl
                    exact sk_val (v := .bool (decide (a0.Tickets.High < 0))) (by exact xr_move rfl d25) rfl rfl
                  · intro ρz wz hz hk hd
                    have d26 := hd 4 rfl 26 rfl
                    exact sk_gval (v := .pointer (some ⟨G1, 1, none⟩)) (by exact xr_fieldAddr (p := 0) (q := 1) rfl fl120_1 ((hk 1 rfl).trans e1)) rfl rfl d26 c21 rfl
                  · intro ρz wz hz hk hd
                    have d27 := hd 5 rfl 27 rfl
                    have d26 := hd 4 rfl 26 rfl
                    exact sk_gval (v := .pointer (some ⟨G1, 5, none⟩)) (by exact xr_fieldAddr (p := 1) (q := 4) rfl fl118_2 d27) rfl rfl d26 c21 rfl
                  · intro ρz wz hz hk hd
                    have d28 := hd 6 rfl 28 rfl
                    have d26 := hd 4 rfl 26 rfl
                    exact sk_gval (v := .int .i64 a0.Tickets.High) (by exact xr_load1 (v := .int .i64 a0.Tickets.High) rfl ag3 d28 ((b2.gr hz).seg 5 rfl rfl)) rfl rfl d26 c21 rfl
                  · intro ρz wz hz hk hd
                    have d26 := hd 4 rfl 26 rfl
                    exact sk_gval (v := .pointer (some ⟨G1, 1, none⟩)) (by exact xr_fieldAddr (p := 0) (q := 1) rfl fl120_1 ((hk 1 rfl).trans e1)) rfl rfl d26 c21 rfl
                  · intro ρz wz hz hk hd
                    have d30 := hd 8 rfl 30 rfl
                    have d26 := hd 4 rfl 26 rfl
                    exact sk_gval (v := .pointer (some ⟨G1, 1, none⟩)) (by exact xr_fieldAddr (p := 1) (q := 0) rfl fl118_0 d30) rfl rfl d26 c21 rfl
                  · intro ρz wz hz hk hd
                    have d31 := hd 9 rfl 31 rfl
                    have d26 := hd 4 rfl 26 rfl
                    exact sk_gval (v := .pointer (some ⟨G1, 2, none⟩)) (by exact xr_fieldAddr (p := 1) (q := 1) rfl fl116_1 d31) rfl rfl d26 c21 rfl
                  · intro ρz wz hz hk hd
                    have d32 := hd 10 rfl 32 rfl
                    have d26 := hd 4 rfl 26 rfl
                    exact sk_gval (v := .int .i64 a0.Tickets.Geometry.Slots) (by exact xr_load1 (v := .int .i64 a0.Tickets.Geometry.Slots) rfl ag3 d32 ((b2.gr hz).seg 2 rfl rfl)) rfl rfl d26 c21 rfl
                  · intro ρz wz hz hk hd
                    have d29 := hd 7 rfl 29 rfl
                    have d33 := hd 11 rfl 33 rfl
                    have d26 := hd 4 rfl 26 rfl
                    exact sk_gval (by exact xr_gtr rfl d29 d33) rfl rfl d26 c21 rfl
                  · intro ρz wz hz hk hd
                    have d26 := hd 4 rfl 26 rfl
                    have d34 := hd 12 rfl 34 rfl
                    exact sk_val (by exact xr_pickF rfl d26 c21 d34) rfl rfl
                  · intro ρz wz hz hk hd
                    have d35 := hd 13 rfl 35 rfl
                    exact sk_val (by exact xr_move rfl d35) rfl rfl
                  · intro ρz wz hz hk hd
                    have d36 := hd 14 rfl 36 rfl
                    exact sk_gval (v := .pointer (some ⟨G1, 1, none⟩)) (by exact xr_fieldAddr (p := 0) (q := 1) rfl fl120_1 ((hk 1 rfl).trans e1)) rfl rfl d36 c25 rfl
                  · intro ρz wz hz hk hd
                    have d37 := hd 15 rfl 37 rfl
                    have d36 := hd 14 rfl 36 rfl
                    exact sk_gval (v := .pointer (some ⟨G1, 6, none⟩)) (by exact xr_fieldAddr (p := 1) (q := 5) rfl fl118_3 d37) rfl rfl d36 c25 rfl
                  · intro ρz wz hz hk hd
                    have d38 := hd 16 rfl 38 rfl
                    have d36 := hd 14 rfl 36 rfl
                    exact sk_gval (v := .int .i64 a0.Tickets.Free) (by exact xr_load1 (v := .int .i64 a0.Tickets.Free) rfl ag3 d38 ((b2.gr hz).seg 6 rfl rfl)) rfl rfl d36 c25 rfl
                  · intro ρz wz hz hk hd
                    have d39 := hd 17 rfl 39 rfl
                    have d36 := hd 14 rfl 36 rfl
                    exact sk_gval (v := .bool (decide (a0.Tickets.Free < 0))) (by exact xr_lss rfl d39 rfl) rfl rfl d36 c25 rfl
                  · intro ρz wz hz hk hd
                    have d36 := hd 14 rfl 36 rfl
                    have d40 := hd 18 rfl 40 rfl
                    exact sk_val (v := .bool (decide (a0.Tickets.Free < 0))) (by exact xr_pickF rfl d36 c25 d40) rfl rfl
                  · intro ρz wz hz hk hd
                    have d41 := hd 19 rfl 41 rfl
                    exact sk_val (v := .bool (decide (a0.Tickets.Free < 0))) (by exact xr_move rfl d41) rfl rfl
                  · intro ρz wz hz hk hd
                    have d42 := hd 20 rfl 42 rfl
                    exact sk_gval (v := .pointer (some ⟨G1, 1, none⟩)) (by exact xr_fieldAddr (p := 0) (q := 1) rfl fl120_1 ((hk 1 rfl).trans e1)) rfl rfl d42 c29 rfl
                  · intro ρz wz hz hk hd
                    have d43 := hd 21 rfl 43 rfl
                    have d42 := hd 20 rfl 42 rfl
                    exact sk_gval (v := .pointer (some ⟨G1, 6, none⟩)) (by exact xr_fieldAddr (p := 1) (q := 5) rfl fl118_3 d43) rfl rfl d42 c29 rfl
                  · intro ρz wz hz hk hd
                    have d44 := hd 22 rfl 44 rfl
                    have d42 := hd 20 rfl 42 rfl
                    exact sk_gval (v := .int .i64 a0.Tickets.Free) (by exact xr_load1 (v := .int .i64 a0.Tickets.Free) rfl ag3 d44 ((b2.gr hz).seg 6 rfl rfl)) rfl rfl d42 c29 rfl
                  · intro ρz wz hz hk hd
                    have d42 := hd 20 rfl 42 rfl
                    exact sk_gval (v := .pointer (some ⟨G1, 1, none⟩)) (by exact xr_fieldAddr (p := 0) (q := 1) rfl fl120_1 ((hk 1 rfl).trans e1)) rfl rfl d42 c29 rfl
                  · intro ρz wz hz hk hd
                    have d46 := hd 24 rfl 46 rfl
                    have d42 := hd 20 rfl 42 rfl
                    exact sk_gval (v := .pointer (some ⟨G1, 5, none⟩)) (by exact xr_fieldAddr (p := 1) (q := 4) rfl fl118_2 d46) rfl rfl d42 c29 rfl
                  · intro ρz wz hz hk hd
                    have d47 := hd 25 rfl 47 rfl
                    have d42 := hd 20 rfl 42 rfl
                    exact sk_gval (v := .int .i64 a0.Tickets.High) (by exact xr_load1 (v := .int .i64 a0.Tickets.High) rfl ag3 d47 ((b2.gr hz).seg 5 rfl rfl)) rfl rfl d42 c29 rfl
                  · intro ρz wz hz hk hd
                    have d45 := hd 23 rfl 45 rfl
                    have d48 := hd 26 rfl 48 rfl
                    have d42 := hd 20 rfl 42 rfl
                    exact sk_gval (v := .bool (decide (a0.Tickets.Free > a0.Tickets.High))) (by exact xr_gtr rfl d45 d48) rfl rfl d42 c29 rfl
                  · intro ρz wz hz hk hd
                    have d42 := hd 20 rfl 42 rfl
                    have d49 := hd 27 rfl 49 rfl
                    exact sk_val (v := .bool (decide (a0.Tickets.Free > a0.Tickets.High))) (by exact xr_pickF rfl d42 c29 d49) rfl rfl
                  · intro ρz wz hz hk hd
                    have d50 := hd 28 rfl 50 rfl
                    exact sk_val (v := .bool (decide (a0.Tickets.Free > a0.Tickets.High))) (by exact xr_move rfl d50) rfl rfl
                  · intro ρz wz hz hk hd
                    have d51 := hd 29 rfl 51 rfl
                    exact sk_gval (v := .pointer (some ⟨G1, 8, none⟩)) (by exact xr_fieldAddr (p := 0) (q := 8) rfl fl120_3 ((hk 1 rfl).trans e1)) rfl rfl d51 c33 rfl
                  · intro ρz wz hz hk hd
                    have d52 := hd 30 rfl 52 rfl
                    have d51 := hd 29 rfl 51 rfl
                    exact sk_gval (v := V0_0) (by exact xr_load1 (v := V0_0) rfl ag45 d52 ((b2.gr hz).seg 8 rfl rfl)) rfl rfl d51 c33 rfl
                  · intro ρz wz hz hk hd
                    have d53 := hd 31 rfl 53 rfl
                    have d51 := hd 29 rfl 51 rfl
                    exact sk_gval (v := .int .i64 (List.length a0.Charts : Int)) (by exact xr_lenR rfl Try.underlying45 d53 (R0_0.gr (fB.gr hz))) rfl rfl d51 c33 rfl
                  · intro ρz wz hz hk hd
                    have d51 := hd 29 rfl 51 rfl
                    exact sk_gval (v := .pointer (some ⟨G1, 1, none⟩)) (by exact xr_fieldAddr (p := 0) (q := 1) rfl fl120_1 ((hk 1 rfl).trans e1)) rfl rfl d51 c33 rfl
                  · intro ρz wz hz hk hd
                    have d55 := hd 33 rfl 55 rfl
                    have d51 := hd 29 rfl 51 rfl
                    exact sk_gval (v := .pointer (some ⟨G1, 1, none⟩)) (by exact xr_fieldAddr (p := 1) (q := 0) rfl fl118_0 d55) rfl rfl d51 c33 rfl
                  · intro ρz wz hz hk hd
                    have d56 := hd 34 rfl 56 rfl
                    have d51 := hd 29 rfl 51 rfl
                    exact sk_gval (by exact xr_loadS (ss := [Seg.cell (.int .i64 a0.Tickets.Geometry.Blocks), Seg.cell (.int .i64 a0.Tickets.Geometry.Slots), Seg.cell (.int .i64 a0.Tickets.Geometry.Gens)]) rfl ag116 sz116 rfl d56 ((b2.gr hz).segs 1 3 rfl)) rfl rfl d51 c33 rfl
                  · intro ρz wz hz hk hd
                    have d57 := hd 35 rfl 57 rfl
                    have d51 := hd 29 rfl 51 rfl
                    refine sk_gop (by exact opv_call rfl cal125 (ac d57 an) (rickyardref12_Charts.ok fu _ a0.Tickets.Geometry _ k38)) rfl rfl d51 c33 ?_
                    rintro _ wy ⟨rfl, q39⟩
                    exact ⟨rfl, q39⟩
                  · intro ρz wz hz hk hd
                    have d54 := hd 32 rfl 54 rfl
                    have d58 := hd 36 rfl 58 rfl
                    have d51 := hd 29 rfl 51 rfl
                    exact sk_gval (v := .bool (!decide ((List.length a0.Charts : Int) = t37))) (by exact xr_neI rfl Try.underlying3 rfl d54 d58) rfl rfl d51 c33 rfl
                · intro ρ40 w41 q42 hk hd
                  have e1 := (hk 1 rfl).trans e1
                  have e51 := hd 29 rfl 51 rfl
                  have e59 := hd 37 rfl 59 rfl
                  have b2 := b2.gr q42
                  have fB := fB.gr q42
                  refine ol_val (v := .bool (!decide ((List.length a0.Charts : Int) = t37))) (by exact xr_pickF rfl e51 c33 e59) rfl rfl rfl ?_
                  refine ol_nil ?_
                  obtain rfl := Option.some.inj j20
                  refine thn_i ?_
                  exact ⟨e1, rfl, q42⟩
      · skip
        rintro ρ43 w44 ⟨e1, e60, q45⟩
        have b2 := b2.gr q45
        have fB := fB.gr q45
        rcases is h with ⟨c46, h⟩ | ⟨c46, h⟩
        · refine cw_condT e60 c46 ?_
          refine cw_seq ?_
          refine cw_region ?_
          refine ol_val (v := .bool false) (by exact xr_assign rfl rfl) rfl rfl rfl ?_
          refine ol_nil ?_
          refine cw_ret ?_
          repeat (first | with_reducible refine thn_r ?_ | with_reducible refine blk_r ?_)
          obtain rfl := Option.some.inj h
          refine fin_ret1 Try.results90 rfl ?_
          exact ⟨_, rfl, rfl, fB⟩
        · refine cw_condF e60 c46 ?_
          refine cw_skip ?_
          refine cw_seq ?_
          refine cw_region ?_
          refine ol_val (v := .slice none 0 0) (by exact xr_assign rfl rfl) rfl rfl rfl ?_
          refine ol_nil ?_
          refine cw_seq ?_
          refine cw_seq ?_
          refine cw_region ?_
          refine ol_val (v := .pointer (some ⟨G1, 1, none⟩)) (by exact xr_fieldAddr (p := 0) (q := 1) rfl fl120_1 e1) rfl rfl rfl ?_
          refine ol_val (v := .pointer (some ⟨G1, 5, none⟩)) (by exact xr_fieldAddr (p := 1) (q := 4) rfl fl118_2 rfl) rfl rfl rfl ?_
          refine ol_val (v := .int .i64 a0.Tickets.High) (by exact xr_load1 (v := .int .i64 a0.Tickets.High) rfl ag3 rfl (b2.seg 5 rfl rfl)) rfl rfl rfl ?_
          refine ol_val (v := .bool (decide (a0.Tickets.High = 0))) (by exact xr_eqI rfl Try.underlying3 rfl rfl rfl) rfl rfl rfl ?_
          refine ol_nil ?_
          obtain ⟨x47, j48, h49⟩ := bs h
          refine cw_mid (fun ρ' w' => ∃ x50, x47 = Sum.inr x50 ∧ ∃ v51 : Value, ∃ o52 : Own (kI .i64) 3 w' w.heap.size v51 x50, ρ' 1 = .pointer (some ⟨G1, 0, none⟩) ∧ ρ' 3 = v51 ∧ Blk w' G1 120 [Seg.cell (.int .i64 a0.Epoch), Seg.cell (.int .i64 a0.Tickets.Geometry.Blocks), Seg.cell (.int .i64 a0.Tickets.Geometry.Slots), Seg.cell (.int .i64 a0.Tickets.Geometry.Gens), Seg.cell (.int .i64 a0.Tickets.Top), Seg.cell (.int .i64 a0.Tickets.High), Seg.cell (.int .i64 a0.Tickets.Free), Seg.cell (.int .i64 a0.Dir), Seg.cell V0_0 R0_0.one] ∧ Gr w w') ?_ ?_
          · have h := j48
            rcases is h with ⟨c54, h⟩ | ⟨c54, h⟩
            · refine cw_condT rfl c54 ?_
              refine cw_seq ?_
              refine cw_region ?_
              refine ol_val (v := .pointer (some ⟨G1, 1, none⟩)) (by exact xr_fieldAddr (p := 0) (q := 1) rfl fl120_1 e1) rfl rfl rfl ?_
              refine ol_val (v := .pointer (some ⟨G1, 4, none⟩)) (by exact xr_fieldAddr (p := 1) (q := 3) rfl fl118_1 rfl) rfl rfl rfl ?_
              refine ol_val (v := .int .i64 a0.Tickets.Top) (by exact xr_load1 (v := .int .i64 a0.Tickets.Top) rfl ag3 rfl (b2.seg 4 rfl rfl)) rfl rfl rfl ?_
              refine ol_val (v := .bool (!decide (a0.Tickets.Top = 0))) (by exact xr_neI rfl Try.underlying3 rfl rfl rfl) rfl rfl rfl ?_
              refine ol_nil ?_
              rcases is h with ⟨c55, h⟩ | ⟨c55, h⟩
              · refine cw_condT rfl c55 ?_
                refine cw_seq ?_
                refine cw_region ?_
                refine ol_val (v := .bool false) (by exact xr_assign rfl rfl) rfl rfl rfl ?_
                refine ol_nil ?_
                refine cw_ret ?_
                repeat (first | with_reducible refine thn_r ?_ | with_reducible refine blk_r ?_)
                obtain rfl := Option.some.inj h
                have h := h49
                obtain rfl := Option.some.inj h
                refine fin_ret1 Try.results90 rfl ?_
                exact ⟨_, rfl, rfl, fB⟩
              · refine cw_condF rfl c55 ?_
                refine cw_skip ?_
                obtain rfl := Option.some.inj h
                refine thn_i ?_
                exact ⟨_, rfl, (.slice none 0 0), Own.nil _ _ _ _, e1, rfl, b2, fB⟩
            · refine cw_condF rfl c54 ?_
              refine cw_region ?_
              refine ol_val (v := .slice none 0 0) (by exact xr_move rfl rfl) rfl rfl rfl ?_
              refine ol_val (v := .pointer (some ⟨G1, 1, none⟩)) (by exact xr_fieldAddr (p := 0) (q := 1) rfl fl120_1 e1) rfl rfl rfl ?_
              refine ol_val (v := .pointer (some ⟨G1, 4, none⟩)) (by exact xr_fieldAddr (p := 1) (q := 3) rfl fl118_1 rfl) rfl rfl rfl ?_
              refine ol_val (v := .int .i64 a0.Tickets.Top) (by exact xr_load1 (v := .int .i64 a0.Tickets.Top) rfl ag3 rfl (b2.seg 4 rfl rfl)) rfl rfl rfl ?_
              refine ol_op (by exact opv_buildSlice (K := (kI .i64)) (xs := [a0.Tickets.Top]) (vals := [.int .i64 a0.Tickets.Top]) rfl Try.underlying45 el3 rfl rfl ⟨rfl, rfl, trivial⟩ rfl rfl rfl fB.size) rfl rfl rfl ?_
              rintro v56 w61 ⟨o58, q57, z59⟩
              have b2 := b2.gr q57
              have fB := fB.gr q57
              obtain ⟨g66, h⟩ := gs h
              have f68 := Off.nil G1
              have f69 := Own.geN w.heap.size
              refine ol_op (by exact opv_append (K := (kI .i64)) rfl Try.underlying45 el3 rfl rfl rfl rfl rfl (Own.nil (kI .i64) 3 _ _) o58.rd g66 fB.size) rfl rfl rfl ?_
              rintro v62 w70 ⟨o63, q64, n65⟩
              have b2 := b2.wrO q64 f68
              have fB := fB.wrO q64 f69
              refine ol_val (v := v62) (by exact xr_assign rfl rfl) rfl rfl rfl ?_
              refine ol_nil ?_
              obtain rfl := Option.some.inj h
              refine thn_i ?_
              exact ⟨_, rfl, v62, o63, e1, rfl, b2, fB⟩
          · rintro ρ71 w72 ⟨x50, rfl, v51, o52, e1, e3, b2, fB⟩
            have h := h49
            refine cw_seq ?_
            refine cw_seq ?_
            refine cw_region ?_
            refine ol_val (v := .pointer (some ⟨G1, 7, none⟩)) (by exact xr_fieldAddr (p := 0) (q := 7) rfl fl120_2 e1) rfl rfl rfl ?_
            refine ol_val (v := .int .i64 a0.Dir) (by exact xr_load1 (v := .int .i64 a0.Dir) rfl ag3 rfl (b2.seg 7 rfl rfl)) rfl rfl rfl ?_
            refine ol_val (v := .bool (!decide (a0.Dir = 0))) (by exact xr_neI rfl Try.underlying3 rfl rfl rfl) rfl rfl rfl ?_
            refine ol_nil ?_
            obtain ⟨x73, j74, h75⟩ := bs h
            refine cw_mid (fun ρ' w' => ∃ v76 : Value, ∃ o77 : Own (kI .i64) 3 w' w.heap.size v76 x73, ρ' 1 = .pointer (some ⟨G1, 0, none⟩) ∧ ρ' 3 = v76 ∧ Blk w' G1 120 [Seg.cell (.int .i64 a0.Epoch), Seg.cell (.int .i64 a0.Tickets.Geometry.Blocks), Seg.cell (.int .i64 a0.Tickets.Geometry.Slots), Seg.cell (.int .i64 a0.Tickets.Geometry.Gens), Seg.cell (.int .i64 a0.Tickets.Top), Seg.cell (.int .i64 a0.Tickets.High), Seg.cell (.int .i64 a0.Tickets.Free), Seg.cell (.int .i64 a0.Dir), Seg.cell V0_0 R0_0.one] ∧ Gr w w') ?_ ?_
            · have h := j74
              rcases is h with ⟨c79, h⟩ | ⟨c79, h⟩
              · refine cw_condT rfl c79 ?_
                refine cw_region ?_
                refine ol_val (v := v51) (by exact xr_move rfl e3) rfl rfl rfl ?_
                refine ol_val (v := .pointer (some ⟨G1, 7, none⟩)) (by exact xr_fieldAddr (p := 0) (q := 7) rfl fl120_2 e1) rfl rfl rfl ?_
                refine ol_val (v := .int .i64 a0.Dir) (by exact xr_load1 (v := .int .i64 a0.Dir) rfl ag3 rfl (b2.seg 7 rfl rfl)) rfl rfl rfl ?_
                refine ol_op (by exact opv_buildSlice (K := (kI .i64)) (xs := [a0.Dir]) (vals := [.int .i64 a0.Dir]) rfl Try.underlying45 el3 rfl rfl ⟨rfl, rfl, trivial⟩ rfl rfl rfl fB.size) rfl rfl rfl ?_
                rintro v80 w85 ⟨o82, q81, z83⟩
                have a86 := OffV.new o52 z83
                have b2 := b2.gr q81
                have o52 := o52.gr q81
                have fB := fB.gr q81
                obtain ⟨g91, h⟩ := gs h
                have f93 := off_ty b2 o52 (by decide)
                have f94 := o52.geO
                refine ol_op (by exact opv_append (K := (kI .i64)) rfl Try.underlying45 el3 rfl rfl rfl rfl rfl o52 o82.rd g91 fB.size) rfl rfl rfl ?_
                rintro v87 w95 ⟨o88, q89, n90⟩
                have b2 := b2.wrO q89 f93
                have fB := fB.wrO q89 f94
                refine ol_val (v := v87) (by exact xr_assign rfl rfl) rfl rfl rfl ?_
                refine ol_nil ?_
                obtain rfl := Option.some.inj h
                refine thn_i ?_
                exact ⟨v87, o88, e1, rfl, b2, fB⟩
              · refine cw_condF rfl c79 ?_
                refine cw_skip ?_
                obtain rfl := Option.some.inj h
                refine thn_i ?_
                exact ⟨v51, o52, e1, e3, b2, fB⟩
            · rintro ρ96 w97 ⟨v76, o77, e1, e3, b2, fB⟩
              have h := h75
              refine cw_seq ?_
              refine cw_seq ?_
              refine cw_region ?_
              refine ol_val (v := .int .i64 0) (by exact xr_assign rfl rfl) rfl rfl rfl ?_
              refine ol_nil ?_
              obtain ⟨e99, l100, h101⟩ := bs h
              refine cw_mid (fun ρ' w' => ∃ x102, e99 = Sum.inr x102 ∧ ∃ v103 : Value, ∃ o104 : Own (kI .i64) 3 w' w.heap.size v103 x102, ρ' 1 = .pointer (some ⟨G1, 0, none⟩) ∧ ρ' 3 = v103 ∧ Blk w' G1 120 [Seg.cell (.int .i64 a0.Epoch), Seg.cell (.int .i64 a0.Tickets.Geometry.Blocks), Seg.cell (.int .i64 a0.Tickets.Geometry.Slots), Seg.cell (.int .i64 a0.Tickets.Geometry.Gens), Seg.cell (.int .i64 a0.Tickets.Top), Seg.cell (.int .i64 a0.Tickets.High), Seg.cell (.int .i64 a0.Tickets.Free), Seg.cell (.int .i64 a0.Dir), Seg.cell V0_0 R0_0.one] ∧ Gr w w') ?_ ?_
              · refine cw_block ?_
                refine cw_round (fun (s98 : (List Int) × Int) ρ' w' => ∃ v106 : Value, ∃ o107 : Own (kI .i64) 3 w' w.heap.size v106 s98.1, ρ' 1 = .pointer (some ⟨G1, 0, none⟩) ∧ ρ' 3 = v106 ∧ ρ' 4 = .int .i64 s98.2 ∧ Blk w' G1 120 [Seg.cell (.int .i64 a0.Epoch), Seg.cell (.int .i64 a0.Tickets.Geometry.Blocks), Seg.cell (.int .i64 a0.Tickets.Geometry.Slots), Seg.cell (.int .i64 a0.Tickets.Geometry.Gens), Seg.cell (.int .i64 a0.Tickets.Top), Seg.cell (.int .i64 a0.Tickets.High), Seg.cell (.int .i64 a0.Tickets.Free), Seg.cell (.int .i64 a0.Dir), Seg.cell V0_0 R0_0.one] ∧ Gr w w') l100 ?_ ?_
                · skip
                  exact ⟨v76, o77, e1, e3, rfl, b2, fB⟩
                · rintro s98 x111 ρ109 w110 ⟨v106, o107, e1, e3, e4, b2, fB⟩ h
                  unfold rickyardref13_Right.s1 at h
                  refine cw_seq ?_
                  refine cw_seq ?_
                  refine cw_region ?_
                  refine ol_val (v := .int .i64 s98.2) (by exact xr_move rfl e4) rfl rfl rfl ?_
                  refine ol_val (v := .pointer (some ⟨G1, 8, none⟩)) (by exact xr_fieldAddr (p := 0) (q := 8) rfl fl120_3 e1) rfl rfl rfl ?_
                  refine ol_val (v := V0_0) (by exact xr_load1 (v := V0_0) rfl ag45 rfl (b2.seg 8 rfl rfl)) rfl rfl rfl ?_
                  refine ol_val (v := .int .i64 (List.length a0.Charts : Int)) (by exact xr_lenR rfl Try.underlying45 rfl (R0_0.gr fB)) rfl rfl rfl ?_
                  refine ol_val (v := .bool (decide (s98.2 < (List.length a0.Charts : Int)))) (by exact xr_lss rfl rfl rfl) rfl rfl rfl ?_
                  refine ol_nil ?_
                  rcases is h with ⟨c112, h⟩ | ⟨c112, h⟩
                  · refine cw_condT rfl c112 ?_
                    refine cw_skip ?_
                    refine cw_seq ?_
                    refine cw_block ?_
                    refine cw_seq ?_
                    refine cw_region ?_
                    refine ol_val (v := v106) (by exact xr_move rfl e3) rfl rfl rfl ?_
                    refine ol_val (v := .pointer (some ⟨G1, 8, none⟩)) (by exact xr_fieldAddr (p := 0) (q := 8) rfl fl120_3 e1) rfl rfl rfl ?_
                    refine ol_val (v := V0_0) (by exact xr_load1 (v := V0_0) rfl ag45 rfl (b2.seg 8 rfl rfl)) rfl rfl rfl ?_
                    refine ol_val (v := .int .i64 s98.2) (by exact xr_move rfl e4) rfl rfl rfl ?_
                    obtain ⟨g113, h⟩ := gs h
                    refine ol_val (v := .pointer (some ⟨(sb V0_0), so V0_0 + Int.toNat s98.2 * 1, none⟩)) (by exact xr_indexR (K := (kI .i64)) (v := V0_0) rfl Try.underlying45 sz3 rfl (R0_0.gr fB) rfl g113.1 g113.2) rfl rfl rfl ?_
                    refine ol_val (v := .int .i64 (ix a0.Charts s98.2)) (by exact xr_load1 (v := .int .i64 (ix a0.Charts s98.2)) rfl ag3 rfl ((R0_0.gr fB).elem g113.1 g113.2)) rfl rfl rfl ?_
                    refine ol_op (by exact opv_buildSlice (K := (kI .i64)) (xs := [(ix a0.Charts s98.2)]) (vals := [.int .i64 (ix a0.Charts s98.2)]) rfl Try.underlying45 el3 rfl rfl ⟨rfl, rfl, trivial⟩ rfl rfl rfl fB.size) rfl rfl rfl ?_
                    rintro v114 w119 ⟨o116, q115, z117⟩
                    have a120 := OffV.new o107 z117
                    have b2 := b2.gr q115
                    have o107 := o107.gr q115
                    have fB := fB.gr q115
                    obtain ⟨g125, h⟩ := gs h
                    have f127 := off_ty b2 o107 (by decide)
                    have f128 := o107.geO
                    refine ol_op (by exact opv_append (K := (kI .i64)) rfl Try.underlying45 el3 rfl rfl rfl rfl rfl o107 o116.rd g125 fB.size) rfl rfl rfl ?_
                    rintro v121 w129 ⟨o122, q123, n124⟩
                    have b2 := b2.wrO q123 f127
                    have fB := fB.wrO q123 f128
                    refine ol_val (v := v121) (by exact xr_assign rfl rfl) rfl rfl rfl ?_
                    refine ol_nil ?_
                    refine cw_seq ?_
                    refine cw_region ?_
                    refine ol_val (v := .int .i64 0) (by exact xr_assign rfl rfl) rfl rfl rfl ?_
                    refine ol_nil ?_
                    obtain ⟨e131, l132, h133⟩ := bs h
                    refine cw_mid (fun ρ' w' => ∃ x134, e131 = Sum.inr x134 ∧ ∃ o122 : Own (kI .i64) 3 w' w.heap.size v121 (s98.1 ++ [(ix a0.Charts s98.2)]), ρ' 1 = .pointer (some ⟨G1, 0, none⟩) ∧ ρ' 3 = v121 ∧ ρ' 4 = .int .i64 s98.2 ∧ Blk w' G1 120 [Seg.cell (.int .i64 a0.Epoch), Seg.cell (.int .i64 a0.Tickets.Geometry.Blocks), Seg.cell (.int .i64 a0.Tickets.Geometry.Slots), Seg.cell (.int .i64 a0.Tickets.Geometry.Gens), Seg.cell (.int .i64 a0.Tickets.Top), Seg.cell (.int .i64 a0.Tickets.High), Seg.cell (.int .i64 a0.Tickets.Free), Seg.cell (.int .i64 a0.Dir), Seg.cell V0_0 R0_0.one] ∧ Gr w w') ?_ ?_
                    · refine cw_block ?_
                      refine cw_round (fun (s130 : Int) ρ' w' => ∃ o122 : Own (kI .i64) 3 w' w.heap.size v121 (s98.1 ++ [(ix a0.Charts s98.2)]), ρ' 1 = .pointer (some ⟨G1, 0, none⟩) ∧ ρ' 3 = v121 ∧ ρ' 4 = .int .i64 s98.2 ∧ ρ' 5 = .int .i64 s130 ∧ Blk w' G1 120 [Seg.cell (.int .i64 a0.Epoch), Seg.cell (.int .i64 a0.Tickets.Geometry.Blocks), Seg.cell (.int .i64 a0.Tickets.Geometry.Slots), Seg.cell (.int .i64 a0.Tickets.Geometry.Gens), Seg.cell (.int .i64 a0.Tickets.Top), Seg.cell (.int .i64 a0.Tickets.High), Seg.cell (.int .i64 a0.Tickets.Free), Seg.cell (.int .i64 a0.Dir), Seg.cell V0_0 R0_0.one] ∧ Gr w w') l132 ?_ ?_
                      · skip
                        exact ⟨o122, e1, rfl, e4, rfl, b2, fB⟩
                      · rintro s130 x137 ρ135 w136 ⟨o122, e1, e3, e4, e5, b2, fB⟩ h
                        unfold rickyardref13_Right.s2 at h
                        refine cw_seq ?_
                        refine cw_seq ?_
                        refine cw_region ?_
                        refine ol_val (v := .int .i64 s130) (by exact xr_move rfl e5) rfl rfl rfl ?_
                        refine ol_val (v := .int .i64 s98.2) (by exact xr_move rfl e4) rfl rfl rfl ?_
                        refine ol_val (v := .bool (decide (s130 < s98.2))) (by exact xr_lss rfl rfl rfl) rfl rfl rfl ?_
                        refine ol_nil ?_
                        rcases is h with ⟨c138, h⟩ | ⟨c138, h⟩
                        · refine cw_condT rfl c138 ?_
                          refine cw_skip ?_
                          refine cw_seq ?_
                          refine cw_block ?_
                          refine cw_seq ?_
                          obtain ⟨g139, h⟩ := gs h
                          obtain ⟨g140, h⟩ := gs h
                          refine cw_drawL 10 [fun vz wz => vz = (.pointer (some ⟨G1, 8, none⟩) : Value), fun vz wz => vz = (V0_0 : Value), fun vz wz => vz = (.int .i64 s130 : Value), fun vz wz => vz = (.pointer (some ⟨(sb V0_0), so V0_0 + Int.toNat s130 * 1, none⟩) : Value), fun vz wz => vz = (.int .i64 (ix a0.Charts s130) : Value), fun vz wz => vz = (.pointer (some ⟨G1, 8, none⟩) : Value), fun vz wz => vz = (V0_0 : Value), fun vz wz => vz = (.int .i64 s98.2 : Value), fun vz wz => vz = (.pointer (some ⟨(sb V0_0), so V0_0 + Int.toNat s98.2 * 1, none⟩) : Value), fun vz wz => vz = (.int .i64 (ix a0.Charts s98.2) : Value)] mo rfl ⟨fun _ _ _ h _ => h, fun _ _ _ h _ => h, fun _ _ _ h _ => h, fun _ _ _ h _ => h, fun _ _ _ h _ => h, fun _ _ _ h _ => h, fun _ _ _ h _ => h, fun _ _ _ h _ => h, fun _ _ _ h _ => h, fun _ _ _ h _ => h, trivial⟩ ?_ ?_
                          · refine ⟨?_, ?_, ?_, ?_, ?_, ?_, ?_, ?_, ?_, ?_, trivial⟩
                            · intro ρz wz hz hk hd
                              exact sk_val (v := .pointer (some ⟨G1, 8, none⟩)) (by exact xr_fieldAddr (p := 0) (q := 8) rfl fl120_3 ((hk 1 rfl).trans e1)) rfl rfl
                            · intro ρz wz hz hk hd
                              have d103 := hd 0 rfl 103 rfl
                              exact sk_val (v := V0_0) (by exact xr_load1 (v := V0_0) rfl ag45 d103 ((b2.gr hz).seg 8 rfl rfl)) rfl rfl
                            · intro ρz wz hz hk hd
                              exact sk_val (v := .int .i64 s130) (by exact xr_move rfl ((hk 5 rfl).trans e5)) rfl rfl
                            · intro ρz wz hz hk hd
                              have d104 := hd 1 rfl 104 rfl
                              have d105 := hd 2 rfl 105 rfl
                              exact sk_val (by exact xr_indexR (K := (kI .i64)) (v := V0_0) rfl Try.underlying45 sz3 d104 (R0_0.gr (fB.gr hz)) d105 g139.1 g139.2) rfl rfl
                            · intro ρz wz hz hk hd
                              have d106 := hd 3 rfl 106 rfl
                              exact sk_val (v := .int .i64 (ix a0.Charts s130)) (by exact xr_load1 (v := .int .i64 (ix a0.Charts s130)) rfl ag3 d106 ((R0_0.gr (fB.gr hz)).elem g139.1 g139.2)) rfl rfl
                            · intro ρz wz hz hk hd
                              exact sk_val (v := .pointer (some ⟨G1, 8, none⟩)) (by exact xr_fieldAddr (p := 0) (q := 8) rfl fl120_3 ((hk 1 rfl).trans e1)) rfl rfl
                            · intro ρz wz hz hk hd
                              have d108 := hd 5 rfl 108 rfl
                              exact sk_val (v := V0_0) (by exact xr_load1 (v := V0_0) rfl ag45 d108 ((b2.gr hz).seg 8 rfl rfl)) rfl rfl
                            · intro ρz wz hz hk hd
                              exact sk_val (v := .int .i64 s98.2) (by exact xr_move rfl ((hk 4 rfl).trans e4)) rfl rfl
                            · intro ρz wz hz hk hd
                              have d109 := hd 6 rfl 109 rfl
                              have d110 := hd 7 rfl 110 rfl
                              exact sk_val (by exact xr_indexR (K := (kI .i64)) (v := V0_0) rfl Try.underlying45 sz3 d109 (R0_0.gr (fB.gr hz)) d110 g140.1 g140.2) rfl rfl
                            · intro ρz wz hz hk hd
                              have d111 := hd 8 rfl 111 rfl
                              exact sk_val (v := .int .i64 (ix a0.Charts s98.2)) (by exact xr_load1 (v := .int .i64 (ix a0.Charts s98.2)) rfl ag3 d111 ((R0_0.gr (fB.gr hz)).elem g140.1 g140.2)) rfl rfl
                          · intro ρ141 w142 q143 hk hd
                            have e1 := (hk 1 rfl).trans e1
                            have e3 := (hk 3 rfl).trans e3
                            have e4 := (hk 4 rfl).trans e4
                            have e5 := (hk 5 rfl).trans e5
                            have e107 := hd 4 rfl 107 rfl
                            have e112 := hd 9 rfl 112 rfl
                            have b2 := b2.gr q143
                            have o122 := o122.gr q143
                            have fB := fB.gr q143
                            refine ol_val (v := .bool (decide ((ix a0.Charts s130) = (ix a0.Charts s98.2)))) (by exact xr_eqI rfl Try.underlying3 rfl e107 e112) rfl rfl rfl ?_
                            refine ol_nil ?_
                            rcases is h with ⟨c144, h⟩ | ⟨c144, h⟩
                            · refine cw_condT rfl c144 ?_
                              refine cw_seq ?_
                              refine cw_region ?_
                              refine ol_val (v := .bool false) (by exact xr_assign rfl rfl) rfl rfl rfl ?_
                              refine ol_nil ?_
                              refine cw_ret ?_
                              repeat (first | with_reducible refine thn_r ?_ | with_reducible refine blk_r ?_)
                              obtain rfl := Option.some.inj h
                              refine lp_ret ?_
                              rintro rfl
                              repeat (first | with_reducible refine thn_r ?_ | with_reducible refine blk_r ?_)
                              have h := h133
                              obtain rfl := Option.some.inj h
                              refine lp_ret ?_
                              rintro rfl
                              repeat (first | with_reducible refine thn_r ?_ | with_reducible refine blk_r ?_)
                              have h := h101
                              obtain rfl := Option.some.inj h
                              refine fin_ret1 Try.results90 rfl ?_
                              exact ⟨_, rfl, rfl, fB⟩
                            · refine cw_condF rfl c144 ?_
                              refine cw_skip ?_
                              refine blk_i ?_
                              refine cw_region ?_
                              refine ol_val (v := .int .i64 s130) (by exact xr_move rfl e5) rfl rfl rfl ?_
                              refine ol_val (v := .int .i64 (IntKind.i64.wrap (s130 + 1))) (by exact xr_add rfl rfl rfl) rfl rfl rfl ?_
                              refine ol_val (v := .int .i64 (IntKind.i64.wrap (s130 + 1))) (by exact xr_assign rfl rfl) rfl rfl rfl ?_
                              refine ol_nil ?_
                              obtain rfl := Option.some.inj h
                              refine lp_in ?_
                              exact ⟨o122, e1, e3, e4, rfl, b2, fB⟩
                        · refine cw_condF rfl c138 ?_
                          refine cw_exit ?_
                          repeat (first | with_reducible refine thn_e ?_ | with_reducible refine blk_e rfl ?_)
                          obtain rfl := Option.some.inj h
                          refine lp_exit ?_
                          rintro rfl
                          refine thn_x ?_
                          exact ⟨_, rfl, o122, e1, e3, e4, b2, fB⟩
                    · rintro ρ145 w146 ⟨x134, rfl, o122, e1, e3, e4, b2, fB⟩
                      have h := h133
                      refine blk_i ?_
                      refine cw_region ?_
                      refine ol_val (v := .int .i64 s98.2) (by exact xr_move rfl e4) rfl rfl rfl ?_
                      refine ol_val (v := .int .i64 (IntKind.i64.wrap (s98.2 + 1))) (by exact xr_add rfl rfl rfl) rfl rfl rfl ?_
                      refine ol_val (v := .int .i64 (IntKind.i64.wrap (s98.2 + 1))) (by exact xr_assign rfl rfl) rfl rfl rfl ?_
                      refine ol_nil ?_
                      obtain rfl := Option.some.inj h
                      refine lp_in ?_
                      exact ⟨v121, o122, e1, e3, rfl, b2, fB⟩
                  · refine cw_condF rfl c112 ?_
                    refine cw_exit ?_
                    repeat (first | with_reducible refine thn_e ?_ | with_reducible refine blk_e rfl ?_)
                    obtain rfl := Option.some.inj h
                    refine lp_exit ?_
                    rintro rfl
                    refine thn_x ?_
                    exact ⟨_, rfl, v106, o107, e1, e3, b2, fB⟩
              · rintro ρ147 w148 ⟨x102, rfl, v103, o104, e1, e3, b2, fB⟩
                have h := h101
                refine cw_seq ?_
                refine cw_seq ?_
                refine cw_region ?_
                refine ol_val (v := .int .i64 0) (by exact xr_assign rfl rfl) rfl rfl rfl ?_
                refine ol_nil ?_
                obtain ⟨e150, l151, h152⟩ := bs h
                refine cw_mid (fun ρ' w' => ∃ x153, e150 = Sum.inr x153 ∧ Gr w w') ?_ ?_
                · refine cw_block ?_
                  refine cw_round (fun (s149 : Int) ρ' w' => ∃ o104 : Own (kI .i64) 3 w' w.heap.size v103 x102, ρ' 1 = .pointer (some ⟨G1, 0, none⟩) ∧ ρ' 3 = v103 ∧ ρ' 6 = .int .i64 s149 ∧ Blk w' G1 120 [Seg.cell (.int .i64 a0.Epoch), Seg.cell (.int .i64 a0.Tickets.Geometry.Blocks), Seg.cell (.int .i64 a0.Tickets.Geometry.Slots), Seg.cell (.int .i64 a0.Tickets.Geometry.Gens), Seg.cell (.int .i64 a0.Tickets.Top), Seg.cell (.int .i64 a0.Tickets.High), Seg.cell (.int .i64 a0.Tickets.Free), Seg.cell (.int .i64 a0.Dir), Seg.cell V0_0 R0_0.one] ∧ Gr w w') l151 ?_ ?_
                  · skip
                    exact ⟨o104, e1, e3, rfl, b2, fB⟩
                  · rintro s149 x156 ρ154 w155 ⟨o104, e1, e3, e6, b2, fB⟩ h
                    unfold rickyardref13_Right.s3 at h
                    refine cw_seq ?_
                    refine cw_seq ?_
                    refine cw_region ?_
                    refine ol_val (v := .int .i64 s149) (by exact xr_move rfl e6) rfl rfl rfl ?_
                    refine ol_val (v := v103) (by exact xr_move rfl e3) rfl rfl rfl ?_
                    refine ol_val (v := .int .i64 (List.length x102 : Int)) (by exact xr_lenR rfl Try.underlying45 rfl o104.rd) rfl rfl rfl ?_
                    refine ol_val (v := .bool (decide (s149 < (List.length x102 : Int)))) (by exact xr_lss rfl rfl rfl) rfl rfl rfl ?_
                    refine ol_nil ?_
                    rcases is h with ⟨c157, h⟩ | ⟨c157, h⟩
                    · refine cw_condT rfl c157 ?_
                      refine cw_skip ?_
                      refine cw_seq ?_
                      refine cw_block ?_
                      refine cw_seq ?_
                      obtain ⟨x158, j159, h⟩ := bs h
                      refine cw_mid (fun ρ' w' => ρ' 1 = .pointer (some ⟨G1, 0, none⟩) ∧ ρ' 3 = v103 ∧ ρ' 6 = .int .i64 s149 ∧ ρ' 135 = .bool x158 ∧ Gr w155 w') ?_ ?_
                      · skip
                        obtain ⟨g160, j159⟩ := gs j159
                        rcases is j159 with ⟨c161, j159⟩ | ⟨c161, j159⟩
                        · skip
                          refine cw_drawL 15 [fun vz wz => vz = (v103 : Value), fun vz wz => vz = (.int .i64 s149 : Value), fun vz wz => vz = (.pointer (some ⟨(sb v103), so v103 + Int.toNat s149 * 1, none⟩) : Value), fun vz wz => vz = (.int .i64 (ix x102 s149) : Value), fun vz wz => vz = (.bool (decide ((ix x102 s149) < 2)) : Value), fun vz wz => vz = (.bool (decide ((ix x102 s149) < 2)) : Value), fun vz _ => vz = undef, fun vz _ => vz = undef, fun vz _ => vz = undef, fun vz _ => vz = undef, fun vz _ => vz = undef, fun vz _ => vz = undef, fun vz _ => vz = undef, fun vz _ => vz = undef, fun vz _ => vz = undef] mo rfl ⟨fun _ _ _ h _ => h, fun _ _ _ h _ => h, fun _ _ _ h _ => h, fun _ _ _ h _ => h, fun _ _ _ h _ => h, fun _ _ _ h _ => h, fun _ _ _ h _ => h, fun _ _ _ h _ => h, fun _ _ _ h _ => h, fun _ _ _ h _ => h, fun _ _ _ h _ => h, fun _ _ _ h _ => h, fun _ _ _ h _ => h, fun _ _ _ h _ => h, fun _ _ _ h _ => h, trivial⟩ ?_ ?_
                          · refine ⟨?_, ?_, ?_, ?_, ?_, ?_, ?_, ?_, ?_, ?_, ?_, ?_, ?_, ?_, ?_, trivial⟩
                            · intro ρz wz hz hk hd
                              exact sk_val (v := v103) (by exact xr_move rfl ((hk 3 rfl).trans e3)) rfl rfl
                            · intro ρz wz hz hk hd
                              exact sk_val (v := .int .i64 s149) (by exact xr_move rfl ((hk 6 rfl).trans e6)) rfl rfl
                            · intro ρz wz hz hk hd
                              have d120 := hd 0 rfl 120 rfl
                              have d121 := hd 1 rfl 121 rfl
                              exact sk_val (by exact xr_indexR (K := (kI .i64)) (v := v103) rfl Try.underlying45 sz3 d120 (o104.gr hz).rd d121 g160.1 g160.2) rfl rfl
                            · intro ρz wz hz hk hd
                              have d122 := hd 2 rfl 122 rfl
                              exact sk_val (v := .int .i64 (ix x102 s149)) (by exact xr_load1 (v := .int .i64 (ix x102 s149)) rfl ag3 d122 ((o104.gr hz).rd.elem g160.1 g160.2)) rfl rfl
                            · intro ρz wz hz hk hd
                              have d123 := hd 3 rfl 123 rfl
                              exact sk_val (v := .bool (decide ((ix x102 s149) < 2))) (by exact xr_lss rfl d123 rfl) rfl rfl
                            · intro ρz wz hz hk hd
                              have d124 := hd 4 rfl 124 rfl
                              exact sk_val (v := .bool (decide ((ix x102 s149) < 2))) (by exact xr_move rfl d124) rfl rfl
                            · intro ρz wz hz hk hd
                              have d125 := hd 5 rfl 125 rfl
                              exact sk_skip rfl rfl d125 c161 rfl
                            · intro ρz wz hz hk hd
                              have d125 := hd 5 rfl 125 rfl
                              exact sk_skip rfl rfl d125 c161 rfl
                            · intro ρz wz hz hk hd
                              have d125 := hd 5 rfl 125 rfl
                              exact sk_skip rfl rfl d125 c161 rfl
                            · intro ρz wz hz hk hd
                              have d125 := hd 5 rfl 125 rfl
                              exact sk_skip rfl rfl d125 c161 rfl
                            · intro ρz wz hz hk hd
                              have d125 := hd 5 rfl 125 rfl
                              exact sk_skip rfl rfl d125 c161 rfl
                            · intro ρz wz hz hk hd
                              have d125 := hd 5 rfl 125 rfl
                              exact sk_skip rfl rfl d125 c161 rfl
                            · intro ρz wz hz hk hd
                              have d125 := hd 5 rfl 125 rfl
                              exact sk_skip rfl rfl d125 c161 rfl
                            · intro ρz wz hz hk hd
                              have d125 := hd 5 rfl 125 rfl
                              exact sk_skip rfl rfl d125 c161 rfl
                            · intro ρz wz hz hk hd
                              have d125 := hd 5 rfl 125 rfl
                              exact sk_skip rfl rfl d125 c161 rfl
                          · intro ρ162 w163 q164 hk hd
                            have e1 := (hk 1 rfl).trans e1
                            have e3 := (hk 3 rfl).trans e3
                            have e6 := (hk 6 rfl).trans e6
                            have e125 := hd 5 rfl 125 rfl
                            have b2 := b2.gr q164
                            have o104 := o104.gr q164
                            have fB := fB.gr q164
                            refine ol_val (v := .bool true) (by exact xr_pickT rfl e125 c161 rfl) rfl rfl rfl ?_
                            refine ol_nil ?_
                            obtain rfl := Option.some.inj j159
                            refine thn_i ?_
                            exact ⟨e1, e3, e6, rfl, q164⟩
                        · skip
                          obtain ⟨g165, j159⟩ := gs j159
                          refine cw_drawL 15 [fun vz wz => vz = (v103 : Value), fun vz wz => vz = (.int .i64 s149 : Value), fun vz wz => vz = (.pointer (some ⟨(sb v103), so v103 + Int.toNat s149 * 1, none⟩) : Value), fun vz wz => vz = (.int .i64 (ix x102 s149) : Value), fun vz wz => vz = (.bool (decide ((ix x102 s149) < 2)) : Value), fun vz wz => vz = (.bool (decide ((ix x102 s149) < 2)) : Value), fun vz wz => vz = (v103 : Value), fun vz wz => vz = (.int .i64 s149 : Value), fun vz wz => vz = (.pointer (some ⟨(sb v103), so v103 + Int.toNat s149 * 1, none⟩) : Value), fun vz wz => vz = (.int .i64 (ix x102 s149) : Value), fun vz wz => vz = (.pointer (some ⟨G1, 1, none⟩) : Value), fun vz wz => vz = (.pointer (some ⟨G1, 1, none⟩) : Value), fun vz wz => vz = (.pointer (some ⟨G1, 1, none⟩) : Value), fun vz wz => vz = (.int .i64 a0.Tickets.Geometry.Blocks : Value), fun vz wz => vz = (.bool (decide ((ix x102 s149) ≥ a0.Tickets.Geometry.Blocks)) : Value)] mo rfl ⟨fun _ _ _ h _ => h, fun _ _ _ h _ => h, fun _ _ _ h _ => h, fun _ _ _ h _ => h, fun _ _ _ h _ => h, fun _ _ _ h _ => h, fun _ _ _ h _ => h, fun _ _ _ h _ => h, fun _ _ _ h _ => h, fun _ _ _ h _ => h, fun _ _ _ h _ => h, fun _ _ _ h _ => h, fun _ _ _ h _ => h, fun _ _ _ h _ => h, fun _ _ _ h _ => h, trivial⟩ ?_ ?_
                          · refine ⟨?_, ?_, ?_, ?_, ?_, ?_, ?_, ?_, ?_, ?_, ?_, ?_, ?_, ?_, ?_, trivial⟩
                            · intro ρz wz hz hk hd
                              exact sk_val (v := v103) (by exact xr_move rfl ((hk 3 rfl).trans e3)) rfl rfl
                            · intro ρz wz hz hk hd
                              exact sk_val (v := .int .i64 s149) (by exact xr_move rfl ((hk 6 rfl).trans e6)) rfl rfl
                            · intro ρz wz hz hk hd
                              have d120 := hd 0 rfl 120 rfl
                              have d121 := hd 1 rfl 121 rfl
                              exact sk_val (by exact xr_indexR (K := (kI .i64)) (v := v103) rfl Try.underlying45 sz3 d120 (o104.gr hz).rd d121 g160.1 g160.2) rfl rfl
                            · intro ρz wz hz hk hd
                              have d122 := hd 2 rfl 122 rfl
                              exact sk_val (v := .int .i64 (ix x102 s149)) (by exact xr_load1 (v := .int .i64 (ix x102 s149)) rfl ag3 d122 ((o104.gr hz).rd.elem g160.1 g160.2)) rfl rfl
                            · intro ρz wz hz hk hd
                              have d123 := hd 3 rfl 123 rfl
                              exact sk_val (v := .bool (decide ((ix x102 s149) < 2))) (by exact xr_lss rfl d123 rfl) rfl rfl
                            · intro ρz wz hz hk hd
                              have d124 := hd 4 rfl 124 rfl
                              exact sk_val (v := .bool (decide ((ix x102 s149) < 2))) (by exact xr_move rfl d124) rfl rfl
                            · intro ρz wz hz hk hd
                              have d125 := hd 5 rfl 125 rfl
                              exact sk_gval (v := v103) (by exact xr_move rfl ((hk 3 rfl).trans e3)) rfl rfl d125 c161 rfl
                            · intro ρz wz hz hk hd
                              have d125 := hd 5 rfl 125 rfl
                              exact sk_gval (v := .int .i64 s149) (by exact xr_move rfl ((hk 6 rfl).trans e6)) rfl rfl d125 c161 rfl
                            · intro ρz wz hz hk hd
                              have d126 := hd 6 rfl 126 rfl
                              have d127 := hd 7 rfl 127 rfl
                              have d125 := hd 5 rfl 125 rfl
                              exact sk_gval (by exact xr_indexR (K := (kI .i64)) (v := v103) rfl Try.underlying45 sz3 d126 (o104.gr hz).rd d127 g165.1 g165.2) rfl rfl d125 c161 rfl
                            · intro ρz wz hz hk hd
                              have d128 := hd 8 rfl 128 rfl
                              have d125 := hd 5 rfl 125 rfl
                              exact sk_gval (v := .int .i64 (ix x102 s149)) (by exact xr_load1 (v := .int .i64 (ix x102 s149)) rfl ag3 d128 ((o104.gr hz).rd.elem g165.1 g165.2)) rfl rfl d125 c161 rfl
                            · intro ρz wz hz hk hd
                              have d125 := hd 5 rfl 125 rfl
                              exact sk_gval (v := .pointer (some ⟨G1, 1, none⟩)) (by exact xr_fieldAddr (p := 0) (q := 1) rfl fl120_1 ((hk 1 rfl).trans e1)) rfl rfl d125 c161 rfl
                            · intro ρz wz hz hk hd
                              have d130 := hd 10 rfl 130 rfl
                              have d125 := hd 5 rfl 125 rfl
                              exact sk_gval (v := .pointer (some ⟨G1, 1, none⟩)) (by exact xr_fieldAddr (p := 1) (q := 0) rfl fl118_0 d130) rfl rfl d125 c161 rfl
                            · intro ρz wz hz hk hd
                              have d131 := hd 11 rfl 131 rfl
                              have d125 := hd 5 rfl 125 rfl
                              exact sk_gval (v := .pointer (some ⟨G1, 1, none⟩)) (by exact xr_fieldAddr (p := 1) (q := 0) rfl fl116_0 d131) rfl rfl d125 c161 rfl
                            · intro ρz wz hz hk hd
                              have d132 := hd 12 rfl 132 rfl
                              have d125 := hd 5 rfl 125 rfl
                              exact sk_gval (v := .int .i64 a0.Tickets.Geometry.Blocks) (by exact xr_load1 (v := .int .i64 a0.Tickets.Geometry.Blocks) rfl ag3 d132 ((b2.gr hz).seg 1 rfl rfl)) rfl rfl d125 c161 rfl
                            · intro ρz wz hz hk hd
                              have d129 := hd 9 rfl 129 rfl
                              have d133 := hd 13 rfl 133 rfl
                              have d125 := hd 5 rfl 125 rfl
                              exact sk_gval (by exact xr_geq rfl d129 d133) rfl rfl d125 c161 rfl
                          · intro ρ166 w167 q168 hk hd
                            have e1 := (hk 1 rfl).trans e1
                            have e3 := (hk 3 rfl).trans e3
                            have e6 := (hk 6 rfl).trans e6
                            have e125 := hd 5 rfl 125 rfl
                            have e126 := hd 6 rfl 126 rfl
                            have e127 := hd 7 rfl 127 rfl
                            have e128 := hd 8 rfl 128 rfl
                            have e129 := hd 9 rfl 129 rfl
                            have e130 := hd 10 rfl 130 rfl
                            have e131 := hd 11 rfl 131 rfl
                            have e132 := hd 12 rfl 132 rfl
                            have e133 := hd 13 rfl 133 rfl
                            have e134 := hd 14 rfl 134 rfl
                            have b2 := b2.gr q168
                            have o104 := o104.gr q168
                            have fB := fB.gr q168
                            refine ol_val (v := .bool (decide ((ix x102 s149) ≥ a0.Tickets.Geometry.Blocks))) (by exact xr_pickF rfl e125 c161 e134) rfl rfl rfl ?_
                            refine ol_nil ?_
                            obtain rfl := Option.some.inj j159
                            refine thn_i ?_
                            exact ⟨e1, e3, e6, rfl, q168⟩
                      · skip
                        rintro ρ169 w170 ⟨e1, e3, e6, e135, q171⟩
                        have b2 := b2.gr q171
                        have o104 := o104.gr q171
                        have fB := fB.gr q171
                        rcases is h with ⟨c172, h⟩ | ⟨c172, h⟩
                        · refine cw_condT e135 c172 ?_
                          refine cw_seq ?_
                          refine cw_region ?_
                          refine ol_val (v := .bool false) (by exact xr_assign rfl rfl) rfl rfl rfl ?_
                          refine ol_nil ?_
                          refine cw_ret ?_
                          repeat (first | with_reducible refine thn_r ?_ | with_reducible refine blk_r ?_)
                          obtain rfl := Option.some.inj h
                          refine lp_ret ?_
                          rintro rfl
                          repeat (first | with_reducible refine thn_r ?_ | with_reducible refine blk_r ?_)
                          have h := h152
                          obtain rfl := Option.some.inj h
                          refine fin_ret1 Try.results90 rfl ?_
                          exact ⟨_, rfl, rfl, fB⟩
                        · refine cw_condF e135 c172 ?_
                          refine cw_skip ?_
                          refine blk_i ?_
                          refine cw_region ?_
                          refine ol_val (v := .int .i64 s149) (by exact xr_move rfl e6) rfl rfl rfl ?_
                          refine ol_val (v := .int .i64 (IntKind.i64.wrap (s149 + 1))) (by exact xr_add rfl rfl rfl) rfl rfl rfl ?_
                          refine ol_val (v := .int .i64 (IntKind.i64.wrap (s149 + 1))) (by exact xr_assign rfl rfl) rfl rfl rfl ?_
                          refine ol_nil ?_
                          obtain rfl := Option.some.inj h
                          refine lp_in ?_
                          exact ⟨o104, e1, e3, rfl, b2, fB⟩
                    · refine cw_condF rfl c157 ?_
                      refine cw_exit ?_
                      repeat (first | with_reducible refine thn_e ?_ | with_reducible refine blk_e rfl ?_)
                      obtain rfl := Option.some.inj h
                      refine lp_exit ?_
                      rintro rfl
                      refine thn_x ?_
                      exact ⟨_, rfl, fB⟩
                · rintro ρ173 w174 ⟨x153, rfl, fB⟩
                  have h := h152
                  refine cw_seq ?_
                  refine cw_region ?_
                  refine ol_val (v := .bool true) (by exact xr_assign rfl rfl) rfl rfl rfl ?_
                  refine ol_nil ?_
                  refine cw_ret ?_
                  repeat (first | with_reducible refine thn_r ?_ | with_reducible refine blk_r ?_)
                  obtain rfl := Option.some.inj h
                  refine fin_ret1 Try.results90 rfl ?_
                  exact ⟨_, rfl, rfl, fB⟩
end Go.Proofs.Ytjhajfkfhdnciaa

/- rickyard/rickyardref13.Put: its model, and that the Go function computes it: written by gen.py. -/
set_option linter.unusedVariables false
namespace Go.Proofs.Ytjhajfkfhdnciaa
open Go Go.Xw
def rickyardref13_Put.s0 (fu : Nat) (a0 : S_api_Super) : ((List UInt8) × Int) → Option (Sum (List UInt8) ((List UInt8) × Int)) := fun s44 => (if (decide (s44.2 < (List.length a0.Charts : Int))) = true then (if 0 ≤ s44.2 ∧ s44.2 < (List.length a0.Charts : Int) then ((rickyardref01_Lay.f fu (IntKind.u64.wrap (ix a0.Charts s44.2)) 2 : Option (List UInt8)).bind fun t53 => (if List.length s44.1 + List.length t53 ≤ LIM then some (Sum.inr ((s44.1 ++ t53), (IntKind.i64.wrap (s44.2 + 1)))) else none)) else none) else some (Sum.inl (s44.1)))
def rickyardref13_Put.f (fu : Nat) (a0 : S_api_Super) : Option (List UInt8) := ((rickyardref01_Lay.f fu (IntKind.u64.wrap a0.Epoch) 8 : Option (List UInt8)).bind fun t7 => ((rickyardref01_Lay.f fu (IntKind.u64.wrap a0.Tickets.Geometry.Blocks) 4 : Option (List UInt8)).bind fun t10 => (if List.length t7 + List.length t10 ≤ LIM then ((rickyardref01_Lay.f fu (IntKind.u64.wrap a0.Tickets.Geometry.Slots) 4 : Option (List UInt8)).bind fun t14 => (if List.length (t7 ++ t10) + List.length t14 ≤ LIM then ((rickyardref01_Lay.f fu (IntKind.u64.wrap a0.Tickets.Geometry.Gens) 4 : Option (List UInt8)).bind fun t18 => (if List.length ((t7 ++ t10) ++ t14) + List.length t18 ≤ LIM then ((rickyardref01_Lay.f fu (IntKind.u64.wrap a0.Tickets.High) 4 : Option (List UInt8)).bind fun t22 => (if List.length (((t7 ++ t10) ++ t14) ++ t18) + List.length t22 ≤ LIM then ((rickyardref01_Lay.f fu (IntKind.u64.wrap a0.Tickets.Free) 4 : Option (List UInt8)).bind fun t26 => (if List.length ((((t7 ++ t10) ++ t14) ++ t18) ++ t22) + List.length t26 ≤ LIM then ((rickyardref01_Lay.f fu (IntKind.u64.wrap a0.Tickets.Top) 2 : Option (List UInt8)).bind fun t33 => (if List.length (((((t7 ++ t10) ++ t14) ++ t18) ++ t22) ++ t26) + List.length t33 ≤ LIM then ((rickyardref01_Lay.f fu (IntKind.u64.wrap a0.Dir) 2 : Option (List UInt8)).bind fun t37 => (if List.length ((((((t7 ++ t10) ++ t14) ++ t18) ++ t22) ++ t26) ++ t33) + List.length t37 ≤ LIM then ((loopM (rickyardref13_Put.s0 fu a0) fu ((((((((t7 ++ t10) ++ t14) ++ t18) ++ t22) ++ t26) ++ t33) ++ t37), 0)).bind fun e45 => ((rickyardref07_Seal.f fu 7 (List.length a0.Charts : Int) e45 : Option (List UInt8)).bind fun t60 => some (t60))) else none)) else none)) else none)) else none)) else none)) else none)) else none)))
set_option maxRecDepth 100000 in
set_option maxHeartbeats 400000 in
theorem rickyardref13_Put.ok (fu : Nat) (w : World) (a0 : S_api_Super) (V0_0 : Value) (R0_0 : Rd (kI .i64) w V0_0 a0.Charts) (r : (List UInt8)) (h : rickyardref13_Put.f fu a0 = some r) :
    Calls Try.prog 93 (([aggV [Seg.cell (.int .i64 a0.Epoch), Seg.cell (.int .i64 a0.Tickets.Geometry.Blocks), Seg.cell (.int .i64 a0.Tickets.Geometry.Slots), Seg.cell (.int .i64 a0.Tickets.Geometry.Gens), Seg.cell (.int .i64 a0.Tickets.Top), Seg.cell (.int .i64 a0.Tickets.High), Seg.cell (.int .i64 a0.Tickets.Free), Seg.cell (.int .i64 a0.Dir), Seg.cell V0_0 R0_0.one]] : List Value).toArray) w (fun e w' => ∃ v, e = .returned v ∧ v = sv r ∧ Gr w w') := by
  unfold rickyardref13_Put.f at h
  have fB : Gr w w := Fr.refl _ _
  refine calls_cw Try.func93 rfl Try.ntmps93 rfl ?_
  refine cw_seq ?_
  refine cw_region ?_
  refine ol_op (by exact opv_box (ss := [Seg.cell (.int .i64 a0.Epoch), Seg.cell (.int .i64 a0.Tickets.Geometry.Blocks), Seg.cell (.int .i64 a0.Tickets.Geometry.Slots), Seg.cell (.int .i64 a0.Tickets.Geometry.Gens), Seg.cell (.int .i64 a0.Tickets.Top), Seg.cell (.int .i64 a0.Tickets.High), Seg.cell (.int .i64 a0.Tickets.Free), Seg.cell (.int .i64 a0.Dir), Seg.cell V0_0 R0_0.one]) rfl rfl rfl) rfl rfl rfl ?_
  rintro _ w6 ⟨G1, rfl, b2, q3, z4⟩
  have z4 := Nat.le_trans fB.size z4
  have fB := fB.gr q3
  refine ol_val (v := sv []) (by exact xr_assign rfl rfl) rfl rfl rfl ?_
  refine ol_nil ?_
  refine cw_seq ?_
  obtain ⟨t7, k8, h⟩ := bs h
  obtain ⟨t10, k11, h⟩ := bs h
  obtain ⟨g13, h⟩ := gs h
  obtain ⟨t14, k15, h⟩ := bs h
  obtain ⟨g17, h⟩ := gs h
  obtain ⟨t18, k19, h⟩ := bs h
  obtain ⟨g21, h⟩ := gs h
  obtain ⟨t22, k23, h⟩ := bs h
  obtain ⟨g25, h⟩ := gs h
  obtain ⟨t26, k27, h⟩ := bs h
  refine cw_drawL 36 [fun vz wz => vz = (.pointer (some ⟨G1, 0, none⟩) : Value), fun vz wz => vz = (.int .i64 a0.Epoch : Value), fun vz wz => vz = (.int .u64 (IntKind.u64.wrap a0.Epoch) : Value), fun vz wz => vz = (sv t7 : Value), fun vz wz => vz = (.pointer (some ⟨G1, 1, none⟩) : Value), fun vz wz => vz = (.pointer (some ⟨G1, 1, none⟩) : Value), fun vz wz => vz = (.pointer (some ⟨G1, 1, none⟩) : Value), fun vz wz => vz = (.int .i64 a0.Tickets.Geometry.Blocks : Value), fun vz wz => vz = (.int .u64 (IntKind.u64.wrap a0.Tickets.Geometry.Blocks) : Value), fun vz wz => vz = (sv t10 : Value), fun vz wz => vz = (sv (t7 ++ t10) : Value), fun vz wz => vz = (.pointer (some ⟨G1, 1, none⟩) : Value), fun vz wz => vz = (.pointer (some ⟨G1, 1, none⟩) : Value), fun vz wz => vz = (.pointer (some ⟨G1, 2, none⟩) : Value), fun vz wz => vz = (.int .i64 a0.Tickets.Geometry.Slots : Value), fun vz wz => vz = (.int .u64 (IntKind.u64.wrap a0.Tickets.Geometry.Slots) : Value), fun vz wz => vz = (sv t14 : Value), fun vz wz => vz = (sv ((t7 ++ t10) ++ t14) : Value), fun vz wz => vz = (.pointer (some ⟨G1, 1, none⟩) : Value), fun vz wz => vz = (.pointer (some ⟨G1, 1, none⟩) : Value), fun vz wz => vz = (.pointer (some ⟨G1, 3, none⟩) : Value), fun vz wz => vz = (.int .i64 a0.Tickets.Geometry.Gens : Value), fun vz wz => vz = (.int .u64 (IntKind.u64.wrap a0.Tickets.Geometry.Gens) : Value), fun vz wz => vz = (sv t18 : Value), fun vz wz => vz = (sv (((t7 ++ t10) ++ t14) ++ t18) : Value), fun vz wz => vz = (.pointer (some ⟨G1, 1, none⟩) : Value), fun vz wz => vz = (.pointer (some ⟨G1, 5, none⟩) : Value), fun vz wz => vz = (.int .i64 a0.Tickets.High : Value), fun vz wz => vz = (.int .u64 (IntKind.u64.wrap a0.Tickets.High) : Value), fun vz wz => vz = (sv t22 : Value), fun vz wz => vz = (sv ((((t7 ++ t10) ++ t14) ++ t18) ++ t22) : Value), fun vz wz => vz = (.pointer (some ⟨G1, 1, none⟩) : Value), fun vz wz => vz = (.pointer (some ⟨G1, 6, none⟩) : Value), fun vz wz => vz = (.int .i64 a0.Tickets.Free : Value), fun vz wz => vz = (.int .u64 (IntKind.u64.wrap a0.Tickets.Free) : Value), fun vz wz => vz = (sv t26 : Value)] mo rfl ⟨fun _ _ _ h _ => h, fun _ _ _ h _ => h, fun _ _ _ h _ => h, fun _ _ _ h _ => h, fun _ _ _ h _ => h, fun _ _ _ h _ => h, fun _ _ _ h _ => h, fun _ _ _ h _ => h, fun _ _ _ h _ => h, fun _ _ _ h _ => h, fun _ _ _ h _ => h, fun _ _ _ h _ => h, fun _ _ _ h _ => h, fun _ _ _ h _ => h, fun _ _ _ h _ => h, fun _ _ _ h _ => h, fun _ _ _ h _ => h, fun _ _ _ h _ => h, fun _ _ _ h _ => h, fun _ _ _ h _ => h, fun _ _ _ h _ => h, fun _ _ _ h _ => h, fun _ _ _ h _ => h, fun _ _ _ h _ => h, fun _ _ _ h _ => h, fun _ _ _ h _ => h, fun _ _ _ h _ => h, fun _ _ _ h _ => h, fun _ _ _ h _ => h, fun _ _ _ h _ => h, fun _ _ _ h _ => h, fun _ _ _ h _ => h, fun _ _ _ h _ => h, fun _ _ _ h _ => h, fun _ _ _ h _ => h, fun _ _ _ h _ => h, trivial⟩ ?_ ?_
  · refine ⟨?_, ?_, ?_, ?_, ?_, ?_, ?_, ?_, ?_, ?_, ?_, ?_, ?_, ?_, ?_, ?_, ?_, ?_, ?_, ?_, ?_, ?_, ?_, ?_, ?_, ?_, ?_, ?_, ?_, ?_, ?_, ?_, ?_, ?_, ?_, ?_, trivial⟩
    · intro ρz wz hz hk hd
      exact sk_val (v := .pointer (some ⟨G1, 0, none⟩)) (by exact xr_fieldAddr (p := 0) (q := 0) rfl fl120_0 ((hk 1 rfl).trans rfl)) rfl rfl
    · intro ρz wz hz hk hd
      have d5 := hd 0 rfl 5 rfl
      exact sk_val (v := .int .i64 a0.Epoch) (by exact xr_load1 (v := .int .i64 a0.Epoch) rfl ag3 d5 ((b2.gr hz).seg 0 rfl rfl)) rfl rfl
    · intro ρz wz hz hk hd
      have d6 := hd 1 rfl 6 rfl
      exact sk_val (v := .int .u64 (IntKind.u64.wrap a0.Epoch)) (by exact xr_conv rfl Try.underlying3 Try.underlying129 d6) rfl rfl
    · intro ρz wz hz hk hd
      have d7 := hd 2 rfl 7 rfl
      refine sk_op (by exact opv_call rfl cal99 (ac d7 (ac rfl an)) (rickyardref01_Lay.ok fu _ (IntKind.u64.wrap a0.Epoch) 8 _ k8)) rfl ?_
      rintro _ wy ⟨rfl, q9⟩
      exact ⟨rfl, q9⟩
    · intro ρz wz hz hk hd
      exact sk_val (v := .pointer (some ⟨G1, 1, none⟩)) (by exact xr_fieldAddr (p := 0) (q := 1) rfl fl120_1 ((hk 1 rfl).trans rfl)) rfl rfl
    · intro ρz wz hz hk hd
      have d9 := hd 4 rfl 9 rfl
      exact sk_val (v := .pointer (some ⟨G1, 1, none⟩)) (by exact xr_fieldAddr (p := 1) (q := 0) rfl fl118_0 d9) rfl rfl
    · intro ρz wz hz hk hd
      have d10 := hd 5 rfl 10 rfl
      exact sk_val (v := .pointer (some ⟨G1, 1, none⟩)) (by exact xr_fieldAddr (p := 1) (q := 0) rfl fl116_0 d10) rfl rfl
    · intro ρz wz hz hk hd
      have d11 := hd 6 rfl 11 rfl
      exact sk_val (v := .int .i64 a0.Tickets.Geometry.Blocks) (by exact xr_load1 (v := .int .i64 a0.Tickets.Geometry.Blocks) rfl ag3 d11 ((b2.gr hz).seg 1 rfl rfl)) rfl rfl
    · intro ρz wz hz hk hd
      have d12 := hd 7 rfl 12 rfl
      exact sk_val (v := .int .u64 (IntKind.u64.wrap a0.Tickets.Geometry.Blocks)) (by exact xr_conv rfl Try.underlying3 Try.underlying129 d12) rfl rfl
    · intro ρz wz hz hk hd
      have d13 := hd 8 rfl 13 rfl
      refine sk_op (by exact opv_call rfl cal99 (ac d13 (ac rfl an)) (rickyardref01_Lay.ok fu _ (IntKind.u64.wrap a0.Tickets.Geometry.Blocks) 4 _ k11)) rfl ?_
      rintro _ wy ⟨rfl, q12⟩
      exact ⟨rfl, q12⟩
    · intro ρz wz hz hk hd
      have d8 := hd 3 rfl 8 rfl
      have d14 := hd 9 rfl 14 rfl
      exact sk_val (v := sv (t7 ++ t10)) (by exact xr_addStr rfl d8 d14 g13) rfl rfl
    · intro ρz wz hz hk hd
      exact sk_val (v := .pointer (some ⟨G1, 1, none⟩)) (by exact xr_fieldAddr (p := 0) (q := 1) rfl fl120_1 ((hk 1 rfl).trans rfl)) rfl rfl
    · intro ρz wz hz hk hd
      have d16 := hd 11 rfl 16 rfl
      exact sk_val (v := .pointer (some ⟨G1, 1, none⟩)) (by exact xr_fieldAddr (p := 1) (q := 0) rfl fl118_0 d16) rfl rfl
    · intro ρz wz hz hk hd
      have d17 := hd 12 rfl 17 rfl
      exact sk_val (v := .pointer (some ⟨G1, 2, none⟩)) (by exact xr_fieldAddr (p := 1) (q := 1) rfl fl116_1 d17) rfl rfl
    · intro ρz wz hz hk hd
      have d18 := hd 13 rfl 18 rfl
      exact sk_val (v := .int .i64 a0.Tickets.Geometry.Slots) (by exact xr_load1 (v := .int .i64 a0.Tickets.Geometry.Slots) rfl ag3 d18 ((b2.gr hz).seg 2 rfl rfl)) rfl rfl
    · intro ρz wz hz hk hd
      have d19 := hd 14 rfl 19 rfl
      exact sk_val (v := .int .u64 (IntKind.u64.wrap a0.Tickets.Geometry.Slots)) (by exact xr_conv rfl Try.underlying3 Try.underlying129 d19) rfl rfl
    · intro ρz wz hz hk hd
      have d20 := hd 15 rfl 20 rfl
      refine sk_op (by exact opv_call rfl cal99 (ac d20 (ac rfl an)) (rickyardref01_Lay.ok fu _ (IntKind.u64.wrap a0.Tickets.Geometry.Slots) 4 _ k15)) rfl ?_
      rintro _ wy ⟨rfl, q16⟩
      exact ⟨rfl, q16⟩
    · intro ρz wz hz hk hd
      have d15 := hd 10 rfl 15 rfl
      have d21 := hd 16 rfl 21 rfl
      exact sk_val (v := sv ((t7 ++ t10) ++ t14)) (by exact xr_addStr rfl d15 d21 g17) rfl rfl
    · intro ρz wz hz hk hd
      exact sk_val (v := .pointer (some ⟨G1, 1, none⟩)) (by exact xr_fieldAddr (p := 0) (q := 1) rfl fl120_1 ((hk 1 rfl).trans rfl)) rfl rfl
    · intro ρz wz hz hk hd
      have d23 := hd 18 rfl 23 rfl
      exact sk_val (v := .pointer (some ⟨G1, 1, none⟩)) (by exact xr_fieldAddr (p := 1) (q := 0) rfl fl118_0 d23) rfl rfl
    · intro ρz wz hz hk hd
      have d24 := hd 19 rfl 24 rfl
      exact sk_val (v := .pointer (some ⟨G1, 3, none⟩)) (by exact xr_fieldAddr (p := 1) (q := 2) rfl fl116_2 d24) rfl rfl
    · intro ρz wz hz hk hd
      have d25 := hd 20 rfl 25 rfl
      exact sk_val (v := .int .i64 a0.Tickets.Geometry.Gens) (by exact xr_load1 (v := .int .i64 a0.Tickets.Geometry.Gens) rfl ag3 d25 ((b2.gr hz).seg 3 rfl rfl)) rfl rfl
    · intro ρz wz hz hk hd
      have d26 := hd 21 rfl 26 rfl
      exact sk_val (v := .int .u64 (IntKind.u64.wrap a0.Tickets.Geometry.Gens)) (by exact xr_conv rfl Try.underlying3 Try.underlying129 d26) rfl rfl
    · intro ρz wz hz hk hd
      have d27 := hd 22 rfl 27 rfl
      refine sk_op (by exact opv_call rfl cal99 (ac d27 (ac rfl an)) (rickyardref01_Lay.ok fu _ (IntKind.u64.wrap a0.Tickets.Geometry.Gens) 4 _ k19)) rfl ?_
      rintro _ wy ⟨rfl, q20⟩
      exact ⟨rfl, q20⟩
    · intro ρz wz hz hk hd
      have d22 := hd 17 rfl 22 rfl
      have d28 := hd 23 rfl 28 rfl
      exact sk_val (v := sv (((t7 ++ t10) ++ t14) ++ t18)) (by exact xr_addStr rfl d22 d28 g21) rfl rfl
    · intro ρz wz hz hk hd
      exact sk_val (v := .pointer (some ⟨G1, 1, none⟩)) (by exact xr_fieldAddr (p := 0) (q := 1) rfl fl120_1 ((hk 1 rfl).trans rfl)) rfl rfl
    · intro ρz wz hz hk hd
      have d30 := hd 25 rfl 30 rfl
      exact sk_val (v := .pointer (some ⟨G1, 5, none⟩)) (by exact xr_fieldAddr (p := 1) (q := 4) rfl fl118_2 d30) rfl rfl
    · intro ρz wz hz hk hd
      have d31 := hd 26 rfl 31 rfl
      exact sk_val (v := .int .i64 a0.Tickets.High) (by exact xr_load1 (v := .int .i64 a0.Tickets.High) rfl ag3 d31 ((b2.gr hz).seg 5 rfl rfl)) rfl rfl
    · intro ρz wz hz hk hd
      have d32 := hd 27 rfl 32 rfl
      exact sk_val (v := .int .u64 (IntKind.u64.wrap a0.Tickets.High)) (by exact xr_conv rfl Try.underlying3 Try.underlying129 d32) rfl rfl
    · intro ρz wz hz hk hd
      have d33 := hd 28 rfl 33 rfl
      refine sk_op (by exact opv_call rfl cal99 (ac d33 (ac rfl an)) (rickyardref01_Lay.ok fu _ (IntKind.u64.wrap a0.Tickets.High) 4 _ k23)) rfl ?_
      rintro _ wy ⟨rfl, q24⟩
      exact ⟨rfl, q24⟩
    · intro ρz wz hz hk hd
      have d29 := hd 24 rfl 29 rfl
      have d34 := hd 29 rfl 34 rfl
      exact sk_val (v := sv ((((t7 ++ t10) ++ t14) ++ t18) ++ t22)) (by exact xr_addStr rfl d29 d34 g25) rfl rfl
    · intro ρz wz hz hk hd
      exact sk_val (v := .pointer (some ⟨G1, 1, none⟩)) (by exact xr_fieldAddr (p := 0) (q := 1) rfl fl120_1 ((hk 1 rfl).trans rfl)) rfl rfl
    · intro ρz wz hz hk hd
      have d36 := hd 31 rfl 36 rfl
      exact sk_val (v := .pointer (some ⟨G1, 6, none⟩)) (by exact xr_fieldAddr (p := 1) (q := 5) rfl fl118_3 d36) rfl rfl
    · intro ρz wz hz hk hd
      have d37 := hd 32 rfl 37 rfl
      exact sk_val (v := .int .i64 a0.Tickets.Free) (by exact xr_load1 (v := .int .i64 a0.Tickets.Free) rfl ag3 d37 ((b2.gr hz).seg 6 rfl rfl)) rfl rfl
    · intro ρz wz hz hk hd
      have d38 := hd 33 rfl 38 rfl
      exact sk_val (v := .int .u64 (IntKind.u64.wrap a0.Tickets.Free)) (by exact xr_conv rfl Try.underlying3 Try.underlying129 d38) rfl rfl
    · intro ρz wz hz hk hd
      have d39 := hd 34 rfl 39 rfl
      refine sk_op (by exact opv_call rfl cal99 (ac d39 (ac rfl an)) (rickyardref01_Lay.ok fu _ (IntKind.u64.wrap a0.Tickets.Free) 4 _ k27)) rfl ?_
      rintro _ wy ⟨rfl, q28⟩
      exact ⟨rfl, q28⟩
  · intro ρ29 w30 q31 hk hd
    have e1 := (hk 1 rfl).trans rfl
    have e35 := hd 30 rfl 35 rfl
    have e40 := hd 35 rfl 40 rfl
    have b2 := b2.gr q31
    have fB := fB.gr q31
    obtain ⟨g32, h⟩ := gs h
    refine ol_val (v := sv (((((t7 ++ t10) ++ t14) ++ t18) ++ t22) ++ t26)) (by exact xr_addStr rfl e35 e40 g32) rfl rfl rfl ?_
    refine ol_val (v := sv (((((t7 ++ t10) ++ t14) ++ t18) ++ t22) ++ t26)) (by exact xr_assign rfl rfl) rfl rfl rfl ?_
    refine ol_nil ?_
    refine cw_seq ?_
    obtain ⟨t33, k34, h⟩ := bs h
    obtain ⟨g36, h⟩ := gs h
    obtain ⟨t37, k38, h⟩ := bs h
    refine cw_drawL 11 [fun vz wz => vz = (sv (((((t7 ++ t10) ++ t14) ++ t18) ++ t22) ++ t26) : Value), fun vz wz => vz = (.pointer (some ⟨G1, 1, none⟩) : Value), fun vz wz => vz = (.pointer (some ⟨G1, 4, none⟩) : Value), fun vz wz => vz = (.int .i64 a0.Tickets.Top : Value), fun vz wz => vz = (.int .u64 (IntKind.u64.wrap a0.Tickets.Top) : Value), fun vz wz => vz = (sv t33 : Value), fun vz wz => vz = (sv ((((((t7 ++ t10) ++ t14) ++ t18) ++ t22) ++ t26) ++ t33) : Value), fun vz wz => vz = (.pointer (some ⟨G1, 7, none⟩) : Value), fun vz wz => vz = (.int .i64 a0.Dir : Value), fun vz wz => vz = (.int .u64 (IntKind.u64.wrap a0.Dir) : Value), fun vz wz => vz = (sv t37 : Value)] mo rfl ⟨fun _ _ _ h _ => h, fun _ _ _ h _ => h, fun _ _ _ h _ => h, fun _ _ _ h _ => h, fun _ _ _ h _ => h, fun _ _ _ h _ => h, fun _ _ _ h _ => h, fun _ _ _ h _ => h, fun _ _ _ h _ => h, fun _ _ _ h _ => h, fun _ _ _ h _ => h, trivial⟩ ?_ ?_
    · refine ⟨?_, ?_, ?_, ?_, ?_, ?_, ?_, ?_, ?_, ?_, ?_, trivial⟩
      · intro ρz wz hz hk hd
        exact sk_val (v := sv (((((t7 ++ t10) ++ t14) ++ t18) ++ t22) ++ t26)) (by exact xr_move rfl ((hk 3 rfl).trans rfl)) rfl rfl
      · intro ρz wz hz hk hd
        exact sk_val (v := .pointer (some ⟨G1, 1, none⟩)) (by exact xr_fieldAddr (p := 0) (q := 1) rfl fl120_1 ((hk 1 rfl).trans e1)) rfl rfl
      · intro ρz wz hz hk hd
        have d43 := hd 1 rfl 43 rfl
        exact sk_val (v := .pointer (some ⟨G1, 4, none⟩)) (by exact xr_fieldAddr (p := 1) (q := 3) rfl fl118_1 d43) rfl rfl
      · intro ρz wz hz hk hd
        have d44 := hd 2 rfl 44 rfl
        exact sk_val (v := .int .i64 a0.Tickets.Top) (by exact xr_load1 (v := .int .i64 a0.Tickets.Top) rfl ag3 d44 ((b2.gr hz).seg 4 rfl rfl)) rfl rfl
      · intro ρz wz hz hk hd
        have d45 := hd 3 rfl 45 rfl
        exact sk_val (v := .int .u64 (IntKind.u64.wrap a0.Tickets.Top)) (by exact xr_conv rfl Try.underlying3 Try.underlying129 d45) rfl rfl
      · intro ρz wz hz hk hd
        have d46 := hd 4 rfl 46 rfl
        refine sk_op (by exact opv_call rfl cal99 (ac d46 (ac rfl an)) (rickyardref01_Lay.ok fu _ (IntKind.u64.wrap a0.Tickets.Top) 2 _ k34)) rfl ?_
        rintro _ wy ⟨rfl, q35⟩
        exact ⟨rfl, q35⟩
      · intro ρz wz hz hk hd
        have d42 := hd 0 rfl 42 rfl
        have d47 := hd 5 rfl 47 rfl
        exact sk_val (v := sv ((((((t7 ++ t10) ++ t14) ++ t18) ++ t22) ++ t26) ++ t33)) (by exact xr_addStr rfl d42 d47 g36) rfl rfl
      · intro ρz wz hz hk hd
        exact sk_val (v := .pointer (some ⟨G1, 7, none⟩)) (by exact xr_fieldAddr (p := 0) (q := 7) rfl fl120_2 ((hk 1 rfl).trans e1)) rfl rfl
      · intro ρz wz hz hk hd
        have d49 := hd 7 rfl 49 rfl
        exact sk_val (v := .int .i64 a0.Dir) (by exact xr_load1 (v := .int .i64 a0.Dir) rfl ag3 d49 ((b2.gr hz).seg 7 rfl rfl)) rfl rfl
      · intro ρz wz hz hk hd
        have d50 := hd 8 rfl 50 rfl
        exact sk_val (v := .int .u64 (IntKind.u64.wrap a0.Dir)) (by exact xr_conv rfl Try.underlying3 Try.underlying129 d50) rfl rfl
      · intro ρz wz hz hk hd
        have d51 := hd 9 rfl 51 rfl
        refine sk_op (by exact opv_call rfl cal99 (ac d51 (ac rfl an)) (rickyardref01_Lay.ok fu _ (IntKind.u64.wrap a0.Dir) 2 _ k38)) rfl ?_
        rintro _ wy ⟨rfl, q39⟩
        exact ⟨rfl, q39⟩
    · intro ρ40 w41 q42 hk hd
      have e1 := (hk 1 rfl).trans e1
      have e48 := hd 6 rfl 48 rfl
      have e52 := hd 10 rfl 52 rfl
      have b2 := b2.gr q42
      have fB := fB.gr q42
      obtain ⟨g43, h⟩ := gs h
      refine ol_val (v := sv (((((((t7 ++ t10) ++ t14) ++ t18) ++ t22) ++ t26) ++ t33) ++ t37)) (by exact xr_addStr rfl e48 e52 g43) rfl rfl rfl ?_
      refine ol_val (v := sv (((((((t7 ++ t10) ++ t14) ++ t18) ++ t22) ++ t26) ++ t33) ++ t37)) (by exact xr_assign rfl rfl) rfl rfl rfl ?_
      refine ol_nil ?_
      refine cw_seq ?_
      refine cw_seq ?_
      refine cw_region ?_
      refine ol_val (v := .int .i64 0) (by exact xr_assign rfl rfl) rfl rfl rfl ?_
      refine ol_nil ?_
      obtain ⟨e45, l46, h47⟩ := bs h
      refine cw_mid (fun ρ' w' => ρ' 1 = .pointer (some ⟨G1, 0, none⟩) ∧ ρ' 3 = sv e45 ∧ Blk w' G1 120 [Seg.cell (.int .i64 a0.Epoch), Seg.cell (.int .i64 a0.Tickets.Geometry.Blocks), Seg.cell (.int .i64 a0.Tickets.Geometry.Slots), Seg.cell (.int .i64 a0.Tickets.Geometry.Gens), Seg.cell (.int .i64 a0.Tickets.Top), Seg.cell (.int .i64 a0.Tickets.High), Seg.cell (.int .i64 a0.Tickets.Free), Seg.cell (.int .i64 a0.Dir), Seg.cell V0_0 R0_0.one] ∧ Gr w w') ?_ ?_
      · refine cw_block ?_
        refine cw_round (fun (s44 : (List UInt8) × Int) ρ' w' => ρ' 1 = .pointer (some ⟨G1, 0, none⟩) ∧ ρ' 3 = sv s44.1 ∧ ρ' 4 = .int .i64 s44.2 ∧ Blk w' G1 120 [Seg.cell (.int .i64 a0.Epoch), Seg.cell (.int .i64 a0.Tickets.Geometry.Blocks), Seg.cell (.int .i64 a0.Tickets.Geometry.Slots), Seg.cell (.int .i64 a0.Tickets.Geometry.Gens), Seg.cell (.int .i64 a0.Tickets.Top), Seg.cell (.int .i64 a0.Tickets.High), Seg.cell (.int .i64 a0.Tickets.Free), Seg.cell (.int .i64 a0.Dir), Seg.cell V0_0 R0_0.one] ∧ Gr w w') l46 ?_ ?_
        · skip
          exact ⟨e1, rfl, rfl, b2, fB⟩
        · rintro s44 x50 ρ48 w49 ⟨e1, e3, e4, b2, fB⟩ h
          unfold rickyardref13_Put.s0 at h
          refine cw_seq ?_
          refine cw_seq ?_
          refine cw_region ?_
          refine ol_val (v := .int .i64 s44.2) (by exact xr_move rfl e4) rfl rfl rfl ?_
          refine ol_val (v := .pointer (some ⟨G1, 8, none⟩)) (by exact xr_fieldAddr (p := 0) (q := 8) rfl fl120_3 e1) rfl rfl rfl ?_
          refine ol_val (v := V0_0) (by exact xr_load1 (v := V0_0) rfl ag45 rfl (b2.seg 8 rfl rfl)) rfl rfl rfl ?_
          refine ol_val (v := .int .i64 (List.length a0.Charts : Int)) (by exact xr_lenR rfl Try.underlying45 rfl (R0_0.gr fB)) rfl rfl rfl ?_
          refine ol_val (v := .bool (decide (s44.2 < (List.length a0.Charts : Int)))) (by exact xr_lss rfl rfl rfl) rfl rfl rfl ?_
          refine ol_nil ?_
          rcases is h with ⟨c51, h⟩ | ⟨c51, h⟩
          · refine cw_condT rfl c51 ?_
            refine cw_skip ?_
            refine cw_seq ?_
            refine cw_block ?_
            refine cw_region ?_
            refine ol_val (v := sv s44.1) (by exact xr_move rfl e3) rfl rfl rfl ?_
            refine ol_val (v := .pointer (some ⟨G1, 8, none⟩)) (by exact xr_fieldAddr (p := 0) (q := 8) rfl fl120_3 e1) rfl rfl rfl ?_
            refine ol_val (v := V0_0) (by exact xr_load1 (v := V0_0) rfl ag45 rfl (b2.seg 8 rfl rfl)) rfl rfl rfl ?_
            refine ol_val (v := .int .i64 s44.2) (by exact xr_move rfl e4) rfl rfl rfl ?_
            obtain ⟨g52, h⟩ := gs h
            refine ol_val (v := .pointer (some ⟨(sb V0_0), so V0_0 + Int.toNat s44.2 * 1, none⟩)) (by exact xr_indexR (K := (kI .i64)) (v := V0_0) rfl Try.underlying45 sz3 rfl (R0_0.gr fB) rfl g52.1 g52.2) rfl rfl rfl ?_
            refine ol_val (v := .int .i64 (ix a0.Charts s44.2)) (by exact xr_load1 (v := .int .i64 (ix a0.Charts s44.2)) rfl ag3 rfl ((R0_0.gr fB).elem g52.1 g52.2)) rfl rfl rfl ?_
            refine ol_val (v := .int .u64 (IntKind.u64.wrap (ix a0.Charts s44.2))) (by exact xr_conv rfl Try.underlying3 Try.underlying129 rfl) rfl rfl rfl ?_
            obtain ⟨t53, k54, h⟩ := bs h
            refine ol_op (by exact opv_call rfl cal99 (ac rfl (ac rfl an)) (rickyardref01_Lay.ok fu _ (IntKind.u64.wrap (ix a0.Charts s44.2)) 2 _ k54)) rfl rfl rfl ?_
            rintro _ w56 ⟨rfl, q55⟩
            have b2 := b2.gr q55
            have fB := fB.gr q55
            obtain ⟨g57, h⟩ := gs h
            refine ol_val (v := sv (s44.1 ++ t53)) (by exact xr_addStr rfl rfl rfl g57) rfl rfl rfl ?_
            refine ol_val (v := sv (s44.1 ++ t53)) (by exact xr_assign rfl rfl) rfl rfl rfl ?_
            refine ol_nil ?_
            refine blk_i ?_
            refine cw_region ?_
            refine ol_val (v := .int .i64 s44.2) (by exact xr_move rfl e4) rfl rfl rfl ?_
            refine ol_val (v := .int .i64 (IntKind.i64.wrap (s44.2 + 1))) (by exact xr_add rfl rfl rfl) rfl rfl rfl ?_
            refine ol_val (v := .int .i64 (IntKind.i64.wrap (s44.2 + 1))) (by exact xr_assign rfl rfl) rfl rfl rfl ?_
            refine ol_nil ?_
            obtain rfl := Option.some.inj h
            refine lp_in ?_
            exact ⟨e1, rfl, rfl, b2, fB⟩
          · refine cw_condF rfl c51 ?_
            refine cw_exit ?_
            repeat (first | with_reducible refine thn_e ?_ | with_reducible refine blk_e rfl ?_)
            obtain rfl := Option.some.inj h
            refine lp_exit ?_
            rintro rfl
            refine thn_x ?_
            exact ⟨e1, e3, b2, fB⟩
      · rintro ρ58 w59 ⟨e1, e3, b2, fB⟩
        have h := h47
        refine cw_seq ?_
        refine cw_region ?_
        refine ol_val (v := .pointer (some ⟨G1, 8, none⟩)) (by exact xr_fieldAddr (p := 0) (q := 8) rfl fl120_3 e1) rfl rfl rfl ?_
        refine ol_val (v := V0_0) (by exact xr_load1 (v := V0_0) rfl ag45 rfl (b2.seg 8 rfl rfl)) rfl rfl rfl ?_
        refine ol_val (v := .int .i64 (List.length a0.Charts : Int)) (by exact xr_lenR rfl Try.underlying45 rfl (R0_0.gr fB)) rfl rfl rfl ?_
        refine ol_val (v := sv e45) (by exact xr_move rfl e3) rfl rfl rfl ?_
        obtain ⟨t60, k61, h⟩ := bs h
        refine ol_op (by exact opv_call rfl cal30 (ac rfl (ac rfl (ac rfl an))) (rickyardref07_Seal.ok fu _ 7 (List.length a0.Charts : Int) e45 _ k61)) rfl rfl rfl ?_
        rintro _ w63 ⟨rfl, q62⟩
        have fB := fB.gr q62
        refine ol_val (v := sv t60) (by exact xr_assign rfl rfl) rfl rfl rfl ?_
        refine ol_nil ?_
        refine cw_ret ?_
        repeat (first | with_reducible refine thn_r ?_ | with_reducible refine blk_r ?_)
        obtain rfl := Option.some.inj h
        refine fin_ret1 Try.results93 rfl ?_
        exact ⟨_, rfl, rfl, fB⟩
end Go.Proofs.Ytjhajfkfhdnciaa
