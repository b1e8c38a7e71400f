/- LabelQueues: texts merged, part 6 of 7. The last part proves that the law LabelQueues holds for every input. -/
import Derived.Test.YtjhajfkfhdnciaaPkLabelQueues5
/- Blocks in plain words: how one is sealed, which octets are one, as the program and the document tell it. -/
set_option linter.unusedVariables false
set_option linter.unusedSimpArgs false
namespace Go.Proofs.Ytjhajfkfhdnciaa.Pure
open Go Go.Xw
theorem toB_inj {a b : Int} (ha : 0 ≤ a ∧ a ≤ 255) (hb : 0 ≤ b ∧ b ≤ 255) (h : toB a = toB b) : a = b := by
  unfold toB at h
  have := congrArg UInt8.toNat h
  simp only [UInt8.toNat_ofNat'] at this
  omega
theorem map_toB_inj : ∀ {a b : List Int}, Bytes a → Bytes b → a.map toB = b.map toB → a = b
  | [], [], _, _, _ => rfl
  | [], _ :: _, _, _, h => by simp at h
  | _ :: _, [], _, _, h => by simp at h
  | x :: a, y :: b, ha, hb, h => by
    simp only [List.map_cons, List.cons.injEq] at h
    rw [toB_inj (ha x (by simp)) (hb y (by simp)) h.1, map_toB_inj (fun z hz => ha z (by simp [hz])) (fun z hz => hb z (by simp [hz])) h.2]
theorem map_toB_iff {a b : List Int} (ha : Bytes a) (hb : Bytes b) : (a.map toB = b.map toB) ↔ a = b := ⟨map_toB_inj ha hb, fun h => by rw [h]⟩
theorem of_toB {l : List Int} (h : Bytes l) : (l.map toB).map ofB = l := by
  rw [List.map_map]
  conv => rhs; rw [← List.map_id l]
  apply List.map_congr_left
  intro x hx
  have := h x hx
  simp only [Function.comp, ofB, toB, UInt8.toNat_ofNat', id]
  omega
theorem Bytes.app {a b : List Int} (ha : Bytes a) (hb : Bytes b) : Bytes (a ++ b) := by
  intro x hx
  rcases List.mem_append.1 hx with h | h
  · exact ha x h
  · exact hb x h
theorem Bytes.rep (n : Nat) : Bytes (List.replicate n (0 : Int)) := by
  intro x hx
  obtain rfl := List.eq_of_mem_replicate hx
  omega
theorem Bytes.drop {l : List Int} (h : Bytes l) (n : Nat) : Bytes (l.drop n) := fun x hx => h x (List.mem_of_mem_drop hx)
theorem Bytes.take {l : List Int} (h : Bytes l) (n : Nat) : Bytes (l.take n) := fun x hx => h x (List.mem_of_mem_take hx)
/-- What is summed: kind, tag, a gap, the body with noughts behind it. -/
def summed (k t : Int) (body : List Int) : List Int := [k, t, 0, 0] ++ (body ++ List.replicate (56 - body.length) 0)
def sealed (s : List Int) : List Int := lay (crc s).toNat 4 ++ s
theorem summed_len {k t : Int} {body : List Int} (h : body.length ≤ 56) : (summed k t body).length = 60 := by
  simp [summed]
  omega
theorem summed_bytes {k t : Int} {body : List Int} (hk : 0 ≤ k ∧ k ≤ 255) (ht : 0 ≤ t ∧ t ≤ 255) (hb : Bytes body) : Bytes (summed k t body) := by
  refine Bytes.app ?_ (Bytes.app hb (Bytes.rep _))
  intro x hx
  simp only [List.mem_cons, List.not_mem_nil, or_false] at hx
  rcases hx with rfl | rfl | rfl | rfl <;> omega
theorem sealed_len {s : List Int} (h : s.length = 60) : (sealed s).length = 64 := by
  simp [sealed, lay_len, h]
theorem sealed_bytes {s : List Int} (h : Bytes s) : Bytes (sealed s) := Bytes.app (lay_bytes _ _) h
theorem x2_eq (k t : Int) : List.set (List.set (List.replicate (Int.toNat 64) (0 : Int)) (Int.toNat 4) k) (Int.toNat 5) t = [0, 0, 0, 0, k, t, 0, 0] ++ List.replicate 56 (0 : Int) := rfl
theorem x3_eq {k t : Int} {body : List Int} (h : body.length ≤ 56) : splL ([0, 0, 0, 0, k, t, 0, 0] ++ List.replicate 56 (0 : Int)) (Int.toNat 8) (List.take (List.length ([0, 0, 0, 0, k, t, 0, 0] ++ List.replicate 56 (0 : Int)) - Int.toNat 8) body) = [0, 0, 0, 0] ++ summed k t body := by
  have e : List.take (List.length ([0, 0, 0, 0, k, t, 0, 0] ++ List.replicate 56 (0 : Int)) - Int.toNat 8) body = body := List.take_of_length_le (by simpa using h)
  rw [e]
  have e2 : List.drop (8 + body.length) ([0, 0, 0, 0, k, t, 0, 0] ++ List.replicate 56 (0 : Int)) = List.replicate (56 - body.length) 0 := by
    have h8 : ([0, 0, 0, 0, k, t, 0, 0] : List Int).length = 8 := rfl
    rw [List.drop_append, List.drop_eq_nil_of_le (by rw [h8]; omega), List.nil_append, h8, List.drop_replicate]
    congr 1
    omega
  unfold splL summed
  rw [show (Int.toNat 8) = 8 from rfl, e2]
  simp
theorem lay4_eq {fu : Nat} (x : BitVec 32) (hf : 8 < fu) : octet_Lay.f fu (IntKind.u64.wrap (I32 x)) 4 = some (lay x.toNat 4) := by
  have hb := I32_lt x
  rw [wu64 hb.1 (by omega)]
  exact olay_eq (n := 4) (by decide) (by omega)
theorem rlay4_eq {fu : Nat} (x : BitVec 32) (hf : 8 < fu) : rickyardref01_Lay.f fu (IntKind.u64.wrap (I32 x)) 4 = some ((lay x.toNat 4).map toB) := by
  have hb := I32_lt x
  rw [wu64 hb.1 (by omega)]
  exact rlay_eq (n := 4) (by have := x.isLt; omega) (by decide) (by omega)
theorem seal_eq {fu : Nat} {k t : Int} {body : List Int} (hb : Bytes body) (hk : 1 ≤ k ∧ k ≤ 255) (ht : 0 ≤ t ∧ t ≤ 255) (hl : body.length ≤ 56) (hf : 100 < fu) : block_Seal.f fu k t body = some (sealed (summed k t body), true) := by
  have hs := summed_len (k := k) (t := t) hl
  have hsb := summed_bytes ⟨by omega, hk.2⟩ ht hb
  unfold block_Seal.f
  rw [wu8 (by omega : 0 ≤ k) hk.2, wu8 ht.1 ht.2]
  have c0 : (if (decide (k < 1)) = true then true else (if (decide (k ≥ 256)) = true then true else (if (decide (t < 0)) = true then true else (if (decide (t ≥ 256)) = true then true else (decide ((List.length body : Int) > 56)))))) = false := by
    have h1 : ¬ k < 1 := by omega
    have h2 : ¬ k ≥ 256 := by omega
    have h3 : ¬ t < 0 := by omega
    have h4 : ¬ t ≥ 256 := by omega
    have h5 : ¬ (List.length body : Int) > 56 := by omega
    simp [h1, h2, h3, h4, h5]
  rw [c0]
  simp only [x2_eq, x3_eq hl]
  have e1 : cut ([0, 0, 0, 0] ++ summed k t body) 4 (List.length ([0, 0, 0, 0] ++ summed k t body) : Int) = summed k t body := by
    unfold cut
    rw [Int.toNat_natCast, List.take_length]
    rfl
  have e2 : ∀ v, splL ([0, 0, 0, 0] ++ summed k t body) 0 (List.take (List.length ([0, 0, 0, 0] ++ summed k t body)) (lay v 4)) = lay v 4 ++ summed k t body := by
    intro v
    rw [List.take_of_length_le (by simp [lay_len])]
    unfold splL
    simp [lay_len]
  simp only [e1, e2, sum_eq (fu := fu) hsb (by omega) (by omega), Option.bind_some, lay4_eq (fu := fu) _ (by omega)]
  simp [hs, sealed]
theorem seal_no {fu : Nat} {k t : Int} {body : List Int} (h : k < 1 ∨ k > 255 ∨ t < 0 ∨ t > 255 ∨ body.length > 56) : block_Seal.f fu k t body = some ([], false) := by
  unfold block_Seal.f
  have c0 : (if (decide (k < 1)) = true then true else (if (decide (k ≥ 256)) = true then true else (if (decide (t < 0)) = true then true else (if (decide (t ≥ 256)) = true then true else (decide ((List.length body : Int) > 56)))))) = true := by
    by_cases h1 : k < 1
    · simp [h1]
    · by_cases h2 : k ≥ 256
      · simp [h2]
      · by_cases h3 : t < 0
        · simp [h3]
        · by_cases h4 : t ≥ 256
          · simp [h4]
          · have h5 : (List.length body : Int) > 56 := by omega
            simp [h5]
  rw [c0]
  rfl
theorem fill_eq {fu : Nat} {body : List Int} (hl : body.length ≤ 56) : rickyardref07_Fill.f fu (body.map toB) 56 = some ((body ++ List.replicate (56 - body.length) 0).map toB) := by
  unfold rickyardref07_Fill.f
  have e1 : mxI (IntKind.i64.wrap (56 - (List.length (body.map toB) : Int))) 0 = ((56 - body.length : Nat) : Int) := by
    rw [List.length_map, w64 (by omega) (by omega)]
    unfold mxI
    split <;> omega
  have hL : (100 : Nat) ≤ LIM := by decide
  rw [e1, Int.toNat_natCast, if_pos ⟨by omega, by omega⟩, if_pos (by simp only [List.length_map, List.length_replicate]; omega), List.map_append]
theorem rseal_eq {fu : Nat} {k t : Int} {body : List Int} (hb : Bytes body) (hk : 0 ≤ k ∧ k ≤ 255) (ht : 0 ≤ t ∧ t ≤ 255) (hl : body.length ≤ 56) (hf : 100 < fu) : rickyardref07_Seal.f fu k t (body.map toB) = some ((sealed (summed k t body)).map toB) := by
  have hs := summed_len (k := k) (t := t) hl
  have hsb := summed_bytes hk ht hb
  unfold rickyardref07_Seal.f
  rw [wu8 hk.1 hk.2, wu8 ht.1 ht.2]
  have e1 : List.map toB [k, t, 0, 0] ++ List.map toB (body ++ List.replicate (56 - body.length) 0) = (summed k t body).map toB := by
    rw [← List.map_append]
    rfl
  have hL : (100 : Nat) ≤ LIM := by decide
  have e2 : List.length (List.map toB [k, t, 0, 0]) + List.length (List.map toB (body ++ List.replicate (56 - body.length) 0)) ≤ LIM := by
    simp
    omega
  simp only [fill_eq (fu := fu) hl, Option.bind_some, e1, of_toB hsb, rsum_eq (fu := fu) hsb (by omega) (by omega), rlay4_eq (fu := fu) _ (by omega : 8 < fu)]
  rw [if_pos e2, if_pos (by simp [lay_len, hs]; omega)]
  simp [sealed]
theorem there_eq {fu : Nat} {b : List Int} {i n : Nat} (hl : b.length ≤ 9000000000000000000) (h : i + n ≤ b.length) : octet_there.f fu b (i : Int) (n : Int) = some true := by
  unfold octet_there.f
  have h1 : (i : Int) ≥ 0 := by omega
  have h2 : (n : Int) ≥ 0 := by omega
  have h3 : (n : Int) ≤ (b.length : Int) := by omega
  have h4 : IntKind.i64.wrap ((b.length : Int) - (n : Int)) = (b.length : Int) - (n : Int) := w64 (by omega) (by omega)
  have h5 : (i : Int) ≤ (b.length : Int) - (n : Int) := by omega
  simp [h1, h2, h3, h4, h5]
theorem noughts_from {fu : Nat} (b : List Int) (x n : Int) {C : List Int} (hC : cut b x (IntKind.i64.wrap (x + n)) = C) (hl : C.length ≤ 9000000000000000000) : ∀ k m, m ≤ C.length → C.length - m < k → loopM (octet_Noughts.s0 fu b x n) k (m : Int) = some (if ∀ y ∈ C.drop m, y = 0 then .inr () else .inl false)
  | 0, m, _, hk => by omega
  | k + 1, m, hm, hk => by
    unfold loopM
    by_cases e : m = C.length
    · subst e
      have : octet_Noughts.s0 fu b x n (C.length : Int) = some (.inl (.inr ())) := by
        unfold octet_Noughts.s0
        rw [hC]
        simp
      rw [this]
      simp
    · have hlt : m < C.length := by omega
      have hx : ix C (m : Int) = C[m] := ix_nat hlt
      rw [List.drop_eq_getElem_cons hlt]
      have h1 : (m : Int) < (C.length : Int) := by omega
      by_cases hn : C[m] = 0
      · have w3 : IntKind.i64.wrap ((m : Int) + 1) = ((m + 1 : Nat) : Int) := by rw [w64 (by omega) (by omega)]; omega
        have : octet_Noughts.s0 fu b x n (m : Int) = some (.inr ((m + 1 : Nat) : Int)) := by
          unfold octet_Noughts.s0
          rw [hC]
          simp [h1, hx, hn, w3, hlt]
        rw [this]
        simp only
        rw [noughts_from b x n hC hl k (m + 1) (by omega) (by omega)]
        have e3 : (∀ y ∈ C[m] :: C.drop (m + 1), y = 0) ↔ ∀ y ∈ C.drop (m + 1), y = 0 := by
          constructor
          · intro h y hy
            exact h y (List.mem_cons_of_mem _ hy)
          · intro h y hy
            rcases List.mem_cons.1 hy with rfl | hy
            · exact hn
            · exact h y hy
        simp only [e3]
      · have : octet_Noughts.s0 fu b x n (m : Int) = some (.inl (.inl false)) := by
          unfold octet_Noughts.s0
          rw [hC]
          simp [h1, hx, hn, hlt]
        rw [this]
        have e3 : ¬ (∀ y ∈ C[m] :: C.drop (m + 1), y = 0) := fun h => hn (h _ (List.mem_cons_self ..))
        simp only [e3, if_false]
theorem noughts_eq {fu : Nat} {b : List Int} {i n : Nat} (hl : b.length ≤ 9000000000000000000) (h : i + n ≤ b.length) (hf : n < fu) : octet_Noughts.f fu b (i : Int) (n : Int) = some (decide (∀ y ∈ (b.drop i).take n, y = 0)) := by
  unfold octet_Noughts.f
  rw [there_eq hl h]
  have w1 : IntKind.i64.wrap ((i : Int) + (n : Int)) = ((i + n : Nat) : Int) := by rw [w64 (by omega) (by omega)]; omega
  have hC : cut b (i : Int) (IntKind.i64.wrap ((i : Int) + (n : Int))) = (b.drop i).take n := by
    rw [w1]
    unfold cut
    rw [Int.toNat_natCast, Int.toNat_natCast, List.drop_take]
    congr 1
    omega
  have hlen : ((b.drop i).take n).length = n := by
    rw [List.length_take, List.length_drop]
    omega
  have := noughts_from (fu := fu) b (i : Int) (n : Int) hC (by omega) fu 0 (by omega) (by omega)
  rw [Int.natCast_zero, List.drop_zero] at this
  have c1 : 0 ≤ (i : Int) ∧ (i : Int) ≤ IntKind.i64.wrap ((i : Int) + (n : Int)) ∧ IntKind.i64.wrap ((i : Int) + (n : Int)) ≤ (b.length : Int) := by
    rw [w1]
    omega
  simp only [Option.bind_some, Bool.not_true, Bool.false_eq_true, if_false]
  rw [if_pos c1, this]
  by_cases hz : ∀ y ∈ (b.drop i).take n, y = 0
  · rw [if_pos hz]
    simp only [Option.bind_some, decide_eq_true hz]
  · rw [if_neg hz]
    simp only [Option.bind_some, decide_eq_false hz]
/-- Octets that are a block. -/
def Is (b : List Int) : Prop := b.length = 64 ∧ ix b 4 ≠ 0 ∧ b = sealed (summed (ix b 4) (ix b 5) (b.drop 8))
instance (b : List Int) : Decidable (Is b) := inferInstanceAs (Decidable (_ ∧ _))
theorem parts {b : List Int} (h : b.length = 64) : b = b.take 4 ++ ([ix b 4, ix b 5, ix b 6, ix b 7] ++ b.drop 8) := by
  have e : b.drop 4 = [ix b 4, ix b 5, ix b 6, ix b 7] ++ b.drop 8 := by
    have g : ∀ j : Nat, j < 64 → b.drop j = ix b (j : Int) :: b.drop (j + 1) := by
      intro j hj
      rw [List.drop_eq_getElem_cons (by omega), ix_nat (by omega)]
    rw [g 4 (by omega), g 5 (by omega), g 6 (by omega), g 7 (by omega)]
    rfl
  rw [← e, List.take_append_drop]
theorem gap_eq {b : List Int} (h : b.length = 64) : (b.drop 6).take 2 = [ix b 6, ix b 7] := by
  have g : ∀ j : Nat, j < 64 → b.drop j = ix b (j : Int) :: b.drop (j + 1) := by
    intro j hj
    rw [List.drop_eq_getElem_cons (by omega), ix_nat (by omega)]
  rw [g 6 (by omega), g 7 (by omega)]
  rfl
theorem drop4 {b : List Int} (h : b.length = 64) : b.drop 4 = [ix b 4, ix b 5, ix b 6, ix b 7] ++ b.drop 8 := by
  have g : ∀ j : Nat, j < 64 → b.drop j = ix b (j : Int) :: b.drop (j + 1) := by
    intro j hj
    rw [List.drop_eq_getElem_cons (by omega), ix_nat (by omega)]
  rw [g 4 (by omega), g 5 (by omega), g 6 (by omega), g 7 (by omega)]
  rfl
theorem summed_full (k t : Int) {body : List Int} (h : body.length = 56) : summed k t body = [k, t, 0, 0] ++ body := by
  unfold summed
  rw [h]
  simp
theorem is_iff {b : List Int} (hb : Bytes b) (h : b.length = 64) : b = sealed (summed (ix b 4) (ix b 5) (b.drop 8)) ↔ (ix b 6 = 0 ∧ ix b 7 = 0) ∧ num (b.take 4) = (crc (b.drop 4)).toNat := by
  have h8 : (b.drop 8).length = 56 := by rw [List.length_drop, h]
  have h4 : (b.take 4).length = 4 := by rw [List.length_take, h]; rfl
  rw [summed_full _ _ h8]
  constructor
  · intro e
    have e2 : b.take 4 ++ b.drop 4 = lay (crc ([ix b 4, ix b 5, 0, 0] ++ b.drop 8)).toNat 4 ++ ([ix b 4, ix b 5, 0, 0] ++ b.drop 8) := by
      rw [List.take_append_drop]
      exact e
    obtain ⟨e3, e4⟩ := List.append_inj e2 (by rw [h4, lay_len])
    have e5 := e4
    rw [drop4 h] at e5
    have e6 := List.append_inj_left e5 rfl
    simp only [List.cons.injEq, and_true, true_and] at e6
    refine ⟨e6, ?_⟩
    rw [e3, e4, num_lay]
    exact Nat.mod_eq_of_lt (crc _).isLt
  · rintro ⟨⟨h6, h7⟩, hn⟩
    have e4 : b.drop 4 = [ix b 4, ix b 5, 0, 0] ++ b.drop 8 := by
      have := drop4 h
      rw [h6, h7] at this
      exact this
    unfold sealed
    rw [← e4, ← hn]
    have := lay_num (hb.take 4)
    rw [h4] at this
    rw [this, List.take_append_drop]
theorem right_is {fu : Nat} {b : List Int} (hb : Bytes b) (hl : b.length ≤ 9000000000000000000) (hf : 100 < fu) : block_right.f fu b = some (decide (Is b)) := by
  unfold block_right.f
  by_cases h : b.length = 64
  · have hL : (b.length : Int) = 64 := by omega
    by_cases h4 : ix b 4 = 0
    · simp [hL, h4, Is]
    · have hn : octet_Noughts.f fu b 6 2 = some (decide (∀ y ∈ (b.drop 6).take 2, y = 0)) := noughts_eq (i := 6) (n := 2) hl (by omega) (by omega)
      have hg : (∀ y ∈ (b.drop 6).take 2, y = 0) ↔ ix b 6 = 0 ∧ ix b 7 = 0 := by
        rw [gap_eq h]
        simp
      by_cases hz : ix b 6 = 0 ∧ ix b 7 = 0
      · have c1 : cut b 0 4 = b.take 4 := by
          unfold cut
          rfl
        have c2 : cut b 4 (b.length : Int) = b.drop 4 := by
          unfold cut
          rw [Int.toNat_natCast, List.take_length]
          rfl
        have h4' : (b.take 4).length = 4 := by rw [List.length_take, h]; rfl
        have hr : octet_Read.f fu (b.take 4) = some ((num (b.take 4) : Nat) : Int) := read_eq (hb.take 4) (by omega) (by omega)
        have hlt : num (b.take 4) < 4294967296 := by
          have := num_lt (hb.take 4)
          rwa [h4'] at this
        have hd : (b.drop 4).length = 60 := by rw [List.length_drop, h]
        have hs : crc_Sum.f fu [b.drop 4] = some (I32 (crc (b.drop 4))) := sum_eq (hb.drop 4) (by omega) (by omega)
        have hw : IntKind.u32.wrap ((num (b.take 4) : Nat) : Int) = ((num (b.take 4) : Nat) : Int) := wu32 (by omega) (by omega)
        have hi : Is b ↔ num (b.take 4) = (crc (b.drop 4)).toNat := by
          unfold Is
          rw [is_iff hb h]
          exact ⟨fun x => x.2.2.2, fun x => ⟨h, h4, hz, x⟩⟩
        have hq : (I32 (crc (b.drop 4)) = ((num (b.take 4) : Nat) : Int)) ↔ Is b := by
          rw [hi]
          unfold I32
          omega
        unfold crc_Fits.f
        rw [hn, decide_eq_true (hg.2 hz), c1, c2, hr]
        simp only [Option.bind_some, hw, hs, hq]
        have hL5 : (4 : Int) < (b.length : Int) := by omega
        have hL6 : (4 : Int) ≤ (b.length : Int) := by omega
        simp [hL, h4]
      · have hi : ¬ Is b := by
          intro x
          unfold Is at x
          rw [is_iff hb h] at x
          exact hz x.2.2.1
        rw [hn, decide_eq_false (fun x => hz (hg.1 x))]
        simp [hL, h4, hi]
  · have hi : ¬ Is b := fun x => h x.1
    have hL : ¬ (b.length : Int) = 64 := by omega
    simp [hL, hi]
theorem open_eq {fu : Nat} {b : List Int} (hb : Bytes b) (hl : b.length ≤ 9000000000000000000) (hf : 100 < fu) : block_Open.f fu b = some (if Is b then (ix b 4, ix b 5, b.drop 8, true) else (0, 0, [], false)) := by
  unfold block_Open.f
  rw [right_is hb hl hf]
  by_cases h : Is b
  · have h0 := h.1
    have c2 : cut b 8 (b.length : Int) = b.drop 8 := by
      unfold cut
      rw [Int.toNat_natCast, List.take_length]
      rfl
    have hc : bytes_Clone.f fu (b.drop 8) = some (b.drop 8) := by
      unfold bytes_Clone.f
      rw [if_pos]
      rw [List.length_drop, h0]
      decide
    have h4 : 0 ≤ ix b 4 ∧ ix b 4 ≤ 255 := by
      have := ix_nat (l := b) (j := 4) (by omega)
      rw [show ((4 : Nat) : Int) = 4 from rfl] at this
      rw [this]
      exact hb _ (List.getElem_mem _)
    have h5 : 0 ≤ ix b 5 ∧ ix b 5 ≤ 255 := by
      have := ix_nat (l := b) (j := 5) (by omega)
      rw [show ((5 : Nat) : Int) = 5 from rfl] at this
      rw [this]
      exact hb _ (List.getElem_mem _)
    have w4 : IntKind.i64.wrap (ix b 4) = ix b 4 := w64 (by omega) (by omega)
    have w5 : IntKind.i64.wrap (ix b 5) = ix b 5 := w64 (by omega) (by omega)
    simp only [c2, hc, w4, w5]
    simp [h, h0]
  · simp [h]
theorem kind_eq {fu : Nat} {b : List Int} (hb : Bytes b) (hl : b.length ≤ 9000000000000000000) (hf : 100 < fu) : block_Kind.f fu b = some (if Is b then ix b 4 else 0) := by
  unfold block_Kind.f
  rw [right_is hb hl hf]
  by_cases h : Is b
  · have h0 := h.1
    have h4 : 0 ≤ ix b 4 ∧ ix b 4 ≤ 255 := by
      have := ix_nat (l := b) (j := 4) (by omega)
      rw [show ((4 : Nat) : Int) = 4 from rfl] at this
      rw [this]
      exact hb _ (List.getElem_mem _)
    have w4 : IntKind.i64.wrap (ix b 4) = ix b 4 := w64 (by omega) (by omega)
    simp [h, h0, w4]
  · simp [h]
theorem sealed_parts (k t : Int) (body : List Int) : ix (sealed (summed k t body)) 4 = k ∧ ix (sealed (summed k t body)) 5 = t ∧ (sealed (summed k t body)).drop 8 = body ++ List.replicate (56 - body.length) 0 := by
  unfold sealed
  obtain ⟨a, b, c, d, e⟩ : ∃ a b c d, lay (crc (summed k t body)).toNat 4 = [a, b, c, d] := ⟨_, _, _, _, rfl⟩
  rw [e]
  exact ⟨rfl, rfl, rfl⟩
theorem fulled (body : List Int) (h : body.length ≤ 56) : (body ++ List.replicate (56 - body.length) (0 : Int)).length = 56 := by
  simp
  omega
theorem is_sealed {k t : Int} {body : List Int} (hk : k ≠ 0) (hl : body.length ≤ 56) : Is (sealed (summed k t body)) := by
  obtain ⟨h4, h5, h8⟩ := sealed_parts k t body
  refine ⟨sealed_len (summed_len hl), by rw [h4]; exact hk, ?_⟩
  rw [h4, h5, h8, summed_full k t (fulled body hl)]
  rfl
theorem ix_byte {b : List Int} (hb : Bytes b) (j : Nat) (h : j < b.length) : 0 ≤ ix b (j : Int) ∧ ix b (j : Int) ≤ 255 := by
  rw [ix_nat h]
  exact hb _ (List.getElem_mem _)
theorem ropen_eq {fu : Nat} {b : List Int} (hb : Bytes b) (hf : 100 < fu) : rickyardref07_Open.f fu b = some (if Is b then (ix b 4, ix b 5, (b.drop 8).map toB, true) else (0, 0, [], false)) := by
  unfold rickyardref07_Open.f
  by_cases h : b.length = 64
  · have hL : (b.length : Int) = 64 := by omega
    have b4 := ix_byte hb 4 (by omega)
    have b5 := ix_byte hb 5 (by omega)
    rw [show ((4 : Nat) : Int) = 4 from rfl] at b4
    rw [show ((5 : Nat) : Int) = 5 from rfl] at b5
    have w4 : IntKind.i64.wrap (ix b 4) = ix b 4 := w64 (by omega) (by omega)
    have w5 : IntKind.i64.wrap (ix b 5) = ix b 5 := w64 (by omega) (by omega)
    have c2 : cut b 8 (b.length : Int) = b.drop 8 := by
      unfold cut
      rw [Int.toNat_natCast, List.take_length]
      rfl
    have h8 : (b.drop 8).length = 56 := by rw [List.length_drop, h]
    have hs : rickyardref07_Seal.f fu (ix b 4) (ix b 5) ((b.drop 8).map toB) = some ((sealed (summed (ix b 4) (ix b 5) (b.drop 8))).map toB) := rseal_eq (hb.drop 8) b4 b5 (by omega) hf
    have hq : (sealed (summed (ix b 4) (ix b 5) (b.drop 8))).map toB = b.map toB ↔ b = sealed (summed (ix b 4) (ix b 5) (b.drop 8)) :=
      (map_toB_iff (sealed_bytes (summed_bytes b4 b5 (hb.drop 8))) hb).trans ⟨Eq.symm, Eq.symm⟩
    rw [c2, w4, w5]
    by_cases h4 : ix b 4 = 0
    · have hi : ¬ Is b := fun x => x.2.1 h4
      simp [hL, h4, hi]
    · by_cases he : b = sealed (summed (ix b 4) (ix b 5) (b.drop 8))
      · have hi : Is b := ⟨h, h4, he⟩
        simp only [hs, hq.2 he]
        simp [hL, h4, hi]
      · have hi : ¬ Is b := fun x => he x.2.2
        have hne : ¬ (sealed (summed (ix b 4) (ix b 5) (b.drop 8))).map toB = b.map toB := fun x => he (hq.1 x)
        simp only [hs, hne]
        simp [hL, h4, hi]
        exact hne
  · have hi : ¬ Is b := fun x => h x.1
    have hL : ¬ (b.length : Int) = 64 := by omega
    simp [hL, hi]
theorem bytes_of {l : List Int} (h : ∀ x ∈ l, (Lit.int .u8 x).wf = true) : Bytes l := fun x hx => wf8.1 (h x hx)
end Go.Proofs.Ytjhajfkfhdnciaa.Pure

/- Blocks that are sealed anew; arrays filled place by place. -/
set_option linter.unusedVariables false
set_option linter.unusedSimpArgs false
namespace Go.Proofs.Ytjhajfkfhdnciaa.Pure
open Go Go.Xw
theorem summed_fulled (k t : Int) (body : List Int) (h : body.length ≤ 56) : summed k t body = summed k t (body ++ List.replicate (56 - body.length) 0) := by
  rw [summed_full k t (fulled body h)]
  rfl
theorem sealed_iff {b : List Int} (hi : Is b) {k t : Int} {body : List Int} (hl : body.length ≤ 56) : sealed (summed k t body) = b ↔ k = ix b 4 ∧ t = ix b 5 ∧ body ++ List.replicate (56 - body.length) 0 = b.drop 8 := by
  obtain ⟨p4, p5, p8⟩ := sealed_parts k t body
  constructor
  · intro e
    rw [← e]
    exact ⟨p4.symm, p5.symm, p8.symm⟩
  · rintro ⟨h1, h2, h3⟩
    rw [summed_fulled k t body hl, h1, h2, h3]
    exact hi.2.2.symm
theorem sealed_map_iff {b : List Int} (hb : Bytes b) (hi : Is b) {k t : Int} {body : List Int} (hk : 0 ≤ k ∧ k ≤ 255) (ht : 0 ≤ t ∧ t ≤ 255) (hbb : Bytes body) (hl : body.length ≤ 56) :
    (sealed (summed k t body)).map toB = b.map toB ↔ k = ix b 4 ∧ t = ix b 5 ∧ body ++ List.replicate (56 - body.length) 0 = b.drop 8 :=
  (map_toB_iff (sealed_bytes (summed_bytes hk ht hbb)) hb).trans (sealed_iff hi hl)
theorem is_tag {b : List Int} (hb : Bytes b) (hi : Is b) : (0 ≤ ix b 4 ∧ ix b 4 ≤ 255) ∧ (0 ≤ ix b 5 ∧ ix b 5 ≤ 255) := by
  have h0 := hi.1
  exact ⟨ix_byte hb 4 (by omega), ix_byte hb 5 (by omega)⟩
theorem is_body {b : List Int} (hi : Is b) : (b.drop 8).length = 56 := by rw [List.length_drop, hi.1]
theorem full_iff {body full : List Int} (hl : body.length ≤ 56) (hf : full.length = 56) : body ++ List.replicate (56 - body.length) 0 = full ↔ body = full.take body.length ∧ ∀ y ∈ full.drop body.length, y = 0 := by
  constructor
  · intro e
    subst e
    refine ⟨by simp, fun y hy => ?_⟩
    rw [List.drop_left' rfl] at hy
    exact List.eq_of_mem_replicate hy
  · rintro ⟨h1, h2⟩
    have h3 : full.drop body.length = List.replicate (56 - body.length) 0 := by
      apply List.eq_replicate_iff.2
      exact ⟨by rw [List.length_drop, hf], h2⟩
    rw [← h3]
    conv => lhs; lhs; rw [h1]
    exact List.take_append_drop _ _
/-! ### Arrays filled place by place -/
def fillA {n : Nat} {α : Type} (f : Nat → α) (a : Arr n α) : Nat → Arr n α
  | 0 => a
  | j + 1 => Arr.set (fillA f a j) (j : Int) (f j)
theorem fillA_l {n : Nat} {α : Type} (f : Nat → α) (a : Arr n α) : ∀ j, j ≤ n → (fillA f a j).l = (List.range j).map f ++ a.l.drop j
  | 0, _ => by simp [fillA]
  | j + 1, h => by
    have ih := fillA_l f a j (by omega)
    have ha := a.h
    show List.set (fillA f a j).l (Int.toNat (j : Int)) (f j) = _
    rw [ih, Int.toNat_natCast, List.set_append_right _ _ (by simp), List.length_map, List.length_range, Nat.sub_self, List.range_succ, List.map_append]
    rw [List.drop_eq_getElem_cons (by omega), List.set_cons_zero]
    simp
theorem fillA_all {n : Nat} {α : Type} (f : Nat → α) (a : Arr n α) : (fillA f a n).l = (List.range n).map f := by
  rw [fillA_l f a n (Nat.le_refl _)]
  have := a.h
  simp [← this]
theorem take_range {l : List Int} {n : Nat} (h : n ≤ l.length) : l.take n = (List.range n).map fun (j : Nat) => ix l (j : Int) := by
  apply List.ext_getElem
  · simp [h]
  · intro i h1 h2
    have hi : i < n := by simpa using h2
    simp [ix_nat (show i < l.length by omega)]
theorem getA {n : Nat} {α : Type} [Inhabited α] (a : Arr n α) {i : Nat} (hi : i < n) : Arr.get a (i : Int) = a.l[i]'(by rw [a.h]; exact hi) := by
  have hl : i < a.l.length := by rw [a.h]; exact hi
  simp [Arr.get, ix, List.getD_eq_getElem?_getD, List.getElem?_eq_getElem hl]
theorem lA {n : Nat} {α : Type} [Inhabited α] (a : Arr n α) : a.l = (List.range n).map fun (i : Nat) => Arr.get a (i : Int) := by
  apply List.ext_getElem
  · simp [a.h]
  · intro i h1 h2
    have hi : i < n := by rw [← a.h]; exact h1
    simp [getA a hi]
theorem getD_toB {l : List Int} (hb : Bytes l) {i : Nat} (h : i < l.length) : ofB (List.getD (l.map toB) (Int.toNat (i : Int)) 0) = ix l (i : Int) := by
  rw [Int.toNat_natCast, List.getD_eq_getElem?_getD, List.getElem?_map, List.getElem?_eq_getElem h, ix_nat h]
  have := of_toB (l := [l[i]]) (by intro x hx; obtain rfl := List.mem_singleton.1 hx; exact hb _ (List.getElem_mem h))
  simpa using this
end Go.Proofs.Ytjhajfkfhdnciaa.Pure

/- rickyard/rickyardref01.Number: its model, and that the Go function computes it: written by gen.py. -/
set_option linter.unusedVariables false
namespace Go.Proofs.Ytjhajfkfhdnciaa
open Go Go.Xw
def rickyardref01_Number.s0 (fu : Nat) (a0 : List UInt8) : (Int × Int) → Option (Sum Int (Int × Int)) := fun s1 => (if (decide (s1.2 ≥ 0)) = true then (((if (decide (s1.2 < 8)) = true then (if 0 ≤ s1.2 ∧ s1.2 < (List.length a0 : Int) then some ((IntKind.u64.wrap ((IntKind.u64.wrap (s1.1 * 256)) + (IntKind.u64.wrap (ofB (List.getD a0 (Int.toNat s1.2) 0)))))) else none) else some (s1.1)) : Option Int).bind fun x9 => some (Sum.inr (x9, (IntKind.i64.wrap (s1.2 - 1))))) else some (Sum.inl (s1.1)))
def rickyardref01_Number.f (fu : Nat) (a0 : List UInt8) : Option Int := ((loopM (rickyardref01_Number.s0 fu a0) fu (0, (IntKind.i64.wrap ((List.length a0 : Int) - 1)))).bind fun e2 => some (e2))
set_option maxRecDepth 100000 in
set_option maxHeartbeats 400000 in
theorem rickyardref01_Number.ok (fu : Nat) (w : World) (a0 : List UInt8) (r : Int) (h : rickyardref01_Number.f fu a0 = some r) :
    Calls Try.prog 136 (([sv a0] : List Value).toArray) w (fun e w' => ∃ v, e = .returned v ∧ v = .int .u64 r ∧ Gr w w') := by
  unfold rickyardref01_Number.f at h
  have fB : Gr w w := Fr.refl _ _
  refine calls_cw Try.func136 rfl Try.ntmps136 rfl ?_
  refine cw_seq ?_
  refine cw_region ?_
  refine ol_val (v := .int .u64 0) (by exact xr_assign rfl rfl) rfl rfl rfl ?_
  refine ol_nil ?_
  refine cw_seq ?_
  refine cw_region ?_
  refine ol_val (v := .int .u64 0) (by exact xr_assign rfl rfl) rfl rfl rfl ?_
  refine ol_nil ?_
  refine cw_seq ?_
  refine cw_seq ?_
  refine cw_region ?_
  refine ol_val (v := sv a0) (by exact xr_move rfl rfl) rfl rfl rfl ?_
  refine ol_val (v := .int .i64 (List.length a0 : Int)) (by exact xr_lenStr rfl Try.underlying9 rfl) rfl rfl rfl ?_
  refine ol_val (v := .int .i64 (IntKind.i64.wrap ((List.length a0 : Int) - 1))) (by exact xr_sub rfl rfl rfl) rfl rfl rfl ?_
  refine ol_val (v := .int .i64 (IntKind.i64.wrap ((List.length a0 : Int) - 1))) (by exact xr_assign rfl rfl) rfl rfl rfl ?_
  refine ol_nil ?_
  obtain ⟨e2, l3, h4⟩ := bs h
  refine cw_mid (fun ρ' w' => ρ' 3 = .int .u64 e2 ∧ Gr w w') ?_ ?_
  · refine cw_block ?_
    refine cw_round (fun (s1 : Int × Int) ρ' w' => ρ' 0 = sv a0 ∧ ρ' 3 = .int .u64 s1.1 ∧ ρ' 4 = .int .i64 s1.2 ∧ Gr w w') l3 ?_ ?_
    · skip
      exact ⟨rfl, rfl, rfl, fB⟩
    · rintro s1 x7 ρ5 w6 ⟨e0, e3, e4, fB⟩ h
      unfold rickyardref01_Number.s0 at h
      refine cw_seq ?_
      refine cw_seq ?_
      refine cw_region ?_
      refine ol_val (v := .int .i64 s1.2) (by exact xr_move rfl e4) rfl rfl rfl ?_
      refine ol_val (v := .bool (decide (s1.2 ≥ 0))) (by exact xr_geq rfl rfl rfl) rfl rfl rfl ?_
      refine ol_nil ?_
      rcases is h with ⟨c8, h⟩ | ⟨c8, h⟩
      · refine cw_condT rfl c8 ?_
        refine cw_skip ?_
        refine cw_seq ?_
        refine cw_block ?_
        refine cw_seq ?_
        refine cw_region ?_
        refine ol_val (v := .int .i64 s1.2) (by exact xr_move rfl e4) rfl rfl rfl ?_
        refine ol_val (v := .bool (decide (s1.2 < 8))) (by exact xr_lss rfl rfl rfl) rfl rfl rfl ?_
        refine ol_nil ?_
        obtain ⟨x9, j10, h11⟩ := bs h
        refine cw_mid (fun ρ' w' => ρ' 0 = sv a0 ∧ ρ' 3 = .int .u64 x9 ∧ ρ' 4 = .int .i64 s1.2 ∧ Gr w w') ?_ ?_
        · have h := j10
          rcases is h with ⟨c12, h⟩ | ⟨c12, h⟩
          · refine cw_condT rfl c12 ?_
            refine cw_region ?_
            refine ol_val (v := .int .u64 s1.1) (by exact xr_move rfl e3) rfl rfl rfl ?_
            refine ol_val (v := .int .u64 (IntKind.u64.wrap (s1.1 * 256))) (by exact xr_mul rfl rfl rfl) rfl rfl rfl ?_
            refine ol_val (v := sv a0) (by exact xr_move rfl e0) rfl rfl rfl ?_
            refine ol_val (v := .int .i64 s1.2) (by exact xr_move rfl e4) rfl rfl rfl ?_
            obtain ⟨g13, h⟩ := gs h
            refine ol_val (v := .int .u8 (ofB (List.getD a0 (Int.toNat s1.2) 0))) (by exact xr_indexStr rfl Try.underlying9 rfl rfl g13.1 g13.2) rfl rfl rfl ?_
            refine ol_val (v := .int .u64 (IntKind.u64.wrap (ofB (List.getD a0 (Int.toNat s1.2) 0)))) (by exact xr_conv rfl Try.underlying5 Try.underlying129 rfl) rfl rfl rfl ?_
            refine ol_val (v := .int .u64 (IntKind.u64.wrap ((IntKind.u64.wrap (s1.1 * 256)) + (IntKind.u64.wrap (ofB (List.getD a0 (Int.toNat s1.2) 0)))))) (by exact xr_add rfl rfl rfl) rfl rfl rfl ?_
            refine ol_val (v := .int .u64 (IntKind.u64.wrap ((IntKind.u64.wrap (s1.1 * 256)) + (IntKind.u64.wrap (ofB (List.getD a0 (Int.toNat s1.2) 0)))))) (by exact xr_assign rfl rfl) rfl rfl rfl ?_
            refine ol_nil ?_
            obtain rfl := Option.some.inj h
            refine thn_i ?_
            exact ⟨e0, rfl, e4, fB⟩
          · refine cw_condF rfl c12 ?_
            refine cw_skip ?_
            obtain rfl := Option.some.inj h
            refine thn_i ?_
            exact ⟨e0, e3, e4, fB⟩
        · rintro ρ14 w15 ⟨e0, e3, e4, fB⟩
          have h := h11
          refine blk_i ?_
          refine cw_region ?_
          refine ol_val (v := .int .i64 s1.2) (by exact xr_move rfl e4) rfl rfl rfl ?_
          refine ol_val (v := .int .i64 (IntKind.i64.wrap (s1.2 - 1))) (by exact xr_sub rfl rfl rfl) rfl rfl rfl ?_
          refine ol_val (v := .int .i64 (IntKind.i64.wrap (s1.2 - 1))) (by exact xr_assign rfl rfl) rfl rfl rfl ?_
          refine ol_nil ?_
          obtain rfl := Option.some.inj h
          refine lp_in ?_
          exact ⟨e0, e3, rfl, fB⟩
      · refine cw_condF rfl c8 ?_
        refine cw_exit ?_
        repeat (first | with_reducible refine thn_e ?_ | with_reducible refine blk_e rfl ?_)
        obtain rfl := Option.some.inj h
        refine lp_exit ?_
        rintro rfl
        refine thn_x ?_
        exact ⟨e3, fB⟩
  · rintro ρ16 w17 ⟨e3, fB⟩
    have h := h4
    refine cw_seq ?_
    refine cw_region ?_
    refine ol_val (v := .int .u64 e2) (by exact xr_move rfl e3) rfl rfl rfl ?_
    refine ol_val (v := .int .u64 e2) (by exact xr_assign rfl rfl) rfl rfl rfl ?_
    refine ol_nil ?_
    refine cw_ret ?_
    repeat (first | with_reducible refine thn_r ?_ | with_reducible refine blk_r ?_)
    obtain rfl := Option.some.inj h
    refine fin_ret1 Try.results136 rfl ?_
    exact ⟨_, rfl, rfl, fB⟩
end Go.Proofs.Ytjhajfkfhdnciaa

/- rickyard/rickyardref01.Int: its model, and that the Go function computes it: written by gen.py. -/
set_option linter.unusedVariables false
namespace Go.Proofs.Ytjhajfkfhdnciaa
open Go Go.Xw
def rickyardref01_Int.f (fu : Nat) (a0 : List UInt8) : Option Int := ((rickyardref01_Number.f fu a0 : Option Int).bind fun t1 => some ((IntKind.i64.wrap t1)))
set_option maxRecDepth 100000 in
set_option maxHeartbeats 400000 in
theorem rickyardref01_Int.ok (fu : Nat) (w : World) (a0 : List UInt8) (r : Int) (h : rickyardref01_Int.f fu a0 = some r) :
    Calls Try.prog 103 (([sv a0] : List Value).toArray) w (fun e w' => ∃ v, e = .returned v ∧ v = .int .i64 r ∧ Gr w w') := by
  unfold rickyardref01_Int.f at h
  have fB : Gr w w := Fr.refl _ _
  refine calls_cw Try.func103 rfl Try.ntmps103 rfl ?_
  refine cw_seq ?_
  refine cw_region ?_
  refine ol_val (v := .int .i64 0) (by exact xr_assign rfl rfl) rfl rfl rfl ?_
  refine ol_nil ?_
  refine cw_seq ?_
  refine cw_region ?_
  refine ol_val (v := sv a0) (by exact xr_move rfl rfl) rfl rfl rfl ?_
  obtain ⟨t1, k2, h⟩ := bs h
  refine ol_op (by exact opv_call rfl cal136 (ac rfl an) (rickyardref01_Number.ok fu _ a0 _ k2)) rfl rfl rfl ?_
  rintro _ w4 ⟨rfl, q3⟩
  have fB := fB.gr q3
  refine ol_val (v := .int .i64 (IntKind.i64.wrap t1)) (by exact xr_conv rfl Try.underlying129 Try.underlying3 rfl) rfl rfl rfl ?_
  refine ol_val (v := .int .i64 (IntKind.i64.wrap t1)) (by exact xr_assign rfl rfl) rfl rfl rfl ?_
  refine ol_nil ?_
  refine cw_ret ?_
  repeat (first | with_reducible refine thn_r ?_ | with_reducible refine blk_r ?_)
  obtain rfl := Option.some.inj h
  refine fin_ret1 Try.results103 rfl ?_
  exact ⟨_, rfl, rfl, fB⟩
end Go.Proofs.Ytjhajfkfhdnciaa

/- Numbers laid as octets and read again, as the program and the document do it. -/
set_option linter.unusedVariables false
set_option linter.unusedSimpArgs false
namespace Go.Proofs.Ytjhajfkfhdnciaa.Pure
open Go Go.Xw
def u64n (x : Int) : Nat := (x % 18446744073709551616).toNat
theorem u64_wrap (x : Int) : IntKind.u64.wrap x = (u64n x : Int) := by
  unfold u64n IntKind.wrap
  simp only [IntKind.signed, IntKind.bits]
  simp
  omega
theorem u64n_lt (x : Int) : u64n x < 18446744073709551616 := by
  unfold u64n
  omega
theorem u64n_of {x : Int} (h0 : 0 ≤ x) (h1 : x ≤ 18446744073709551615) : u64n x = x.toNat := by
  unfold u64n
  rw [Int.emod_eq_of_lt h0 (by omega)]
theorem i64_u64 {x : Int} (h0 : -9223372036854775808 ≤ x) (h1 : x ≤ 9223372036854775807) : IntKind.i64.wrap (u64n x : Int) = x := by
  unfold u64n IntKind.wrap
  simp only [IntKind.signed, IntKind.bits]
  simp
  split <;> omega
theorem olay64 {fu n : Nat} {x : Int} (hn : n ≤ 8) (hf : n < fu) : octet_Lay.f fu (IntKind.u64.wrap x) (n : Int) = some (lay (u64n x) n) := by
  rw [u64_wrap]
  exact olay_eq hn hf
theorem rlay64 {fu n : Nat} {x : Int} (hn : n ≤ 8) (hf : n < fu) : rickyardref01_Lay.f fu (IntKind.u64.wrap x) (n : Int) = some ((lay (u64n x) n).map toB) := by
  rw [u64_wrap]
  exact rlay_eq (u64n_lt x) hn hf
theorem num_lt8 {l : List Int} (hb : Bytes l) (hl : l.length ≤ 8) : num l < 18446744073709551616 := by
  have h1 := num_lt hb
  have h2 : (256 : Nat) ^ l.length ≤ 256 ^ 8 := Nat.pow_le_pow_right (by decide) hl
  have h3 : (256 : Nat) ^ 8 = 18446744073709551616 := by decide
  omega
theorem rnumber_eq {fu : Nat} {l : List Int} (hb : Bytes l) (hl : l.length ≤ 8) (hf : l.length < fu) : rickyardref01_Number.f fu (l.map toB) = some ((num l : Nat) : Int) := by
  unfold rickyardref01_Number.f
  have w0 : IntKind.i64.wrap (((l.map toB).length : Int) - 1) = (l.length : Int) - 1 := by rw [List.length_map, w64 (by omega) (by omega)]
  rw [w0]
  have : loopM (rickyardref01_Number.s0 fu (l.map toB)) fu (0, (l.length : Int) - 1) = some ((num l : Nat) : Int) := by
    refine loopM_run (S := fun j => (((num (l.drop (l.length - j)) : Nat) : Int), (l.length : Int) - 1 - (j : Int))) l.length (by simp [num]) ?_ ?_ hf
    · intro j hj
      unfold rickyardref01_Number.s0
      obtain ⟨i, hi⟩ : ∃ i : Nat, l.length - j = i + 1 := ⟨l.length - j - 1, by omega⟩
      have e1 : (l.length : Int) - 1 - (j : Int) = (i : Int) := by omega
      have hil : i < l.length := by omega
      have e2 : l.length - (j + 1) = i := by omega
      have c1 : (i : Int) ≥ 0 := by omega
      have c2 : (i : Int) < 8 := by omega
      have c3 : True ∧ (i : Int) < ((l.map toB).length : Int) := ⟨trivial, by rw [List.length_map]; omega⟩
      have w1 : IntKind.i64.wrap ((i : Int) - 1) = (l.length : Int) - 1 - ((j + 1 : Nat) : Int) := by rw [w64 (by omega) (by omega)]; omega
      have hcb := hb _ (List.getElem_mem hil)
      obtain ⟨c, hc⟩ : ∃ c : Nat, l[i] = (c : Int) := ⟨l[i].toNat, by omega⟩
      have hd : l.drop i = l[i] :: l.drop (i + 1) := List.drop_eq_getElem_cons hil
      have hn : num (l.drop i) = c + 256 * num (l.drop (i + 1)) := by rw [hd, num, hc, Int.toNat_natCast]
      have hlt := num_lt8 (hb.drop i) (by rw [List.length_drop]; omega)
      rw [hn] at hlt
      have w2 : IntKind.u64.wrap (((num (l.drop (i + 1)) : Nat) : Int) * 256) = ((num (l.drop (i + 1)) : Nat) : Int) * 256 := wu64 (by omega) (by omega)
      have w3 : IntKind.u64.wrap (ix l (i : Int)) = (c : Int) := by rw [ix_nat hil, hc, wu64 (by omega) (by omega)]
      have w4 : IntKind.u64.wrap (((num (l.drop (i + 1)) : Nat) : Int) * 256 + (c : Int)) = ((num (l.drop i) : Nat) : Int) := by rw [wu64 (by omega) (by omega), hn]; omega
      simp only [e1, hi, e2, getD_toB hb hil, w1, w2, w3, w4, c1, c2, decide_true, if_true]
      rw [if_pos c3]
      rfl
    · unfold rickyardref01_Number.s0
      have : ¬ (l.length : Int) - 1 - (l.length : Int) ≥ 0 := by omega
      simp only [this]
      simp
  rw [this]
  rfl
theorem rint_eq {fu : Nat} {l : List Int} (hb : Bytes l) (hl : l.length ≤ 8) (hf : l.length < fu) : rickyardref01_Int.f fu (l.map toB) = some (IntKind.i64.wrap ((num l : Nat) : Int)) := by
  unfold rickyardref01_Int.f
  rw [rnumber_eq hb hl hf]
  rfl
theorem num_small {l : List Int} (hb : Bytes l) (hl : l.length ≤ 7) : IntKind.i64.wrap ((num l : Nat) : Int) = ((num l : Nat) : Int) := by
  have h1 := num_lt hb
  have h2 : (256 : Nat) ^ l.length ≤ 256 ^ 7 := Nat.pow_le_pow_right (by decide) hl
  have h3 : (256 : Nat) ^ 7 = 72057594037927936 := by decide
  exact w64 (by omega) (by omega)
/-! ### Rows of fields of one width -/
/-- The i-th field of w octets. -/
def fieldAt (l : List Int) (w i : Nat) : List Int := (l.drop (w * i)).take w
theorem fieldAt_len {l : List Int} {w i n : Nat} (h : w * n ≤ l.length) (hi : i < n) : (fieldAt l w i).length = w := by
  have : w * (i + 1) ≤ w * n := Nat.mul_le_mul_left w hi
  rw [Nat.mul_succ] at this
  unfold fieldAt
  rw [List.length_take, List.length_drop]
  omega
theorem fieldAt_bytes {l : List Int} (hb : Bytes l) (w i : Nat) : Bytes (fieldAt l w i) := (hb.drop _).take _
theorem cut_eq (l : List Int) (i n : Nat) : cut l (i : Int) ((i + n : Nat) : Int) = (l.drop i).take n := by
  unfold cut
  rw [Int.toNat_natCast, Int.toNat_natCast, List.drop_take]
  congr 1
  omega
theorem flat_len {α : Type} {g : Nat → List α} {w : Nat} (hg : ∀ i, (g i).length = w) : ∀ n, ((List.range n).flatMap g).length = w * n
  | 0 => by simp
  | n + 1 => by
    rw [List.range_succ, List.flatMap_append, List.length_append, flat_len hg n]
    simp [hg, Nat.mul_succ]
theorem flat_succ {α : Type} (g : Nat → List α) (n : Nat) : (List.range (n + 1)).flatMap g = (List.range n).flatMap g ++ g n := by
  rw [List.range_succ, List.flatMap_append]
  simp
theorem flat_field {g : Nat → List Int} {w : Nat} (hg : ∀ i, (g i).length = w) {n i : Nat} (hi : i < n) (t : List Int) : fieldAt ((List.range n).flatMap g ++ t) w i = g i := by
  have e : (List.range n).flatMap g = (List.range i).flatMap g ++ (g i ++ ((List.range (n - i - 1)).map (i + 1 + ·)).flatMap g) := by
    have h1 : n = i + (1 + (n - i - 1)) := by omega
    conv => lhs; rw [h1]
    rw [List.range_add, List.flatMap_append, List.range_add, List.map_append, List.flatMap_append]
    congr 1
    simp [List.map_map, Function.comp_def, Nat.add_assoc]
  unfold fieldAt
  rw [e, List.append_assoc, List.drop_left' (flat_len hg i), List.append_assoc, List.take_left' (hg i)]
theorem field_flat {l : List Int} {w : Nat} : ∀ n, w * n ≤ l.length → (List.range n).flatMap (fieldAt l w) = l.take (w * n)
  | 0, _ => by simp
  | n + 1, h => by
    rw [Nat.mul_succ] at h
    rw [flat_succ, field_flat n (by omega), Nat.mul_succ, List.take_add]
    rfl
theorem flat_congr {α : Type} {g k : Nat → List α} {n : Nat} (h : ∀ i, i < n → g i = k i) : (List.range n).flatMap g = (List.range n).flatMap k := by
  induction n with
  | zero => rfl
  | succ n ih => rw [flat_succ, flat_succ, ih fun i hi => h i (by omega), h n (by omega)]
theorem flat_bytes {g : Nat → List Int} (hg : ∀ i, Bytes (g i)) (n : Nat) : Bytes ((List.range n).flatMap g) := by
  intro x hx
  obtain ⟨i, _, h⟩ := List.mem_flatMap.1 hx
  exact hg i x h
theorem flat_map {g : Nat → List Int} (n : Nat) : ((List.range n).flatMap g).map toB = (List.range n).flatMap fun i => (g i).map toB := by
  induction n with
  | zero => rfl
  | succ n ih => rw [flat_succ, flat_succ, List.map_append, ih]
end Go.Proofs.Ytjhajfkfhdnciaa.Pure

/- rickyard/rickyardref01.Ints: its model, and that the Go function computes it: written by gen.py. -/
set_option linter.unusedVariables false
namespace Go.Proofs.Ytjhajfkfhdnciaa
open Go Go.Xw
def rickyardref01_Ints.s0 (fu : Nat) (a0 : List Int) (a1 : List Int) : Int → Option (Sum (Sum Bool Unit) Int) := fun s2 => (if (decide (s2 < (List.length a0 : Int))) = true then (if 0 ≤ s2 ∧ s2 < (List.length a0 : Int) then (if 0 ≤ s2 ∧ s2 < (List.length a1 : Int) then (if (!decide ((ix a0 s2) = (ix a1 s2))) = true then some (Sum.inl (Sum.inl (false))) else some (Sum.inr ((IntKind.i64.wrap (s2 + 1))))) else none) else none) else some (Sum.inl (Sum.inr ())))
def rickyardref01_Ints.f (fu : Nat) (a0 : List Int) (a1 : List Int) : Option Bool := (if (!decide ((List.length a0 : Int) = (List.length a1 : Int))) = true then some (false) else ((loopM (rickyardref01_Ints.s0 fu a0 a1) fu (0)).bind fun e3 => match e3 with | Sum.inl p => some p | Sum.inr x6 => some (true)))
set_option maxRecDepth 100000 in
set_option maxHeartbeats 400000 in
theorem rickyardref01_Ints.ok (fu : Nat) (w : World) (a0 : List Int) (V0_0 : Value) (R0_0 : Rd (kI .i64) w V0_0 a0) (a1 : List Int) (V1_0 : Value) (R1_0 : Rd (kI .i64) w V1_0 a1) (r : Bool) (h : rickyardref01_Ints.f fu a0 a1 = some r) :
    Calls Try.prog 66 (([V0_0, V1_0] : List Value).toArray) w (fun e w' => ∃ v, e = .returned v ∧ v = .bool r ∧ Gr w w') := by
  unfold rickyardref01_Ints.f at h
  have fB : Gr w w := Fr.refl _ _
  refine calls_cw Try.func66 rfl Try.ntmps66 rfl ?_
  refine cw_seq ?_
  refine cw_region ?_
  refine ol_val (v := .bool false) (by exact xr_assign rfl rfl) rfl rfl rfl ?_
  refine ol_nil ?_
  refine cw_seq ?_
  refine cw_seq ?_
  refine cw_region ?_
  refine ol_val (v := V0_0) (by exact xr_move rfl rfl) rfl rfl rfl ?_
  refine ol_val (v := .int .i64 (List.length a0 : Int)) (by exact xr_lenR rfl Try.underlying45 rfl (R0_0.gr fB)) rfl rfl rfl ?_
  refine ol_val (v := V1_0) (by exact xr_move rfl rfl) rfl rfl rfl ?_
  refine ol_val (v := .int .i64 (List.length a1 : Int)) (by exact xr_lenR rfl Try.underlying45 rfl (R1_0.gr fB)) rfl rfl rfl ?_
  refine ol_val (v := .bool (!decide ((List.length a0 : Int) = (List.length a1 : Int)))) (by exact xr_neI rfl Try.underlying3 rfl rfl rfl) rfl rfl rfl ?_
  refine ol_nil ?_
  rcases is h with ⟨c1, h⟩ | ⟨c1, h⟩
  · refine cw_condT rfl c1 ?_
    refine cw_seq ?_
    refine cw_region ?_
    refine ol_val (v := .bool false) (by exact xr_assign rfl rfl) rfl rfl rfl ?_
    refine ol_nil ?_
    refine cw_ret ?_
    repeat (first | with_reducible refine thn_r ?_ | with_reducible refine blk_r ?_)
    obtain rfl := Option.some.inj h
    refine fin_ret1 Try.results66 rfl ?_
    exact ⟨_, rfl, rfl, fB⟩
  · refine cw_condF rfl c1 ?_
    refine cw_skip ?_
    refine cw_seq ?_
    refine cw_seq ?_
    refine cw_region ?_
    refine ol_val (v := .int .i64 0) (by exact xr_assign rfl rfl) rfl rfl rfl ?_
    refine ol_nil ?_
    obtain ⟨e3, l4, h5⟩ := bs h
    refine cw_mid (fun ρ' w' => ∃ x6, e3 = Sum.inr x6 ∧ Gr w w') ?_ ?_
    · refine cw_block ?_
      refine cw_round (fun (s2 : Int) ρ' w' => ρ' 0 = V0_0 ∧ ρ' 1 = V1_0 ∧ ρ' 5 = .int .i64 s2 ∧ Gr w w') l4 ?_ ?_
      · skip
        exact ⟨rfl, rfl, rfl, fB⟩
      · rintro s2 x9 ρ7 w8 ⟨e0, e1, e5, fB⟩ h
        unfold rickyardref01_Ints.s0 at h
        refine cw_seq ?_
        refine cw_seq ?_
        refine cw_region ?_
        refine ol_val (v := .int .i64 s2) (by exact xr_move rfl e5) rfl rfl rfl ?_
        refine ol_val (v := V0_0) (by exact xr_move rfl e0) rfl rfl rfl ?_
        refine ol_val (v := .int .i64 (List.length a0 : Int)) (by exact xr_lenR rfl Try.underlying45 rfl (R0_0.gr fB)) rfl rfl rfl ?_
        refine ol_val (v := .bool (decide (s2 < (List.length a0 : Int)))) (by exact xr_lss rfl rfl rfl) rfl rfl rfl ?_
        refine ol_nil ?_
        rcases is h with ⟨c10, h⟩ | ⟨c10, h⟩
        · refine cw_condT rfl c10 ?_
          refine cw_skip ?_
          refine cw_seq ?_
          refine cw_block ?_
          refine cw_seq ?_
          obtain ⟨g11, h⟩ := gs h
          obtain ⟨g12, h⟩ := gs h
          refine cw_drawL 8 [fun vz wz => vz = (V0_0 : Value), fun vz wz => vz = (.int .i64 s2 : Value), fun vz wz => vz = (.pointer (some ⟨(sb V0_0), so V0_0 + Int.toNat s2 * 1, none⟩) : Value), fun vz wz => vz = (.int .i64 (ix a0 s2) : Value), fun vz wz => vz = (V1_0 : Value), fun vz wz => vz = (.int .i64 s2 : Value), fun vz wz => vz = (.pointer (some ⟨(sb V1_0), so V1_0 + Int.toNat s2 * 1, none⟩) : Value), fun vz wz => vz = (.int .i64 (ix a1 s2) : Value)] mo rfl ⟨fun _ _ _ h _ => h, fun _ _ _ h _ => h, fun _ _ _ h _ => h, fun _ _ _ h _ => h, fun _ _ _ h _ => h, fun _ _ _ h _ => h, fun _ _ _ h _ => h, fun _ _ _ h _ => h, trivial⟩ ?_ ?_
          · refine ⟨?_, ?_, ?_, ?_, ?_, ?_, ?_, ?_, trivial⟩
            · intro ρz wz hz hk hd
              exact sk_val (v := V0_0) (by exact xr_move rfl ((hk 0 rfl).trans e0)) rfl rfl
            · intro ρz wz hz hk hd
              exact sk_val (v := .int .i64 s2) (by exact xr_move rfl ((hk 5 rfl).trans e5)) rfl rfl
            · intro ρz wz hz hk hd
              have d17 := hd 0 rfl 17 rfl
              have d18 := hd 1 rfl 18 rfl
              exact sk_val (by exact xr_indexR (K := (kI .i64)) (v := V0_0) rfl Try.underlying45 sz3 d17 (R0_0.gr (fB.gr hz)) d18 g11.1 g11.2) rfl rfl
            · intro ρz wz hz hk hd
              have d19 := hd 2 rfl 19 rfl
              exact sk_val (v := .int .i64 (ix a0 s2)) (by exact xr_load1 (v := .int .i64 (ix a0 s2)) rfl ag3 d19 ((R0_0.gr (fB.gr hz)).elem g11.1 g11.2)) rfl rfl
            · intro ρz wz hz hk hd
              exact sk_val (v := V1_0) (by exact xr_move rfl ((hk 1 rfl).trans e1)) rfl rfl
            · intro ρz wz hz hk hd
              exact sk_val (v := .int .i64 s2) (by exact xr_move rfl ((hk 5 rfl).trans e5)) rfl rfl
            · intro ρz wz hz hk hd
              have d21 := hd 4 rfl 21 rfl
              have d22 := hd 5 rfl 22 rfl
              exact sk_val (by exact xr_indexR (K := (kI .i64)) (v := V1_0) rfl Try.underlying45 sz3 d21 (R1_0.gr (fB.gr hz)) d22 g12.1 g12.2) rfl rfl
            · intro ρz wz hz hk hd
              have d23 := hd 6 rfl 23 rfl
              exact sk_val (v := .int .i64 (ix a1 s2)) (by exact xr_load1 (v := .int .i64 (ix a1 s2)) rfl ag3 d23 ((R1_0.gr (fB.gr hz)).elem g12.1 g12.2)) rfl rfl
          · intro ρ13 w14 q15 hk hd
            have e0 := (hk 0 rfl).trans e0
            have e1 := (hk 1 rfl).trans e1
            have e5 := (hk 5 rfl).trans e5
            have e20 := hd 3 rfl 20 rfl
            have e24 := hd 7 rfl 24 rfl
            have fB := fB.gr q15
            refine ol_val (v := .bool (!decide ((ix a0 s2) = (ix a1 s2)))) (by exact xr_neI rfl Try.underlying3 rfl e20 e24) rfl rfl rfl ?_
            refine ol_nil ?_
            rcases is h with ⟨c16, h⟩ | ⟨c16, h⟩
            · refine cw_condT rfl c16 ?_
              refine cw_seq ?_
              refine cw_region ?_
              refine ol_val (v := .bool false) (by exact xr_assign rfl rfl) rfl rfl rfl ?_
              refine ol_nil ?_
              refine cw_ret ?_
              repeat (first | with_reducible refine thn_r ?_ | with_reducible refine blk_r ?_)
              obtain rfl := Option.some.inj h
              refine lp_ret ?_
              rintro rfl
              repeat (first | with_reducible refine thn_r ?_ | with_reducible refine blk_r ?_)
              have h := h5
              obtain rfl := Option.some.inj h
              refine fin_ret1 Try.results66 rfl ?_
              exact ⟨_, rfl, rfl, fB⟩
            · refine cw_condF rfl c16 ?_
              refine cw_skip ?_
              refine blk_i ?_
              refine cw_region ?_
              refine ol_val (v := .int .i64 s2) (by exact xr_move rfl e5) rfl rfl rfl ?_
              refine ol_val (v := .int .i64 (IntKind.i64.wrap (s2 + 1))) (by exact xr_add rfl rfl rfl) rfl rfl rfl ?_
              refine ol_val (v := .int .i64 (IntKind.i64.wrap (s2 + 1))) (by exact xr_assign rfl rfl) rfl rfl rfl ?_
              refine ol_nil ?_
              obtain rfl := Option.some.inj h
              refine lp_in ?_
              exact ⟨e0, e1, rfl, fB⟩
        · refine cw_condF rfl c10 ?_
          refine cw_exit ?_
          repeat (first | with_reducible refine thn_e ?_ | with_reducible refine blk_e rfl ?_)
          obtain rfl := Option.some.inj h
          refine lp_exit ?_
          rintro rfl
          refine thn_x ?_
          exact ⟨_, rfl, fB⟩
    · rintro ρ17 w18 ⟨x6, rfl, fB⟩
      have h := h5
      refine cw_seq ?_
      refine cw_region ?_
      refine ol_val (v := .bool true) (by exact xr_assign rfl rfl) rfl rfl rfl ?_
      refine ol_nil ?_
      refine cw_ret ?_
      repeat (first | with_reducible refine thn_r ?_ | with_reducible refine blk_r ?_)
      obtain rfl := Option.some.inj h
      refine fin_ret1 Try.results66 rfl ?_
      exact ⟨_, rfl, rfl, fB⟩
end Go.Proofs.Ytjhajfkfhdnciaa

/- slices.Equal[[]int,int]: its model, and that the Go function computes it: written by gen.py. -/
set_option linter.unusedVariables false
namespace Go.Proofs.Ytjhajfkfhdnciaa
open Go Go.Xw
def slices_Equal.s0 (fu : Nat) (a0 : List Int) (a1 : List Int) : Int → Option (Sum (Sum Bool Unit) Int) := fun s2 => (if (decide (s2 < (List.length a0 : Int))) = true then (if 0 ≤ s2 ∧ s2 < (List.length a0 : Int) then (if 0 ≤ s2 ∧ s2 < (List.length a1 : Int) then (if (!decide ((ix a0 s2) = (ix a1 s2))) = true then some (Sum.inl (Sum.inl (false))) else some (Sum.inr ((IntKind.i64.wrap (s2 + 1))))) else none) else none) else some (Sum.inl (Sum.inr ())))
def slices_Equal.f (fu : Nat) (a0 : List Int) (a1 : List Int) : Option Bool := (if (!decide ((List.length a0 : Int) = (List.length a1 : Int))) = true then some (false) else ((loopM (slices_Equal.s0 fu a0 a1) fu (0)).bind fun e3 => match e3 with | Sum.inl p => some p | Sum.inr x6 => some (true)))
set_option maxRecDepth 100000 in
set_option maxHeartbeats 400000 in
theorem slices_Equal.ok (fu : Nat) (w : World) (a0 : List Int) (V0_0 : Value) (R0_0 : Rd (kI .i64) w V0_0 a0) (a1 : List Int) (V1_0 : Value) (R1_0 : Rd (kI .i64) w V1_0 a1) (r : Bool) (h : slices_Equal.f fu a0 a1 = some r) :
    Calls Try.prog 110 (([V0_0, V1_0] : List Value).toArray) w (fun e w' => ∃ v, e = .returned v ∧ v = .bool r ∧ Gr w w') := by
  unfold slices_Equal.f at h
  have fB : Gr w w := Fr.refl _ _
  refine calls_cw Try.func110 rfl Try.ntmps110 rfl ?_
  refine cw_seq ?_
  refine cw_region ?_
  refine ol_val (v := .bool false) (by exact xr_assign rfl rfl) rfl rfl rfl ?_
  refine ol_nil ?_
  refine cw_seq ?_
  refine cw_seq ?_
  refine cw_region ?_
  refine ol_val (v := V0_0) (by exact xr_move rfl rfl) rfl rfl rfl ?_
  refine ol_val (v := .int .i64 (List.length a0 : Int)) (by exact xr_lenR rfl Try.underlying45 rfl (R0_0.gr fB)) rfl rfl rfl ?_
  refine ol_val (v := V1_0) (by exact xr_move rfl rfl) rfl rfl rfl ?_
  refine ol_val (v := .int .i64 (List.length a1 : Int)) (by exact xr_lenR rfl Try.underlying45 rfl (R1_0.gr fB)) rfl rfl rfl ?_
  refine ol_val (v := .bool (!decide ((List.length a0 : Int) = (List.length a1 : Int)))) (by exact xr_neI rfl Try.underlying3 rfl rfl rfl) rfl rfl rfl ?_
  refine ol_nil ?_
  rcases is h with ⟨c1, h⟩ | ⟨c1, h⟩
  · refine cw_condT rfl c1 ?_
    refine cw_seq ?_
    refine cw_region ?_
    refine ol_val (v := .bool false) (by exact xr_assign rfl rfl) rfl rfl rfl ?_
    refine ol_nil ?_
    refine cw_ret ?_
    repeat (first | with_reducible refine thn_r ?_ | with_reducible refine blk_r ?_)
    obtain rfl := Option.some.inj h
    refine fin_ret1 Try.results110 rfl ?_
    exact ⟨_, rfl, rfl, fB⟩
  · refine cw_condF rfl c1 ?_
    refine cw_skip ?_
    refine cw_seq ?_
    refine cw_seq ?_
    refine cw_region ?_
    refine ol_val (v := V0_0) (by exact xr_move rfl rfl) rfl rfl rfl ?_
    refine ol_val (v := .int .i64 (List.length a0 : Int)) (by exact xr_lenR rfl Try.underlying45 rfl (R0_0.gr fB)) rfl rfl rfl ?_
    refine ol_val (v := .int .i64 0) (by exact xr_move rfl rfl) rfl rfl rfl ?_
    refine ol_nil ?_
    obtain ⟨e3, l4, h5⟩ := bs h
    refine cw_mid (fun ρ' w' => ∃ x6, e3 = Sum.inr x6 ∧ Gr w w') ?_ ?_
    · refine cw_block ?_
      refine cw_round (fun (s2 : Int) ρ' w' => ρ' 0 = V0_0 ∧ ρ' 1 = V1_0 ∧ ρ' 12 = .int .i64 (List.length a0 : Int) ∧ ρ' 13 = .int .i64 s2 ∧ Gr w w') l4 ?_ ?_
      · skip
        exact ⟨rfl, rfl, rfl, rfl, fB⟩
      · rintro s2 x9 ρ7 w8 ⟨e0, e1, e12, e13, fB⟩ h
        unfold slices_Equal.s0 at h
        refine cw_seq ?_
        refine cw_region ?_
        refine ol_val (v := .bool (decide (s2 < (List.length a0 : Int)))) (by exact xr_lss rfl e13 e12) rfl rfl rfl ?_
        refine ol_nil ?_
        refine cw_seq ?_
        rcases is h with ⟨c10, h⟩ | ⟨c10, h⟩
        · refine cw_condT rfl c10 ?_
          refine cw_skip ?_
          refine cw_seq ?_
          refine cw_block ?_
          refine cw_seq ?_
          refine cw_region ?_
          refine ol_val (v := .int .i64 s2) (by exact xr_move rfl e13) rfl rfl rfl ?_
          refine ol_val (v := .int .i64 s2) (by exact xr_assign rfl rfl) rfl rfl rfl ?_
          refine ol_nil ?_
          refine cw_seq ?_
          obtain ⟨g11, h⟩ := gs h
          obtain ⟨g12, h⟩ := gs h
          refine cw_drawL 8 [fun vz wz => vz = (V0_0 : Value), fun vz wz => vz = (.int .i64 s2 : Value), fun vz wz => vz = (.pointer (some ⟨(sb V0_0), so V0_0 + Int.toNat s2 * 1, none⟩) : Value), fun vz wz => vz = (.int .i64 (ix a0 s2) : Value), fun vz wz => vz = (V1_0 : Value), fun vz wz => vz = (.int .i64 s2 : Value), fun vz wz => vz = (.pointer (some ⟨(sb V1_0), so V1_0 + Int.toNat s2 * 1, none⟩) : Value), fun vz wz => vz = (.int .i64 (ix a1 s2) : Value)] mo rfl ⟨fun _ _ _ h _ => h, fun _ _ _ h _ => h, fun _ _ _ h _ => h, fun _ _ _ h _ => h, fun _ _ _ h _ => h, fun _ _ _ h _ => h, fun _ _ _ h _ => h, fun _ _ _ h _ => h, trivial⟩ ?_ ?_
          · refine ⟨?_, ?_, ?_, ?_, ?_, ?_, ?_, ?_, trivial⟩
            · intro ρz wz hz hk hd
              exact sk_val (v := V0_0) (by exact xr_move rfl ((hk 0 rfl).trans e0)) rfl rfl
            · intro ρz wz hz hk hd
              exact sk_val (v := .int .i64 s2) (by exact xr_move rfl ((hk 5 rfl).trans rfl)) rfl rfl
            · intro ρz wz hz hk hd
              have d16 := hd 0 rfl 16 rfl
              have d17 := hd 1 rfl 17 rfl
              exact sk_val (by exact xr_indexR (K := (kI .i64)) (v := V0_0) rfl Try.underlying45 sz3 d16 (R0_0.gr (fB.gr hz)) d17 g11.1 g11.2) rfl rfl
            · intro ρz wz hz hk hd
              have d18 := hd 2 rfl 18 rfl
              exact sk_val (v := .int .i64 (ix a0 s2)) (by exact xr_load1 (v := .int .i64 (ix a0 s2)) rfl ag3 d18 ((R0_0.gr (fB.gr hz)).elem g11.1 g11.2)) rfl rfl
            · intro ρz wz hz hk hd
              exact sk_val (v := V1_0) (by exact xr_move rfl ((hk 1 rfl).trans e1)) rfl rfl
            · intro ρz wz hz hk hd
              exact sk_val (v := .int .i64 s2) (by exact xr_move rfl ((hk 5 rfl).trans rfl)) rfl rfl
            · intro ρz wz hz hk hd
              have d20 := hd 4 rfl 20 rfl
              have d21 := hd 5 rfl 21 rfl
              exact sk_val (by exact xr_indexR (K := (kI .i64)) (v := V1_0) rfl Try.underlying45 sz3 d20 (R1_0.gr (fB.gr hz)) d21 g12.1 g12.2) rfl rfl
            · intro ρz wz hz hk hd
              have d22 := hd 6 rfl 22 rfl
              exact sk_val (v := .int .i64 (ix a1 s2)) (by exact xr_load1 (v := .int .i64 (ix a1 s2)) rfl ag3 d22 ((R1_0.gr (fB.gr hz)).elem g12.1 g12.2)) rfl rfl
          · intro ρ13 w14 q15 hk hd
            have e0 := (hk 0 rfl).trans e0
            have e1 := (hk 1 rfl).trans e1
            have e12 := (hk 12 rfl).trans e12
            have e13 := (hk 13 rfl).trans e13
            have e19 := hd 3 rfl 19 rfl
            have e23 := hd 7 rfl 23 rfl
            have fB := fB.gr q15
            refine ol_val (v := .bool (!decide ((ix a0 s2) = (ix a1 s2)))) (by exact xr_neI rfl Try.underlying3 rfl e19 e23) rfl rfl rfl ?_
            refine ol_nil ?_
            rcases is h with ⟨c16, h⟩ | ⟨c16, h⟩
            · refine cw_condT rfl c16 ?_
              refine cw_seq ?_
              refine cw_region ?_
              refine ol_val (v := .bool false) (by exact xr_assign rfl rfl) rfl rfl rfl ?_
              refine ol_nil ?_
              refine cw_ret ?_
              repeat (first | with_reducible refine thn_r ?_ | with_reducible refine blk_r ?_)
              obtain rfl := Option.some.inj h
              refine lp_ret ?_
              rintro rfl
              repeat (first | with_reducible refine thn_r ?_ | with_reducible refine blk_r ?_)
              have h := h5
              obtain rfl := Option.some.inj h
              refine fin_ret1 Try.results110 rfl ?_
              exact ⟨_, rfl, rfl, fB⟩
            · refine cw_condF rfl c16 ?_
              refine cw_skip ?_
              refine blk_i ?_
              refine cw_region ?_
              refine ol_val (v := .int .i64 (IntKind.i64.wrap (s2 + 1))) (by exact xr_add rfl e13 rfl) rfl rfl rfl ?_
              refine ol_val (v := .int .i64 (IntKind.i64.wrap (s2 + 1))) (by exact xr_move rfl rfl) rfl rfl rfl ?_
              refine ol_nil ?_
              obtain rfl := Option.some.inj h
              refine lp_in ?_
              exact ⟨e0, e1, e12, rfl, fB⟩
        · refine cw_condF rfl c10 ?_
          refine cw_exit ?_
          repeat (first | with_reducible refine thn_e ?_ | with_reducible refine blk_e rfl ?_)
          obtain rfl := Option.some.inj h
          refine lp_exit ?_
          rintro rfl
          refine thn_x ?_
          exact ⟨_, rfl, fB⟩
    · rintro ρ17 w18 ⟨x6, rfl, fB⟩
      have h := h5
      refine cw_seq ?_
      refine cw_region ?_
      refine ol_val (v := .bool true) (by exact xr_assign rfl rfl) rfl rfl rfl ?_
      refine ol_nil ?_
      refine cw_ret ?_
      repeat (first | with_reducible refine thn_r ?_ | with_reducible refine blk_r ?_)
      obtain rfl := Option.some.inj h
      refine fin_ret1 Try.results110 rfl ?_
      exact ⟨_, rfl, rfl, fB⟩
end Go.Proofs.Ytjhajfkfhdnciaa

/- Lists that are alike; rows of octets read as numbers. -/
set_option linter.unusedVariables false
set_option linter.unusedSimpArgs false
namespace Go.Proofs.Ytjhajfkfhdnciaa.Pure
open Go Go.Xw
theorem ix_ext {a b : List Int} (hl : a.length = b.length) (h : ∀ j, j < a.length → ix a (j : Int) = ix b (j : Int)) : a = b := by
  apply List.ext_getElem hl
  intro i h1 h2
  rw [← ix_nat h1, ← ix_nat h2]
  exact h i h1
theorem ints2_eq {fu : Nat} {a b : List Int} (ha : a.length ≤ 9000000000000000000) (hf : a.length < fu) : rickyardref01_Ints.f fu a b = some (decide (a = b)) := by
  unfold rickyardref01_Ints.f
  by_cases hl : a.length = b.length
  · have hL : (a.length : Int) = (b.length : Int) := by omega
    rw [decide_eq_true hL]
    simp only [Bool.not_true, Bool.false_eq_true, if_false]
    have hs : ∀ j : Nat, j < a.length → rickyardref01_Ints.s0 fu a b (j : Int) = some (if ix a (j : Int) = ix b (j : Int) then .inr ((j + 1 : Nat) : Int) else .inl (.inl false)) := by
      intro j hj
      unfold rickyardref01_Ints.s0
      have h1 : (j : Int) < (a.length : Int) := by omega
      have h2 : (j : Int) < (b.length : Int) := by omega
      have c0 : 0 ≤ (j : Int) := by omega
      have w3 : IntKind.i64.wrap ((j : Int) + 1) = ((j + 1 : Nat) : Int) := by rw [w64 (by omega) (by omega)]; omega
      simp only [h1, h2, c0, and_self, decide_true, if_true, w3]
      by_cases e : ix a (j : Int) = ix b (j : Int) <;> simp [e]
    by_cases h : a = b
    · have : loopM (rickyardref01_Ints.s0 fu a b) fu 0 = some (.inr ()) := by
        refine loopM_run (S := fun j => (j : Int)) a.length rfl (fun j hj => by rw [hs j hj, if_pos (by rw [h])]) ?_ hf
        unfold rickyardref01_Ints.s0
        simp
      rw [this]
      simp [h]
    · have : loopM (rickyardref01_Ints.s0 fu a b) fu 0 = some (.inl false) := by
        refine loopM_bad (S := fun j => (j : Int)) a.length (fun j => ix a (j : Int) = ix b (j : Int)) rfl ?_ (fun j hj _ hg => by rw [hs j hj, if_pos hg]) (fun j hj _ hg => by rw [hs j hj, if_neg hg]) hf
        apply Classical.byContradiction
        intro hx
        exact h (ix_ext hl fun i hi => Classical.byContradiction fun hg => hx ⟨i, hi, hg⟩)
      rw [this]
      simp [h]
  · have hL : ¬ (a.length : Int) = (b.length : Int) := by omega
    have h : ¬ a = b := fun e => hl (by rw [e])
    rw [decide_eq_false hL, decide_eq_false h]
    rfl
theorem equal_eq {fu : Nat} {a b : List Int} (ha : a.length ≤ 9000000000000000000) (hf : a.length < fu) : slices_Equal.f fu a b = some (decide (a = b)) := by
  unfold slices_Equal.f
  by_cases hl : a.length = b.length
  · have hL : (a.length : Int) = (b.length : Int) := by omega
    rw [decide_eq_true hL]
    simp only [Bool.not_true, Bool.false_eq_true, if_false]
    have hs : ∀ j : Nat, j < a.length → slices_Equal.s0 fu a b (j : Int) = some (if ix a (j : Int) = ix b (j : Int) then .inr ((j + 1 : Nat) : Int) else .inl (.inl false)) := by
      intro j hj
      unfold slices_Equal.s0
      have h1 : (j : Int) < (a.length : Int) := by omega
      have h2 : (j : Int) < (b.length : Int) := by omega
      have c0 : 0 ≤ (j : Int) := by omega
      have w3 : IntKind.i64.wrap ((j : Int) + 1) = ((j + 1 : Nat) : Int) := by rw [w64 (by omega) (by omega)]; omega
      simp only [h1, h2, c0, and_self, decide_true, if_true, w3]
      by_cases e : ix a (j : Int) = ix b (j : Int) <;> simp [e]
    by_cases h : a = b
    · have : loopM (slices_Equal.s0 fu a b) fu 0 = some (.inr ()) := by
        refine loopM_run (S := fun j => (j : Int)) a.length rfl (fun j hj => by rw [hs j hj, if_pos (by rw [h])]) ?_ hf
        unfold slices_Equal.s0
        simp
      rw [this]
      simp [h]
    · have : loopM (slices_Equal.s0 fu a b) fu 0 = some (.inl false) := by
        refine loopM_bad (S := fun j => (j : Int)) a.length (fun j => ix a (j : Int) = ix b (j : Int)) rfl ?_ (fun j hj _ hg => by rw [hs j hj, if_pos hg]) (fun j hj _ hg => by rw [hs j hj, if_neg hg]) hf
        apply Classical.byContradiction
        intro hx
        exact h (ix_ext hl fun i hi => Classical.byContradiction fun hg => hx ⟨i, hi, hg⟩)
      rw [this]
      simp [h]
  · have hL : ¬ (a.length : Int) = (b.length : Int) := by omega
    have h : ¬ a = b := fun e => hl (by rw [e])
    rw [decide_eq_false hL, decide_eq_false h]
    rfl
def rowE (l : List Int) (n : Nat) : List Int := (List.range n).flatMap fun (i : Nat) => lay (u64n (ix l (i : Int))) 2
theorem rowE_len (l : List Int) (n : Nat) : (rowE l n).length = 2 * n := flat_len (fun i => lay_len _ _) n
theorem rowE_bytes (l : List Int) (n : Nat) : Bytes (rowE l n) := flat_bytes (fun i => lay_bytes _ _) n
theorem lim_of' {a b : Nat} (h : a + b ≤ 1000) : a + b ≤ LIM := by
  have : (1000 : Nat) ≤ LIM := by decide
  omega
def part (l : List Int) (i n : Nat) : List Int := (l.drop i).take n
theorem part_len {l : List Int} {i n : Nat} (h : i + n ≤ l.length) : (part l i n).length = n := by
  unfold part
  rw [List.length_take, List.length_drop]
  omega
theorem part_bytes {l : List Int} (hb : Bytes l) (i n : Nat) : Bytes (part l i n) := (hb.drop i).take n
def intAt (l : List Int) (i n : Nat) : Int := IntKind.i64.wrap ((num (part l i n) : Nat) : Int)
theorem rintAt_eq {fu : Nat} {b : List Int} {i n : Nat} (hb : Bytes b) (h : i + n ≤ b.length) (hn : n ≤ 8) (hf : 100 < fu) : rickyardref01_Int.f fu (cut (b.map toB) (i : Int) ((i + n : Nat) : Int)) = some (intAt b i n) := by
  have e : cut (b.map toB) (i : Int) ((i + n : Nat) : Int) = (part b i n).map toB := by
    unfold cut part
    rw [Int.toNat_natCast, Int.toNat_natCast, List.drop_take, ← List.map_drop, ← List.map_take]
    congr 2
    omega
  rw [e, rint_eq (part_bytes hb i n) (by rw [part_len h]; exact hn) (by rw [part_len h]; omega)]
  rfl
theorem u64n_i64 {n : Nat} (h : n < 18446744073709551616) : u64n (IntKind.i64.wrap (n : Int)) = n := by
  unfold u64n IntKind.wrap
  simp only [IntKind.signed, IntKind.bits]
  simp
  split <;> omega
theorem lay_part {l : List Int} {i n : Nat} (hb : Bytes l) (h : i + n ≤ l.length) (hn : n ≤ 8) : lay (u64n (intAt l i n)) n = part l i n := by
  have hpl := part_len h
  have hpb := part_bytes hb i n
  unfold intAt
  rw [u64n_i64 (num_lt8 hpb (by omega))]
  have := lay_num hpb
  rwa [hpl] at this
theorem intAt_small {l : List Int} {i n : Nat} (hb : Bytes l) (h : i + n ≤ l.length) (hn : n ≤ 7) : intAt l i n = ((num (part l i n) : Nat) : Int) := num_small (part_bytes hb i n) (by rw [part_len h]; exact hn)
theorem ix_map {f : Nat → Int} {t i : Nat} (h : i < t) : ix ((List.range t).map f) (i : Int) = f i := by
  rw [ix_nat (by simpa using h)]
  simp
end Go.Proofs.Ytjhajfkfhdnciaa.Pure

/- Runes of texts, and which texts are names, as the program and the document tell it. -/
set_option linter.unusedVariables false
set_option linter.unusedSimpArgs false
namespace Go.Proofs.Ytjhajfkfhdnciaa.Pure
open Go Go.Xw
def oct (m : List UInt8) (k : Nat) : Nat := (m.getD k 0).toNat
theorem oct_lt (m : List UInt8) (k : Nat) : oct m k < 256 := (m.getD k 0).toNat_lt
/-- The first rune, and how many octets it has, out of the first four octets and how many there are. -/
def fst4 (c0 c1 c2 c3 n : Nat) : Nat × Nat :=
  if c0 < 128 then (c0, 1)
  else if (194 ≤ c0 ∧ c0 ≤ 223) ∧ (1 < n ∧ 128 ≤ c1 ∧ c1 ≤ 191) then ((c0 - 192) * 64 + (c1 - 128), 2)
  else if (224 ≤ c0 ∧ c0 ≤ 239) ∧ (1 < n ∧ (if c0 = 224 then 160 else 128) ≤ c1 ∧ c1 ≤ (if c0 = 237 then 159 else 191)) ∧ (2 < n ∧ 128 ≤ c2 ∧ c2 ≤ 191) then ((c0 - 224) * 4096 + (c1 - 128) * 64 + (c2 - 128), 3)
  else if (240 ≤ c0 ∧ c0 ≤ 244) ∧ (1 < n ∧ (if c0 = 240 then 144 else 128) ≤ c1 ∧ c1 ≤ (if c0 = 244 then 143 else 191)) ∧ (2 < n ∧ 128 ≤ c2 ∧ c2 ≤ 191) ∧ (3 < n ∧ 128 ≤ c3 ∧ c3 ≤ 191) then ((c0 - 240) * 262144 + (c1 - 128) * 4096 + (c2 - 128) * 64 + (c3 - 128), 4)
  else (65533, 1)
def first (m : List UInt8) : Nat × Nat := fst4 (oct m 0) (oct m 1) (oct m 2) (oct m 3) m.length
def dec4 (c0 c1 c2 c3 : Nat) (k1 k2 k3 : Bool) : Nat × Nat :=
  if c0 < 0x80 then (c0, 1)
  else if (c0 / 32 == 6 && (k1 && c1 / 64 == 2)) = true then
    (if (c0 % 32) * 64 + c1 % 64 ≥ 0x80 then ((c0 % 32) * 64 + c1 % 64, 2) else (0xFFFD, 1))
  else if (c0 / 16 == 14 && (k1 && c1 / 64 == 2) && (k2 && c2 / 64 == 2)) = true then
    (if (decide ((c0 % 16) * 4096 + (c1 % 64) * 64 + c2 % 64 ≥ 0x800) && Utf8.valid (((c0 % 16) * 4096 + (c1 % 64) * 64 + c2 % 64 : Nat) : Int)) = true then ((c0 % 16) * 4096 + (c1 % 64) * 64 + c2 % 64, 3) else (0xFFFD, 1))
  else if (c0 / 8 == 30 && (k1 && c1 / 64 == 2) && (k2 && c2 / 64 == 2) && (k3 && c3 / 64 == 2)) = true then
    (if (decide ((c0 % 8) * 262144 + (c1 % 64) * 4096 + (c2 % 64) * 64 + c3 % 64 ≥ 0x10000) && Utf8.valid (((c0 % 8) * 262144 + (c1 % 64) * 4096 + (c2 % 64) * 64 + c3 % 64 : Nat) : Int)) = true then ((c0 % 8) * 262144 + (c1 % 64) * 4096 + (c2 % 64) * 64 + c3 % 64, 4) else (0xFFFD, 1))
  else (0xFFFD, 1)
theorem dec_fst {c0 c1 c2 c3 n : Nat} (b0 : c0 < 256) (b1 : c1 < 256) (b2 : c2 < 256) (b3 : c3 < 256) : dec4 c0 c1 c2 c3 (decide (1 < n)) (decide (2 < n)) (decide (3 < n)) = fst4 c0 c1 c2 c3 n := by
  unfold dec4 fst4 Utf8.valid
  simp only [Bool.and_eq_true, Bool.or_eq_true, beq_iff_eq, decide_eq_true_eq]
  by_cases h0 : c0 < 128
  · rw [if_pos h0, if_pos h0]
  · rw [if_neg h0, if_neg h0]
    by_cases k1 : 1 < n ∧ 128 ≤ c1 ∧ c1 ≤ 191
    · have e1 : 1 < n ∧ c1 / 64 = 2 := by omega
      by_cases r2 : 192 ≤ c0 ∧ c0 ≤ 223
      · rw [if_pos (show c0 / 32 = 6 ∧ 1 < n ∧ c1 / 64 = 2 from ⟨by omega, e1⟩)]
        by_cases l2 : 194 ≤ c0
        · rw [if_pos (by omega), if_pos ⟨⟨l2, r2.2⟩, k1⟩]
          exact Prod.ext (by simp only; omega) rfl
        · rw [if_neg (by omega), if_neg (fun x => l2 x.1.1), if_neg (fun x => by have := x.1; omega), if_neg (fun x => by have := x.1; omega)]
      · rw [if_neg (show ¬ (c0 / 32 = 6 ∧ 1 < n ∧ c1 / 64 = 2) from fun x => by have := x.1; omega), if_neg (show ¬ ((194 ≤ c0 ∧ c0 ≤ 223) ∧ (1 < n ∧ 128 ≤ c1 ∧ c1 ≤ 191)) from fun x => by have := x.1; omega)]
        by_cases k2 : 2 < n ∧ 128 ≤ c2 ∧ c2 ≤ 191
        · have e2 : 2 < n ∧ c2 / 64 = 2 := by omega
          by_cases r3 : 224 ≤ c0 ∧ c0 ≤ 239
          · rw [if_pos (show (c0 / 16 = 14 ∧ 1 < n ∧ c1 / 64 = 2) ∧ 2 < n ∧ c2 / 64 = 2 from ⟨⟨by omega, e1⟩, e2⟩)]
            by_cases l3 : (if c0 = 224 then 160 else 128) ≤ c1 ∧ c1 ≤ (if c0 = 237 then 159 else 191)
            · rw [if_pos (show (224 ≤ c0 ∧ c0 ≤ 239) ∧ (1 < n ∧ (if c0 = 224 then 160 else 128) ≤ c1 ∧ c1 ≤ (if c0 = 237 then 159 else 191)) ∧ (2 < n ∧ 128 ≤ c2 ∧ c2 ≤ 191) from ⟨r3, ⟨k1.1, l3⟩, k2⟩)]
              have hl1 : c0 = 224 → 160 ≤ c1 := fun e => by have := l3.1; rwa [if_pos e] at this
              have hl2 : c0 = 237 → c1 ≤ 159 := fun e => by have := l3.2; rwa [if_pos e] at this
              rw [if_pos (by omega)]
              exact Prod.ext (by simp only; omega) rfl
            · rw [if_neg (show ¬ ((224 ≤ c0 ∧ c0 ≤ 239) ∧ (1 < n ∧ (if c0 = 224 then 160 else 128) ≤ c1 ∧ c1 ≤ (if c0 = 237 then 159 else 191)) ∧ (2 < n ∧ 128 ≤ c2 ∧ c2 ≤ 191)) from fun x => l3 x.2.1.2), if_neg (show ¬ ((240 ≤ c0 ∧ c0 ≤ 244) ∧ _) from fun x => by have := x.1; omega)]
              have hl : (c0 = 224 ∧ c1 < 160) ∨ (c0 = 237 ∧ 159 < c1) := by
                by_cases e4 : c0 = 224
                · left
                  refine ⟨e4, ?_⟩
                  apply Classical.byContradiction
                  intro hh
                  apply l3
                  rw [if_pos e4, if_neg (by omega)]
                  omega
                · right
                  by_cases e7 : c0 = 237
                  · refine ⟨e7, ?_⟩
                    apply Classical.byContradiction
                    intro hh
                    apply l3
                    rw [if_neg e4, if_pos e7]
                    omega
                  · exfalso
                    apply l3
                    rw [if_neg e4, if_neg e7]
                    omega
              rw [if_neg (by omega)]
          · rw [if_neg (show ¬ ((c0 / 16 = 14 ∧ 1 < n ∧ c1 / 64 = 2) ∧ 2 < n ∧ c2 / 64 = 2) from fun x => by have := x.1.1; omega), if_neg (show ¬ ((224 ≤ c0 ∧ c0 ≤ 239) ∧ _) from fun x => r3 x.1)]
            by_cases k3 : 3 < n ∧ 128 ≤ c3 ∧ c3 ≤ 191
            · have e3 : 3 < n ∧ c3 / 64 = 2 := by omega
              by_cases r4 : 240 ≤ c0 ∧ c0 ≤ 247
              · rw [if_pos (show ((c0 / 8 = 30 ∧ 1 < n ∧ c1 / 64 = 2) ∧ 2 < n ∧ c2 / 64 = 2) ∧ 3 < n ∧ c3 / 64 = 2 from ⟨⟨⟨by omega, e1⟩, e2⟩, e3⟩)]
                by_cases l4 : c0 ≤ 244 ∧ (if c0 = 240 then 144 else 128) ≤ c1 ∧ c1 ≤ (if c0 = 244 then 143 else 191)
                · rw [if_pos (show (240 ≤ c0 ∧ c0 ≤ 244) ∧ (1 < n ∧ (if c0 = 240 then 144 else 128) ≤ c1 ∧ c1 ≤ (if c0 = 244 then 143 else 191)) ∧ (2 < n ∧ 128 ≤ c2 ∧ c2 ≤ 191) ∧ (3 < n ∧ 128 ≤ c3 ∧ c3 ≤ 191) from ⟨⟨r4.1, l4.1⟩, ⟨k1.1, l4.2⟩, k2, k3⟩)]
                  have hl1 : c0 = 240 → 144 ≤ c1 := fun e => by have := l4.2.1; rwa [if_pos e] at this
                  have hl2 : c0 = 244 → c1 ≤ 143 := fun e => by have := l4.2.2; rwa [if_pos e] at this
                  rw [if_pos (by omega)]
                  exact Prod.ext (by simp only; omega) rfl
                · rw [if_neg (show ¬ ((240 ≤ c0 ∧ c0 ≤ 244) ∧ (1 < n ∧ (if c0 = 240 then 144 else 128) ≤ c1 ∧ c1 ≤ (if c0 = 244 then 143 else 191)) ∧ (2 < n ∧ 128 ≤ c2 ∧ c2 ≤ 191) ∧ (3 < n ∧ 128 ≤ c3 ∧ c3 ≤ 191)) from fun x => l4 ⟨x.1.2, x.2.1.2⟩)]
                  have hl : 244 < c0 ∨ (c0 = 240 ∧ c1 < 144) ∨ (c0 = 244 ∧ 143 < c1) := by
                    by_cases e5 : 244 < c0
                    · exact .inl e5
                    · by_cases e4 : c0 = 240
                      · right
                        left
                        refine ⟨e4, ?_⟩
                        apply Classical.byContradiction
                        intro hh
                        apply l4
                        rw [if_pos e4, if_neg (by omega)]
                        omega
                      · right
                        right
                        by_cases e7 : c0 = 244
                        · refine ⟨e7, ?_⟩
                          apply Classical.byContradiction
                          intro hh
                          apply l4
                          rw [if_neg e4, if_pos e7]
                          omega
                        · exfalso
                          apply l4
                          rw [if_neg e4, if_neg e7]
                          omega
                  rw [if_neg (by omega)]
              · rw [if_neg (show ¬ (((c0 / 8 = 30 ∧ 1 < n ∧ c1 / 64 = 2) ∧ 2 < n ∧ c2 / 64 = 2) ∧ 3 < n ∧ c3 / 64 = 2) from fun x => by have := x.1.1.1; omega), if_neg (show ¬ ((240 ≤ c0 ∧ c0 ≤ 244) ∧ _) from fun x => by have := x.1; omega)]
            · rw [if_neg (show ¬ (((c0 / 8 = 30 ∧ 1 < n ∧ c1 / 64 = 2) ∧ 2 < n ∧ c2 / 64 = 2) ∧ 3 < n ∧ c3 / 64 = 2) from fun x => k3 (by have := x.2; omega)), if_neg (fun x => k3 x.2.2.2)]
        · rw [if_neg (show ¬ ((c0 / 16 = 14 ∧ 1 < n ∧ c1 / 64 = 2) ∧ 2 < n ∧ c2 / 64 = 2) from fun x => k2 (by have := x.2; omega)), if_neg (show ¬ (((c0 / 8 = 30 ∧ 1 < n ∧ c1 / 64 = 2) ∧ 2 < n ∧ c2 / 64 = 2) ∧ 3 < n ∧ c3 / 64 = 2) from fun x => k2 (by have := x.1.2; omega)), if_neg (fun x => k2 x.2.2), if_neg (fun x => k2 x.2.2.1)]
    · have q3 : (224 ≤ c0 ∧ c0 ≤ 239) ∧ (1 < n ∧ (if c0 = 224 then 160 else 128) ≤ c1 ∧ c1 ≤ (if c0 = 237 then 159 else 191)) ∧ (2 < n ∧ 128 ≤ c2 ∧ c2 ≤ 191) → False := by
        rintro ⟨_, ⟨h1, h2, h3⟩, _⟩
        have h4 : (128 : Nat) ≤ if c0 = 224 then 160 else 128 := by split <;> omega
        have h5 : (if c0 = 237 then 159 else 191) ≤ 191 := by split <;> omega
        exact k1 ⟨h1, by omega, by omega⟩
      have q4 : (240 ≤ c0 ∧ c0 ≤ 244) ∧ (1 < n ∧ (if c0 = 240 then 144 else 128) ≤ c1 ∧ c1 ≤ (if c0 = 244 then 143 else 191)) ∧ (2 < n ∧ 128 ≤ c2 ∧ c2 ≤ 191) ∧ (3 < n ∧ 128 ≤ c3 ∧ c3 ≤ 191) → False := by
        rintro ⟨_, ⟨h1, h2, h3⟩, _⟩
        have h4 : (128 : Nat) ≤ if c0 = 240 then 144 else 128 := by split <;> omega
        have h5 : (if c0 = 244 then 143 else 191) ≤ 191 := by split <;> omega
        exact k1 ⟨h1, by omega, by omega⟩
      rw [if_neg (show ¬ (c0 / 32 = 6 ∧ 1 < n ∧ c1 / 64 = 2) from fun x => k1 (by have := x.2; omega)), if_neg (show ¬ ((c0 / 16 = 14 ∧ 1 < n ∧ c1 / 64 = 2) ∧ 2 < n ∧ c2 / 64 = 2) from fun x => k1 (by have := x.1.2; omega)), if_neg (show ¬ (((c0 / 8 = 30 ∧ 1 < n ∧ c1 / 64 = 2) ∧ 2 < n ∧ c2 / 64 = 2) ∧ 3 < n ∧ c3 / 64 = 2) from fun x => k1 (by have := x.1.1.2; omega)), if_neg (fun x => k1 x.2), if_neg q3, if_neg q4]
theorem decode_eq (l : List UInt8) (i : Nat) : Utf8.decode ⟨l.toArray⟩ i = first (l.drop i) := by
  have hg : ∀ k, ((⟨l.toArray⟩ : ByteArray).get! (i + k)).toNat = oct (l.drop i) k := by
    intro k
    unfold oct
    rw [List.getD_eq_getElem?_getD, List.getElem?_drop]
    show ((l.toArray)[i + k]!).toNat = _
    rw [getElem!_def]
    simp
    cases l[i + k]? <;> rfl
  have hs : ∀ k, decide (i + k < (⟨l.toArray⟩ : ByteArray).size) = decide (k < (l.drop i).length) := by
    intro k
    apply decide_eq_decide.2
    rw [List.length_drop]
    show i + k < l.toArray.size ↔ _
    rw [List.size_toArray]
    omega
  have e : Utf8.decode ⟨l.toArray⟩ i = dec4 (oct (l.drop i) 0) (oct (l.drop i) 1) (oct (l.drop i) 2) (oct (l.drop i) 3) (decide (1 < (l.drop i).length)) (decide (2 < (l.drop i).length)) (decide (3 < (l.drop i).length)) := by
    unfold Utf8.decode dec4
    simp only [hg, hs, Utf8.runeError]
  rw [e]
  exact dec_fst (oct_lt _ _) (oct_lt _ _) (oct_lt _ _) (oct_lt _ _)
theorem first_wide {m : List UInt8} (h : 0 < m.length) : 1 ≤ (first m).2 ∧ (first m).2 ≤ m.length := by
  unfold first
  generalize oct m 0 = c0
  generalize oct m 1 = c1
  generalize oct m 2 = c2
  generalize oct m 3 = c3
  generalize m.length = n at *
  unfold fst4
  by_cases h0 : c0 < 128
  · rw [if_pos h0]
    exact ⟨Nat.le_refl _, h⟩
  · rw [if_neg h0]
    by_cases h2 : (194 ≤ c0 ∧ c0 ≤ 223) ∧ (1 < n ∧ 128 ≤ c1 ∧ c1 ≤ 191)
    · rw [if_pos h2]
      have := h2.2.1
      exact ⟨by simp, by simp only; omega⟩
    · rw [if_neg h2]
      by_cases h3 : (224 ≤ c0 ∧ c0 ≤ 239) ∧ (1 < n ∧ (if c0 = 224 then 160 else 128) ≤ c1 ∧ c1 ≤ (if c0 = 237 then 159 else 191)) ∧ (2 < n ∧ 128 ≤ c2 ∧ c2 ≤ 191)
      · rw [if_pos h3]
        have := h3.2.2.1
        exact ⟨by simp, by simp only; omega⟩
      · rw [if_neg h3]
        by_cases h4 : (240 ≤ c0 ∧ c0 ≤ 244) ∧ (1 < n ∧ (if c0 = 240 then 144 else 128) ≤ c1 ∧ c1 ≤ (if c0 = 244 then 143 else 191)) ∧ (2 < n ∧ 128 ≤ c2 ∧ c2 ≤ 191) ∧ (3 < n ∧ 128 ≤ c3 ∧ c3 ≤ 191)
        · rw [if_pos h4]
          have := h4.2.2.2.1
          exact ⟨by simp, by simp only; omega⟩
        · rw [if_neg h4]
          exact ⟨Nat.le_refl _, h⟩
end Go.Proofs.Ytjhajfkfhdnciaa.Pure

/- Which texts are names. -/
set_option linter.unusedVariables false
set_option linter.unusedSimpArgs false
namespace Go.Proofs.Ytjhajfkfhdnciaa.Pure
open Go Go.Xw
theorem rune_first (s : List UInt8) (i : Nat) : runeAt s (i : Int) = ((first (s.drop i)).1 : Int) ∧ wideAt s (i : Int) = ((first (s.drop i)).2 : Int) := by
  unfold runeAt wideAt
  rw [Int.toNat_natCast, decode_eq]
  exact ⟨rfl, rfl⟩
theorem follows_eq (fu : Nat) (m : List UInt8) (k : Nat) (lo hi : Int) : rickyardref04_follows.f fu m (k : Int) lo hi = some (decide (k < m.length ∧ lo ≤ (oct m k : Int) ∧ (oct m k : Int) ≤ hi)) := by
  unfold rickyardref04_follows.f
  have e : ofB (List.getD m (Int.toNat (k : Int)) 0) = (oct m k : Int) := rfl
  rw [e]
  by_cases h1 : k < m.length
  · have h1' : (k : Int) < (m.length : Int) := by omega
    have c1 : 0 ≤ (k : Int) ∧ (k : Int) < (m.length : Int) := by omega
    rw [decide_eq_true h1', if_pos rfl, if_pos c1]
    by_cases h2 : (oct m k : Int) ≥ lo
    · rw [decide_eq_true h2, if_pos rfl, if_pos c1]
      exact congrArg some (decide_eq_decide.2 ⟨fun x => ⟨h1, h2, x⟩, fun x => x.2.2⟩)
    · rw [decide_eq_false h2, decide_eq_false (fun x : k < m.length ∧ lo ≤ (oct m k : Int) ∧ (oct m k : Int) ≤ hi => h2 x.2.1)]
      rfl
  · have h1' : ¬ (k : Int) < (m.length : Int) := by omega
    rw [decide_eq_false h1', decide_eq_false (fun x : k < m.length ∧ lo ≤ (oct m k : Int) ∧ (oct m k : Int) ≤ hi => h1 x.1)]
    rfl
theorem wrap8 {c k : Nat} (h : k ≤ c) (hc : c < 256) : IntKind.i64.wrap (IntKind.u8.wrap ((c : Int) - (k : Int))) = ((c - k : Nat) : Int) := by
  rw [wu8 (by omega) (by omega), w64 (by omega) (by omega)]
  omega
theorem first_eq {fu : Nat} {m : List UInt8} (hm : 0 < m.length) : rickyardref04_First.f fu m = some (((first m).1 : Int), ((first m).2 : Int)) := by
  unfold rickyardref04_First.f
  have hm' : (0 : Int) < (m.length : Int) := by omega
  have o0 : ofB (List.getD m (Int.toNat 0) 0) = (oct m 0 : Int) := rfl
  have o1 : ofB (List.getD m (Int.toNat 1) 0) = (oct m 1 : Int) := rfl
  have o2 : ofB (List.getD m (Int.toNat 2) 0) = (oct m 2 : Int) := rfl
  have o3 : ofB (List.getD m (Int.toNat 3) 0) = (oct m 3 : Int) := rfl
  have b0 := oct_lt m 0
  have b1 := oct_lt m 1
  have b2 := oct_lt m 2
  have b3 := oct_lt m 3
  have f1 := fun lo hi => follows_eq fu m 1 lo hi
  have f2 := fun lo hi => follows_eq fu m 2 lo hi
  have f3 := fun lo hi => follows_eq fu m 3 lo hi
  rw [show ((1 : Nat) : Int) = 1 from rfl] at f1
  rw [show ((2 : Nat) : Int) = 2 from rfl] at f2
  rw [show ((3 : Nat) : Int) = 3 from rfl] at f3
  rw [if_pos hm']
  simp only [o0, o1, o2, o3, f1, f2, f3, Option.bind_some]
  unfold first
  generalize oct m 0 = c0 at *
  generalize oct m 1 = c1 at *
  generalize oct m 2 = c2 at *
  generalize oct m 3 = c3 at *
  generalize m.length = n at *
  unfold fst4
  by_cases h0 : c0 < 128
  · have h0' : (c0 : Int) < 128 := by omega
    rw [decide_eq_true h0', if_pos rfl, if_pos h0, w64 (by omega) (by omega)]
    rfl
  · have h0' : ¬ (c0 : Int) < 128 := by omega
    rw [decide_eq_false h0', if_neg (by decide), if_neg h0]
    by_cases h2 : (194 ≤ c0 ∧ c0 ≤ 223) ∧ (1 < n ∧ 128 ≤ c1 ∧ c1 ≤ 191)
    · obtain ⟨⟨r1, r2⟩, k1⟩ := h2
      have g1 : (c0 : Int) ≥ 194 := by omega
      have g2 : (c0 : Int) ≤ 223 := by omega
      have g3 : 1 < n ∧ (128 : Int) ≤ (c1 : Int) ∧ (c1 : Int) ≤ 191 := by omega
      have g4 : (1 : Int) < (n : Int) := by omega
      have w1 : IntKind.i64.wrap (IntKind.u8.wrap ((c0 : Int) - 192)) = ((c0 - 192 : Nat) : Int) := wrap8 (k := 192) (by omega) b0
      have w2 : IntKind.i64.wrap (IntKind.u8.wrap ((c1 : Int) - 128)) = ((c1 - 128 : Nat) : Int) := wrap8 (k := 128) (by omega) b1
      rw [if_pos (show (194 ≤ c0 ∧ c0 ≤ 223) ∧ (1 < n ∧ 128 ≤ c1 ∧ c1 ≤ 191) from ⟨⟨r1, r2⟩, k1⟩), decide_eq_true g1, decide_eq_true g2, decide_eq_true g3, w1, w2, w64 (n := ((c0 - 192 : Nat) : Int) * 64) (by omega) (by omega), w64 (by omega) (by omega)]
      simp only [if_true, Option.bind_some, if_pos g4]
      exact congrArg some (Prod.ext (by simp) rfl)
    · rw [if_neg h2]
      have x3 : (if decide ((c0 : Int) ≥ 194) = true then (if decide ((c0 : Int) ≤ 223) = true then (some (decide (1 < n ∧ (128 : Int) ≤ (c1 : Int) ∧ (c1 : Int) ≤ 191))).bind fun t7 => some t7 else some false) else some false) = some false := by
        by_cases g1 : (c0 : Int) ≥ 194
        · by_cases g2 : (c0 : Int) ≤ 223
          · have g3 : ¬ (1 < n ∧ (128 : Int) ≤ (c1 : Int) ∧ (c1 : Int) ≤ 191) := fun x => h2 ⟨by omega, by omega⟩
            rw [decide_eq_true g1, decide_eq_true g2, decide_eq_false g3]
            rfl
          · rw [decide_eq_true g1, decide_eq_false g2]
            rfl
        · rw [decide_eq_false g1]
          rfl
      simp only [Option.bind_some] at x3
      rw [x3, Option.bind_some, if_neg (by decide)]
      by_cases r3 : 224 ≤ c0 ∧ c0 ≤ 239
      · have g1 : (c0 : Int) ≥ 224 := by omega
        have g2 : (c0 : Int) ≤ 239 := by omega
        rw [decide_eq_true g1, decide_eq_true g2]
        have x23 : (if decide ((c0 : Int) = 224) = true then some (160 : Int) else some 128) = some (((if c0 = 224 then 160 else 128 : Nat) : Int)) := by
          by_cases e : c0 = 224
          · rw [decide_eq_true (by omega : (c0 : Int) = 224), if_pos e]
            rfl
          · rw [decide_eq_false (by omega : ¬ (c0 : Int) = 224), if_neg e]
            rfl
        have x29 : (if decide ((c0 : Int) = 237) = true then some (159 : Int) else some 191) = some (((if c0 = 237 then 159 else 191 : Nat) : Int)) := by
          by_cases e : c0 = 237
          · rw [decide_eq_true (by omega : (c0 : Int) = 237), if_pos e]
            rfl
          · rw [decide_eq_false (by omega : ¬ (c0 : Int) = 237), if_neg e]
            rfl
        simp only [if_true, x23, x29, Option.bind_some]
        have n4 : ¬ ((240 ≤ c0 ∧ c0 ≤ 244) ∧ (1 < n ∧ (if c0 = 240 then 144 else 128) ≤ c1 ∧ c1 ≤ (if c0 = 244 then 143 else 191)) ∧ (2 < n ∧ 128 ≤ c2 ∧ c2 ≤ 191) ∧ (3 < n ∧ 128 ≤ c3 ∧ c3 ≤ 191)) := fun x => by have := x.1; omega
        by_cases a1 : 1 < n ∧ (if c0 = 224 then 160 else 128) ≤ c1 ∧ c1 ≤ (if c0 = 237 then 159 else 191)
        · have a1' : 1 < n ∧ (((if c0 = 224 then 160 else 128 : Nat) : Int)) ≤ (c1 : Int) ∧ (c1 : Int) ≤ (((if c0 = 237 then 159 else 191 : Nat) : Int)) := ⟨a1.1, Int.ofNat_le.2 a1.2.1, Int.ofNat_le.2 a1.2.2⟩
          rw [decide_eq_true a1']
          by_cases a2 : 2 < n ∧ 128 ≤ c2 ∧ c2 ≤ 191
          · have a2' : 2 < n ∧ (128 : Int) ≤ (c2 : Int) ∧ (c2 : Int) ≤ 191 := by omega
            have q1 : (128 : Nat) ≤ if c0 = 224 then 160 else 128 := by split <;> omega
            have k1 : 128 ≤ c1 := Nat.le_trans q1 a1.2.1
            have g4 : (1 : Int) < (n : Int) := by omega
            have g5 : (2 : Int) < (n : Int) := by omega
            have w0 : IntKind.i64.wrap (IntKind.u8.wrap ((c0 : Int) - 224)) = ((c0 - 224 : Nat) : Int) := wrap8 (k := 224) (by omega) b0
            have w1 : IntKind.i64.wrap (IntKind.u8.wrap ((c1 : Int) - 128)) = ((c1 - 128 : Nat) : Int) := wrap8 (k := 128) (by omega) b1
            have w2 : IntKind.i64.wrap (IntKind.u8.wrap ((c2 : Int) - 128)) = ((c2 - 128 : Nat) : Int) := wrap8 (k := 128) (by omega) b2
            rw [decide_eq_true a2', if_pos (show (224 ≤ c0 ∧ c0 ≤ 239) ∧ (1 < n ∧ (if c0 = 224 then 160 else 128) ≤ c1 ∧ c1 ≤ (if c0 = 237 then 159 else 191)) ∧ (2 < n ∧ 128 ≤ c2 ∧ c2 ≤ 191) from ⟨r3, a1, a2⟩)]
            simp only [if_true, Option.bind_some, if_pos g4, if_pos g5, w0, w1, w2]
            rw [w64 (n := ((c0 - 224 : Nat) : Int) * 4096) (by omega) (by omega), w64 (n := ((c1 - 128 : Nat) : Int) * 64) (by omega) (by omega), w64 (n := ((c0 - 224 : Nat) : Int) * 4096 + ((c1 - 128 : Nat) : Int) * 64) (by omega) (by omega), w64 (by omega) (by omega)]
            exact congrArg some (Prod.ext (by simp) rfl)
          · have a2' : ¬ (2 < n ∧ (128 : Int) ≤ (c2 : Int) ∧ (c2 : Int) ≤ 191) := by omega
            rw [decide_eq_false a2', if_neg (show ¬ ((224 ≤ c0 ∧ c0 ≤ 239) ∧ (1 < n ∧ (if c0 = 224 then 160 else 128) ≤ c1 ∧ c1 ≤ (if c0 = 237 then 159 else 191)) ∧ (2 < n ∧ 128 ≤ c2 ∧ c2 ≤ 191)) from fun x => a2 x.2.2), if_neg n4]
            rfl
        · have a1' : ¬ (1 < n ∧ (((if c0 = 224 then 160 else 128 : Nat) : Int)) ≤ (c1 : Int) ∧ (c1 : Int) ≤ (((if c0 = 237 then 159 else 191 : Nat) : Int))) := fun x => a1 ⟨x.1, Int.ofNat_le.1 x.2.1, Int.ofNat_le.1 x.2.2⟩
          rw [decide_eq_false a1', if_neg (show ¬ ((224 ≤ c0 ∧ c0 ≤ 239) ∧ (1 < n ∧ (if c0 = 224 then 160 else 128) ≤ c1 ∧ c1 ≤ (if c0 = 237 then 159 else 191)) ∧ (2 < n ∧ 128 ≤ c2 ∧ c2 ≤ 191)) from fun x => a1 x.2.1), if_neg n4]
          rfl
      · have x9 : (if decide ((c0 : Int) ≥ 224) = true then decide ((c0 : Int) ≤ 239) else false) = false := by
          by_cases g1 : (c0 : Int) ≥ 224
          · rw [decide_eq_true g1, if_pos rfl, decide_eq_false (by omega)]
          · rw [decide_eq_false g1]
            rfl
        rw [x9, if_neg (by decide), if_neg (show ¬ ((224 ≤ c0 ∧ c0 ≤ 239) ∧ _) from fun x => r3 x.1)]
        by_cases r4 : 240 ≤ c0 ∧ c0 ≤ 244
        · have g1 : (c0 : Int) ≥ 240 := by omega
          have g2 : (c0 : Int) ≤ 244 := by omega
          rw [decide_eq_true g1, decide_eq_true g2]
          have x62 : (if decide ((c0 : Int) = 240) = true then some (144 : Int) else some 128) = some (((if c0 = 240 then 144 else 128 : Nat) : Int)) := by
            by_cases e : c0 = 240
            · rw [decide_eq_true (by omega : (c0 : Int) = 240), if_pos e]
              rfl
            · rw [decide_eq_false (by omega : ¬ (c0 : Int) = 240), if_neg e]
              rfl
          have x68 : (if decide ((c0 : Int) = 244) = true then some (143 : Int) else some 191) = some (((if c0 = 244 then 143 else 191 : Nat) : Int)) := by
            by_cases e : c0 = 244
            · rw [decide_eq_true (by omega : (c0 : Int) = 244), if_pos e]
              rfl
            · rw [decide_eq_false (by omega : ¬ (c0 : Int) = 244), if_neg e]
              rfl
          simp only [if_true, x62, x68, Option.bind_some]
          by_cases a1 : 1 < n ∧ (if c0 = 240 then 144 else 128) ≤ c1 ∧ c1 ≤ (if c0 = 244 then 143 else 191)
          · have a1' : 1 < n ∧ (((if c0 = 240 then 144 else 128 : Nat) : Int)) ≤ (c1 : Int) ∧ (c1 : Int) ≤ (((if c0 = 244 then 143 else 191 : Nat) : Int)) := ⟨a1.1, Int.ofNat_le.2 a1.2.1, Int.ofNat_le.2 a1.2.2⟩
            rw [decide_eq_true a1']
            by_cases a2 : 2 < n ∧ 128 ≤ c2 ∧ c2 ≤ 191
            · have a2' : 2 < n ∧ (128 : Int) ≤ (c2 : Int) ∧ (c2 : Int) ≤ 191 := by omega
              rw [decide_eq_true a2']
              by_cases a3 : 3 < n ∧ 128 ≤ c3 ∧ c3 ≤ 191
              · have a3' : 3 < n ∧ (128 : Int) ≤ (c3 : Int) ∧ (c3 : Int) ≤ 191 := by omega
                have q1 : (128 : Nat) ≤ if c0 = 240 then 144 else 128 := by split <;> omega
                have k1 : 128 ≤ c1 := Nat.le_trans q1 a1.2.1
                have g4 : (1 : Int) < (n : Int) := by omega
                have g5 : (2 : Int) < (n : Int) := by omega
                have g6 : (3 : Int) < (n : Int) := by omega
                have w0 : IntKind.i64.wrap (IntKind.u8.wrap ((c0 : Int) - 240)) = ((c0 - 240 : Nat) : Int) := wrap8 (k := 240) (by omega) b0
                have w1 : IntKind.i64.wrap (IntKind.u8.wrap ((c1 : Int) - 128)) = ((c1 - 128 : Nat) : Int) := wrap8 (k := 128) (by omega) b1
                have w2 : IntKind.i64.wrap (IntKind.u8.wrap ((c2 : Int) - 128)) = ((c2 - 128 : Nat) : Int) := wrap8 (k := 128) (by omega) b2
                have w3 : IntKind.i64.wrap (IntKind.u8.wrap ((c3 : Int) - 128)) = ((c3 - 128 : Nat) : Int) := wrap8 (k := 128) (by omega) b3
                rw [decide_eq_true a3', if_pos (show (240 ≤ c0 ∧ c0 ≤ 244) ∧ (1 < n ∧ (if c0 = 240 then 144 else 128) ≤ c1 ∧ c1 ≤ (if c0 = 244 then 143 else 191)) ∧ (2 < n ∧ 128 ≤ c2 ∧ c2 ≤ 191) ∧ (3 < n ∧ 128 ≤ c3 ∧ c3 ≤ 191) from ⟨r4, a1, a2, a3⟩)]
                simp only [if_true, Option.bind_some, if_pos g4, if_pos g5, if_pos g6, w0, w1, w2, w3]
                rw [w64 (n := ((c0 - 240 : Nat) : Int) * 262144) (by omega) (by omega), w64 (n := ((c1 - 128 : Nat) : Int) * 4096) (by omega) (by omega), w64 (n := ((c2 - 128 : Nat) : Int) * 64) (by omega) (by omega), w64 (n := ((c0 - 240 : Nat) : Int) * 262144 + ((c1 - 128 : Nat) : Int) * 4096) (by omega) (by omega), w64 (n := ((c0 - 240 : Nat) : Int) * 262144 + ((c1 - 128 : Nat) : Int) * 4096 + ((c2 - 128 : Nat) : Int) * 64) (by omega) (by omega), w64 (by omega) (by omega)]
                exact congrArg some (Prod.ext (by simp) rfl)
              · have a3' : ¬ (3 < n ∧ (128 : Int) ≤ (c3 : Int) ∧ (c3 : Int) ≤ 191) := by omega
                rw [decide_eq_false a3', if_neg (show ¬ ((240 ≤ c0 ∧ c0 ≤ 244) ∧ (1 < n ∧ (if c0 = 240 then 144 else 128) ≤ c1 ∧ c1 ≤ (if c0 = 244 then 143 else 191)) ∧ (2 < n ∧ 128 ≤ c2 ∧ c2 ≤ 191) ∧ (3 < n ∧ 128 ≤ c3 ∧ c3 ≤ 191)) from fun x => a3 x.2.2.2)]
                rfl
            · have a2' : ¬ (2 < n ∧ (128 : Int) ≤ (c2 : Int) ∧ (c2 : Int) ≤ 191) := by omega
              rw [decide_eq_false a2', if_neg (show ¬ ((240 ≤ c0 ∧ c0 ≤ 244) ∧ (1 < n ∧ (if c0 = 240 then 144 else 128) ≤ c1 ∧ c1 ≤ (if c0 = 244 then 143 else 191)) ∧ (2 < n ∧ 128 ≤ c2 ∧ c2 ≤ 191) ∧ (3 < n ∧ 128 ≤ c3 ∧ c3 ≤ 191)) from fun x => a2 x.2.2.1)]
              rfl
          · have a1' : ¬ (1 < n ∧ (((if c0 = 240 then 144 else 128 : Nat) : Int)) ≤ (c1 : Int) ∧ (c1 : Int) ≤ (((if c0 = 244 then 143 else 191 : Nat) : Int))) := fun x => a1 ⟨x.1, Int.ofNat_le.1 x.2.1, Int.ofNat_le.1 x.2.2⟩
            rw [decide_eq_false a1', if_neg (show ¬ ((240 ≤ c0 ∧ c0 ≤ 244) ∧ (1 < n ∧ (if c0 = 240 then 144 else 128) ≤ c1 ∧ c1 ≤ (if c0 = 244 then 143 else 191)) ∧ (2 < n ∧ 128 ≤ c2 ∧ c2 ≤ 191) ∧ (3 < n ∧ 128 ≤ c3 ∧ c3 ≤ 191)) from fun x => a1 x.2.1)]
            rfl
        · have x9 : (if decide ((c0 : Int) ≥ 240) = true then decide ((c0 : Int) ≤ 244) else false) = false := by
            by_cases g1 : (c0 : Int) ≥ 240
            · rw [decide_eq_true g1, if_pos rfl, decide_eq_false (by omega)]
            · rw [decide_eq_false g1]
              rfl
          rw [x9, if_neg (by decide), if_neg (show ¬ ((240 ≤ c0 ∧ c0 ≤ 244) ∧ _) from fun x => r4 x.1)]
          rfl
/-! ### Runes -/
def rs : Nat → List UInt8 → List Int
  | 0, _ => []
  | k + 1, m => if m = [] then [] else ((first m).1 : Int) :: rs k (m.drop (first m).2)
theorem rs_len : ∀ (k : Nat) (m : List UInt8), (rs k m).length ≤ m.length
  | 0, _ => by simp [rs]
  | k + 1, m => by
    unfold rs
    split
    · simp
    · rename_i hm
      have h1 := first_wide (List.length_pos_iff.2 hm)
      have h2 := rs_len k (m.drop (first m).2)
      rw [List.length_drop] at h2
      simp only [List.length_cons]
      omega
theorem rrunes_from (fu : Nat) : ∀ (k : Nat) (m : List UInt8) (out : List Int), m.length ≤ k → out.length + m.length ≤ 900 → loopM (rickyardref04_Runes.s0 fu) (k + 1) (m, out) = some (out ++ rs k m)
  | 0, m, out, hk, _ => by
    obtain rfl : m = [] := List.eq_nil_of_length_eq_zero (by omega)
    simp [loopM, rickyardref04_Runes.s0, rs]
  | k + 1, m, out, hk, hl => by
    by_cases hm : m = []
    · subst hm
      simp [loopM, rickyardref04_Runes.s0, rs]
    · have hp := List.length_pos_iff.2 hm
      obtain ⟨h1, h2⟩ := first_wide hp
      have hst : rickyardref04_Runes.s0 fu (m, out) = some (.inr (m.drop (first m).2, out ++ [((first m).1 : Int)])) := by
        unfold rickyardref04_Runes.s0
        have c0 : (m.length : Int) > 0 := by omega
        have c1 : 0 ≤ ((first m).2 : Int) ∧ ((first m).2 : Int) ≤ (m.length : Int) := by omega
        have hlim : out.length + ([((first m).1 : Int)] : List Int).length ≤ LIM := lim_of' (by simp; omega)
        have ec : cut m ((first m).2 : Int) (m.length : Int) = m.drop (first m).2 := by
          unfold cut
          rw [Int.toNat_natCast, Int.toNat_natCast, List.take_length]
        simp only [c0, decide_true, if_true, first_eq hp, Option.bind_some, if_pos hlim, if_pos c1, ec]
      have hu : loopM (rickyardref04_Runes.s0 fu) (k + 1 + 1) (m, out) = loopM (rickyardref04_Runes.s0 fu) (k + 1) (m.drop (first m).2, out ++ [((first m).1 : Int)]) := by
        conv => lhs; unfold loopM
        rw [hst]
      rw [hu, rrunes_from fu k _ _ (by rw [List.length_drop]; omega) (by rw [List.length_append, List.length_drop]; simp; omega)]
      have : rs (k + 1) m = ((first m).1 : Int) :: rs k (m.drop (first m).2) := by
        conv => lhs; unfold rs
        rw [if_neg hm]
      rw [this]
      simp
theorem rrunes_eq {m : List UInt8} (hm : m.length ≤ 300) : rickyardref04_Runes.f 400 m = some (rs 399 m) := by
  unfold rickyardref04_Runes.f
  rw [rrunes_from 400 399 m [] (by omega) (by simp; omega)]
  rfl
/-! ### Which runes -/
def runeOk (r : Int) : Prop := (97 ≤ r ∧ r ≤ 122) ∨ (65 ≤ r ∧ r ≤ 90) ∨ (48 ≤ r ∧ r ≤ 57) ∨ r = 45 ∨ r = 95 ∨ (161 ≤ r ∧ r ≤ 65519)
instance (r : Int) : Decidable (runeOk r) := inferInstanceAs (Decidable (_ ∨ _))
theorem rof_eq (fu : Nat) (r : Int) : rickyardref04_Of.f fu r = some (decide (runeOk r)) := by
  unfold rickyardref04_Of.f
  simp only [decide_eq_true_eq]
  apply congrArg some
  repeat' split
  all_goals first
    | exact (decide_eq_true (by unfold runeOk; omega)).symm
    | exact (decide_eq_false (by unfold runeOk; omega)).symm
    | exact decide_eq_decide.2 (by unfold runeOk; omega)
def spanOf (j : Nat) (r : Int) : Prop := if j = 0 then 97 ≤ r ∧ r ≤ 122 else if j = 1 then 65 ≤ r ∧ r ≤ 90 else if j = 2 then 48 ≤ r ∧ r ≤ 57 else if j = 3 then r = 45 else if j = 4 then r = 95 else 161 ≤ r ∧ r ≤ 65519
theorem of_eq {fu : Nat} (r : Int) (hf : 100 < fu) : name_Of.f fu r = some (decide (runeOk r)) := by
  unfold name_Of.f name_spans.f
  rw [Option.bind_some]
  obtain ⟨A, hA⟩ : ∃ A, A = Arr.set (Arr.set (Arr.set (Arr.set (Arr.set (Arr.set (Arr.rep 6 (⟨(0 : Int), (0 : Int)⟩ : S_name_span)) 0 (⟨97, 122⟩ : S_name_span)) 1 (⟨65, 90⟩ : S_name_span)) 2 (⟨48, 57⟩ : S_name_span)) 3 (⟨45, 45⟩ : S_name_span)) 4 (⟨95, 95⟩ : S_name_span)) 5 (⟨161, 65519⟩ : S_name_span) := ⟨_, rfl⟩
  have g : Arr.get A ((0 : Nat) : Int) = ⟨97, 122⟩ ∧ Arr.get A ((1 : Nat) : Int) = ⟨65, 90⟩ ∧ Arr.get A ((2 : Nat) : Int) = ⟨48, 57⟩ ∧ Arr.get A ((3 : Nat) : Int) = ⟨45, 45⟩ ∧ Arr.get A ((4 : Nat) : Int) = ⟨95, 95⟩ ∧ Arr.get A ((5 : Nat) : Int) = ⟨161, 65519⟩ := by
    subst hA
    exact ⟨rfl, rfl, rfl, rfl, rfl, rfl⟩
  obtain ⟨g0, g1, g2, g3, g4, g5⟩ := g
  rw [← hA]
  have hs : ∀ j : Nat, j < 6 → name_Of.s0 fu r A (j : Int) = some (if (Arr.get A (j : Int)).first ≤ r ∧ r ≤ (Arr.get A (j : Int)).last then .inl (.inl true) else .inr ((j + 1 : Nat) : Int)) := by
    intro j hj
    unfold name_Of.s0
    have h1 : (j : Int) < 6 := by omega
    have c0 : 0 ≤ (j : Int) ∧ True := ⟨by omega, trivial⟩
    have w3 : IntKind.i64.wrap ((j : Int) + 1) = ((j + 1 : Nat) : Int) := by rw [w64 (by omega) (by omega)]; omega
    simp only [h1, decide_true, if_true, w3, if_pos c0]
    by_cases a1 : (Arr.get A (j : Int)).first ≤ r
    · by_cases a2 : r ≤ (Arr.get A (j : Int)).last <;> simp [a1, a2]
    · simp [a1]
  have six : ∀ p : Nat → Prop, (∀ j, j < 6 → p j) ↔ (p 0 ∧ p 1 ∧ p 2 ∧ p 3 ∧ p 4 ∧ p 5) := by
    intro p
    constructor
    · intro h
      exact ⟨h 0 (by omega), h 1 (by omega), h 2 (by omega), h 3 (by omega), h 4 (by omega), h 5 (by omega)⟩
    · rintro ⟨h0, h1, h2, h3, h4, h5⟩ j hj
      have : j = 0 ∨ j = 1 ∨ j = 2 ∨ j = 3 ∨ j = 4 ∨ j = 5 := by omega
      rcases this with rfl | rfl | rfl | rfl | rfl | rfl <;> assumption
  have hall : (∀ j : Nat, j < 6 → ¬ ((Arr.get A (j : Int)).first ≤ r ∧ r ≤ (Arr.get A (j : Int)).last)) ↔ ¬ runeOk r := by
    rw [six fun (j : Nat) => ¬ ((Arr.get A (j : Int)).first ≤ r ∧ r ≤ (Arr.get A (j : Int)).last)]
    rw [g0, g1, g2, g3, g4, g5]
    unfold runeOk
    simp only
    omega
  by_cases hr : runeOk r
  · have : loopM (name_Of.s0 fu r A) fu 0 = some (.inl true) := by
      refine loopM_bad (S := fun j => (j : Int)) 6 (fun j => ¬ ((Arr.get A (j : Int)).first ≤ r ∧ r ≤ (Arr.get A (j : Int)).last)) rfl ?_ (fun j hj _ hg => by rw [hs j hj, if_neg hg]) (fun j hj _ hg => by rw [hs j hj, if_pos (Classical.byContradiction hg)]) (by omega)
      apply Classical.byContradiction
      intro hx
      exact hall.1 (fun j hj hg => hx ⟨j, hj, fun q => q hg⟩) hr
    rw [this, decide_eq_true hr]
    rfl
  · have : loopM (name_Of.s0 fu r A) fu 0 = some (.inr ()) := by
      refine loopM_run (S := fun j => (j : Int)) 6 rfl (fun j hj => by rw [hs j hj, if_neg (hall.2 hr j hj)]) ?_ (by omega)
      unfold name_Of.s0
      simp
    rw [this, decide_eq_false hr]
    rfl
/-! ### Names -/
def NameOk (s : List UInt8) : Prop := (0 < (rs 399 s).length ∧ (rs 399 s).length ≤ 8) ∧ ∀ r ∈ rs 399 s, runeOk r
instance (s : List UInt8) : Decidable (NameOk s) := inferInstanceAs (Decidable (_ ∧ _))
theorem rname_eq {s : List UInt8} (hs : s.length ≤ 300) : rickyardref04_Right.f 400 s = some (decide (NameOk s)) := by
  unfold rickyardref04_Right.f
  rw [rrunes_eq hs, Option.bind_some]
  have hrl := rs_len 399 s
  have hL : NameOk s ↔ (0 < (rs 399 s).length ∧ (rs 399 s).length ≤ 8) ∧ ∀ r ∈ rs 399 s, runeOk r := Iff.rfl
  generalize rs 399 s = L at *
  have c0 : (if decide ((L.length : Int) > 0) = true then decide ((L.length : Int) ≤ 8) else false) = decide (0 < L.length ∧ L.length ≤ 8) := by
    by_cases h1 : (L.length : Int) > 0
    · rw [decide_eq_true h1, if_pos rfl]
      exact decide_eq_decide.2 (by omega)
    · rw [decide_eq_false h1, decide_eq_false (fun x : 0 < L.length ∧ L.length ≤ 8 => by have := x.1; omega)]
      rfl
  rw [c0]
  have hst : ∀ (b : Bool) (j : Nat), j < L.length → rickyardref04_Right.s0 400 L (b, (j : Int)) = some (.inr (b && decide (runeOk (ix L (j : Int))), ((j + 1 : Nat) : Int))) := by
    intro b j hj
    unfold rickyardref04_Right.s0
    have h1 : (j : Int) < (L.length : Int) := by omega
    have c1 : 0 ≤ (j : Int) ∧ True := ⟨by omega, trivial⟩
    have w3 : IntKind.i64.wrap ((j : Int) + 1) = ((j + 1 : Nat) : Int) := by rw [w64 (by omega) (by omega)]; omega
    simp only [h1, decide_true, if_true, if_pos c1, rof_eq, Option.bind_some, w3]
    cases b <;> rfl
  have hloop : loopM (rickyardref04_Right.s0 400 L) 400 (decide (0 < L.length ∧ L.length ≤ 8), 0) = some (decide (0 < L.length ∧ L.length ≤ 8) && (L.all fun r => decide (runeOk r))) := by
    refine loopM_run (S := fun j => (decide (0 < L.length ∧ L.length ≤ 8) && ((L.take j).all fun r => decide (runeOk r)), (j : Int))) L.length (by simp) (fun j hj => ?_) ?_ (by omega)
    · rw [hst _ j hj, List.take_add_one, List.getElem?_eq_getElem hj, ix_nat hj, List.all_append]
      simp [Bool.and_assoc]
    · unfold rickyardref04_Right.s0
      simp
  rw [hloop, Option.bind_some]
  congr 1
  rw [Bool.eq_iff_iff, decide_eq_true_eq, hL]
  simp only [Bool.and_eq_true, decide_eq_true_eq, List.all_eq_true]
theorem name_from {s : List UInt8} : ∀ (k : Nat) (i n : Nat), i ≤ s.length → (s.drop i).length ≤ k → n ≤ 8 →
    ∃ i' : Int, loopM (name_Right.s0 400 s) (k + 1) ((n : Int), (i : Int)) = some (if n + (rs k (s.drop i)).length ≤ 8 ∧ ∀ r ∈ rs k (s.drop i), runeOk r then .inr (((n + (rs k (s.drop i)).length : Nat) : Int), i') else .inl false)
  | 0, i, n, hi, hk, hn => by
    have hil : i = s.length := by rw [List.length_drop] at hk; omega
    subst hil
    refine ⟨(s.length : Int), ?_⟩
    simp [loopM, name_Right.s0, rs, hn]
  | k + 1, i, n, hi, hk, hn => by
    by_cases hil : i = s.length
    · subst hil
      refine ⟨(s.length : Int), ?_⟩
      simp [loopM, name_Right.s0, rs, hn]
    · have hlt : i < s.length := by omega
      have hm : s.drop i ≠ [] := fun e => by
        have := congrArg List.length e
        rw [List.length_drop] at this
        simp at this
        omega
      have hp := List.length_pos_iff.2 hm
      obtain ⟨h1, h2⟩ := first_wide hp
      rw [List.length_drop] at h2 hk
      obtain ⟨e1, e2⟩ := rune_first s i
      have hrs : rs (k + 1) (s.drop i) = ((first (s.drop i)).1 : Int) :: rs k (s.drop (i + (first (s.drop i)).2)) := by
        conv => lhs; unfold rs
        rw [if_neg hm, List.drop_drop]
      have w3 : IntKind.i64.wrap ((n : Int) + 1) = ((n + 1 : Nat) : Int) := by rw [w64 (by omega) (by omega)]; omega
      have c0 : (i : Int) < (s.length : Int) := by omega
      have hst : name_Right.s0 400 s ((n : Int), (i : Int)) = some (if n + 1 ≤ 8 ∧ runeOk ((first (s.drop i)).1 : Int) then .inr (((n + 1 : Nat) : Int), ((i + (first (s.drop i)).2 : Nat) : Int)) else .inl (.inl false)) := by
        unfold name_Right.s0
        have e3 : (i : Int) + ((first (s.drop i)).2 : Int) = ((i + (first (s.drop i)).2 : Nat) : Int) := by omega
        simp only [c0, decide_true, if_true, w3, e1, e2, e3, of_eq _ (show 100 < 400 by decide), Option.bind_some]
        by_cases a1 : ((n + 1 : Nat) : Int) > 8
        · rw [decide_eq_true a1, if_neg (show ¬ (n + 1 ≤ 8 ∧ runeOk ((first (s.drop i)).1 : Int)) from fun x => by have := x.1; omega)]
          rfl
        · rw [decide_eq_false a1]
          by_cases a2 : runeOk ((first (s.drop i)).1 : Int)
          · rw [decide_eq_true a2, if_pos (show n + 1 ≤ 8 ∧ runeOk ((first (s.drop i)).1 : Int) from ⟨by omega, a2⟩)]
            rfl
          · rw [decide_eq_false a2, if_neg (show ¬ (n + 1 ≤ 8 ∧ runeOk ((first (s.drop i)).1 : Int)) from fun x => a2 x.2)]
            rfl
      have hu : loopM (name_Right.s0 400 s) (k + 1 + 1) ((n : Int), (i : Int)) = (match name_Right.s0 400 s ((n : Int), (i : Int)) with | none => none | some (.inl e) => some e | some (.inr s') => loopM (name_Right.s0 400 s) (k + 1) s') := by
        conv => lhs; unfold loopM
        generalize name_Right.s0 400 s ((n : Int), (i : Int)) = q
        rcases q with _ | _ | _ <;> rfl
      rw [hu, hst]
      by_cases a : n + 1 ≤ 8 ∧ runeOk ((first (s.drop i)).1 : Int)
      · rw [if_pos a]
        obtain ⟨i', ih⟩ := name_from (s := s) k (i + (first (s.drop i)).2) (n + 1) (by omega) (by rw [List.length_drop]; omega) a.1
        refine ⟨i', ?_⟩
        simp only
        rw [ih, hrs]
        have hc : (n + 1 + (rs k (s.drop (i + (first (s.drop i)).2))).length ≤ 8 ∧ ∀ r ∈ rs k (s.drop (i + (first (s.drop i)).2)), runeOk r) ↔ (n + (((first (s.drop i)).1 : Int) :: rs k (s.drop (i + (first (s.drop i)).2))).length ≤ 8 ∧ ∀ r ∈ ((first (s.drop i)).1 : Int) :: rs k (s.drop (i + (first (s.drop i)).2)), runeOk r) := by
          simp only [List.length_cons, List.mem_cons, forall_eq_or_imp]
          constructor
          · rintro ⟨x, y⟩
            exact ⟨by omega, a.2, y⟩
          · rintro ⟨x, _, y⟩
            exact ⟨by omega, y⟩
        by_cases hq : n + 1 + (rs k (s.drop (i + (first (s.drop i)).2))).length ≤ 8 ∧ ∀ r ∈ rs k (s.drop (i + (first (s.drop i)).2)), runeOk r
        · rw [if_pos hq, if_pos (hc.1 hq)]
          congr 3
          simp only [List.length_cons]
          omega
        · rw [if_neg hq, if_neg (fun x => hq (hc.2 x))]
      · rw [if_neg a]
        refine ⟨0, ?_⟩
        simp only
        rw [hrs, if_neg]
        rintro ⟨x, y⟩
        simp only [List.length_cons] at x
        exact a ⟨by omega, y _ (List.mem_cons_self ..)⟩
theorem name_eq {s : List UInt8} (hs : s.length ≤ 300) : name_Right.f 400 s = some (decide (NameOk s)) := by
  unfold name_Right.f
  obtain ⟨i', h⟩ := name_from (s := s) 399 0 0 (by omega) (by rw [List.drop_zero]; omega) (by omega)
  rw [List.drop_zero] at h
  have h' : loopM (name_Right.s0 400 s) 400 (0, 0) = some (if 0 + (rs 399 s).length ≤ 8 ∧ ∀ r ∈ rs 399 s, runeOk r then .inr (((0 + (rs 399 s).length : Nat) : Int), i') else .inl false) := h
  rw [h']
  by_cases hq : 0 + (rs 399 s).length ≤ 8 ∧ ∀ r ∈ rs 399 s, runeOk r
  · rw [if_pos hq]
    simp only [Option.bind_some]
    congr 1
    apply decide_eq_decide.2
    unfold NameOk
    constructor
    · intro x
      exact ⟨⟨by omega, by omega⟩, hq.2⟩
    · intro x
      have := x.1.1
      omega
  · rw [if_neg hq, decide_eq_false (fun x : NameOk s => hq ⟨by have := x.1.2; omega, x.2⟩)]
    rfl
end Go.Proofs.Ytjhajfkfhdnciaa.Pure

/- rickyard/rickyardref11.Dir: its model, and that the Go function computes it: written by gen.py. -/
set_option linter.unusedVariables false
namespace Go.Proofs.Ytjhajfkfhdnciaa
open Go Go.Xw
def rickyardref11_Dir.s2 (fu : Nat) (a0 : List Int) (s4 : (List UInt8) × Int) : Int → Option (Sum (Sum (Sum (Sum ((List UInt8) × Bool) (List UInt8)) ((List UInt8) × Int)) Unit) Int) := fun s19 => (if (decide (s19 < s4.2)) = true then (if 0 ≤ s19 ∧ s19 < (List.length a0 : Int) then (if 0 ≤ s4.2 ∧ s4.2 < (List.length a0 : Int) then (if (decide ((ix a0 s19) = (ix a0 s4.2))) = true then some (Sum.inl (Sum.inl (Sum.inl (Sum.inl ([], false))))) else some (Sum.inr ((IntKind.i64.wrap (s19 + 1))))) else none) else none) else some (Sum.inl (Sum.inr ())))
def rickyardref11_Dir.s1 (fu : Nat) (a0 : List Int) : ((List UInt8) × Int) → Option (Sum (Sum ((List UInt8) × Bool) (List UInt8)) ((List UInt8) × Int)) := fun s4 => (if (decide (s4.2 < (List.length a0 : Int))) = true then (if 0 ≤ s4.2 ∧ s4.2 < (List.length a0 : Int) then ((rickyardref08_Block.f fu (ix a0 s4.2) : Option Bool).bind fun t14 => (if (!t14) = true then some (Sum.inl (Sum.inl ([], false))) else ((loopM (rickyardref11_Dir.s2 fu a0 s4) fu (0)).bind fun e20 => match e20 with | Sum.inl p => some p | Sum.inr x23 => (if 0 ≤ s4.2 ∧ s4.2 < (List.length a0 : Int) then ((rickyardref01_Lay.f fu (IntKind.u64.wrap (ix a0 s4.2)) 2 : Option (List UInt8)).bind fun t37 => (if List.length s4.1 + List.length t37 ≤ LIM then some (Sum.inr ((s4.1 ++ t37), (IntKind.i64.wrap (s4.2 + 1)))) else none)) else none)))) else none) else some (Sum.inl (Sum.inr (s4.1))))
def rickyardref11_Dir.f (fu : Nat) (a0 : List Int) : Option ((List UInt8) × Bool) := (if (if (decide ((List.length a0 : Int) < 1)) = true then true else (decide ((List.length a0 : Int) > 16))) = true then some ([], false) else ((loopM (rickyardref11_Dir.s1 fu a0) fu ([], 0)).bind fun e5 => match e5 with | Sum.inl p => some p | Sum.inr x8 => ((rickyardref07_Seal.f fu 6 (List.length a0 : Int) x8 : Option (List UInt8)).bind fun t44 => some (t44, true))))
set_option maxRecDepth 100000 in
set_option maxHeartbeats 400000 in
theorem rickyardref11_Dir.ok (fu : Nat) (w : World) (a0 : List Int) (V0_0 : Value) (R0_0 : Rd (kI .i64) w V0_0 a0) (r : (List UInt8) × Bool) (h : rickyardref11_Dir.f fu a0 = some r) :
    Calls Try.prog 81 (([V0_0] : List Value).toArray) w (fun e w' => ∃ v, e = .returned v ∧ v = .tuple #[sv r.1, .bool r.2] ∧ Gr w w') := by
  unfold rickyardref11_Dir.f at h
  have fB : Gr w w := Fr.refl _ _
  refine calls_cw Try.func81 rfl Try.ntmps81 rfl ?_
  refine cw_seq ?_
  refine cw_region ?_
  refine ol_val (v := sv []) (by exact xr_assign rfl rfl) rfl rfl rfl ?_
  refine ol_val (v := .bool false) (by exact xr_assign rfl rfl) rfl rfl rfl ?_
  refine ol_nil ?_
  refine cw_seq ?_
  refine cw_seq ?_
  refine cw_mid (fun ρ' w' => ρ' 0 = V0_0 ∧ ρ' 14 = .bool (if (decide ((List.length a0 : Int) < 1)) = true then true else (decide ((List.length a0 : Int) > 16))) ∧ w = w') ?_ ?_
  · skip
    refine cw_region ?_
    refine ol_val (v := V0_0) (by exact xr_move rfl rfl) rfl rfl rfl ?_
    refine ol_val (v := .int .i64 (List.length a0 : Int)) (by exact xr_lenR rfl Try.underlying45 rfl (R0_0.gr fB)) rfl rfl rfl ?_
    refine ol_val (v := .bool (decide ((List.length a0 : Int) < 1))) (by exact xr_lss rfl rfl rfl) rfl rfl rfl ?_
    refine ol_val (v := .bool (decide ((List.length a0 : Int) < 1))) (by exact xr_move rfl rfl) rfl rfl rfl ?_
    rcases bt (decide ((List.length a0 : Int) < 1)) with c1 | c1
    · skip
      refine ol_gskip rfl rfl rfl rfl rfl c1 ?_
      refine ol_gskip rfl rfl rfl rfl rfl c1 ?_
      refine ol_gskip rfl rfl rfl rfl rfl c1 ?_
      refine ol_val (v := .bool true) (by exact xr_pickT rfl rfl c1 rfl) rfl rfl rfl ?_
      refine ol_nil ?_
      refine thn_i ?_
      exact ⟨rfl, (rfl).trans (congrArg (fun z => (.bool z : Value)) (show true = (if (decide ((List.length a0 : Int) < 1)) = true then true else (decide ((List.length a0 : Int) > 16))) from by rw [ite_t c1])), rfl⟩
    · skip
      refine ol_gval (v := V0_0) (by exact xr_move rfl rfl) rfl rfl rfl rfl rfl c1 ?_
      refine ol_gval (v := .int .i64 (List.length a0 : Int)) (by exact xr_lenR rfl Try.underlying45 rfl (R0_0.gr fB)) rfl rfl rfl rfl rfl c1 ?_
      refine ol_gval (v := .bool (decide ((List.length a0 : Int) > 16))) (by exact xr_gtr rfl rfl rfl) rfl rfl rfl rfl rfl c1 ?_
      refine ol_val (v := .bool (decide ((List.length a0 : Int) > 16))) (by exact xr_pickF rfl rfl c1 rfl) rfl rfl rfl ?_
      refine ol_nil ?_
      refine thn_i ?_
      exact ⟨rfl, (rfl).trans (congrArg (fun z => (.bool z : Value)) (show (decide ((List.length a0 : Int) > 16)) = (if (decide ((List.length a0 : Int) < 1)) = true then true else (decide ((List.length a0 : Int) > 16))) from by rw [ite_f c1])), rfl⟩
  · skip
    rintro ρ2 _ ⟨e0, e14, rfl⟩
    rcases is h with ⟨c3, h⟩ | ⟨c3, h⟩
    · refine cw_condT e14 c3 ?_
      refine cw_seq ?_
      refine cw_region ?_
      refine ol_val (v := sv []) (by exact xr_assign rfl rfl) rfl rfl rfl ?_
      refine ol_val (v := .bool false) (by exact xr_assign rfl rfl) rfl rfl rfl ?_
      refine ol_nil ?_
      refine cw_ret ?_
      repeat (first | with_reducible refine thn_r ?_ | with_reducible refine blk_r ?_)
      obtain rfl := Option.some.inj h
      refine fin_ret2 Try.results81 rfl rfl ?_
      exact ⟨_, rfl, rfl, fB⟩
    · refine cw_condF e14 c3 ?_
      refine cw_skip ?_
      refine cw_seq ?_
      refine cw_region ?_
      refine ol_val (v := sv []) (by exact xr_assign rfl rfl) rfl rfl rfl ?_
      refine ol_nil ?_
      refine cw_seq ?_
      refine cw_seq ?_
      refine cw_region ?_
      refine ol_val (v := .int .i64 0) (by exact xr_assign rfl rfl) rfl rfl rfl ?_
      refine ol_nil ?_
      obtain ⟨e5, l6, h7⟩ := bs h
      refine cw_mid (fun ρ' w' => ∃ x8, e5 = Sum.inr x8 ∧ ρ' 0 = V0_0 ∧ ρ' 4 = sv x8 ∧ Gr w w') ?_ ?_
      · refine cw_block ?_
        refine cw_round (fun (s4 : (List UInt8) × Int) ρ' w' => ρ' 0 = V0_0 ∧ ρ' 4 = sv s4.1 ∧ ρ' 5 = .int .i64 s4.2 ∧ Gr w w') l6 ?_ ?_
        · skip
          exact ⟨e0, rfl, rfl, fB⟩
        · rintro s4 x11 ρ9 w10 ⟨e0, e4, e5, fB⟩ h
          unfold rickyardref11_Dir.s1 at h
          refine cw_seq ?_
          refine cw_seq ?_
          refine cw_region ?_
          refine ol_val (v := .int .i64 s4.2) (by exact xr_move rfl e5) rfl rfl rfl ?_
          refine ol_val (v := V0_0) (by exact xr_move rfl e0) rfl rfl rfl ?_
          refine ol_val (v := .int .i64 (List.length a0 : Int)) (by exact xr_lenR rfl Try.underlying45 rfl (R0_0.gr fB)) rfl rfl rfl ?_
          refine ol_val (v := .bool (decide (s4.2 < (List.length a0 : Int)))) (by exact xr_lss rfl rfl rfl) rfl rfl rfl ?_
          refine ol_nil ?_
          rcases is h with ⟨c12, h⟩ | ⟨c12, h⟩
          · refine cw_condT rfl c12 ?_
            refine cw_skip ?_
            refine cw_seq ?_
            refine cw_block ?_
            refine cw_seq ?_
            refine cw_seq ?_
            refine cw_region ?_
            refine ol_val (v := V0_0) (by exact xr_move rfl e0) rfl rfl rfl ?_
            refine ol_val (v := .int .i64 s4.2) (by exact xr_move rfl e5) rfl rfl rfl ?_
            obtain ⟨g13, h⟩ := gs h
            refine ol_val (v := .pointer (some ⟨(sb V0_0), so V0_0 + Int.toNat s4.2 * 1, none⟩)) (by exact xr_indexR (K := (kI .i64)) (v := V0_0) rfl Try.underlying45 sz3 rfl (R0_0.gr fB) rfl g13.1 g13.2) rfl rfl rfl ?_
            refine ol_val (v := .int .i64 (ix a0 s4.2)) (by exact xr_load1 (v := .int .i64 (ix a0 s4.2)) rfl ag3 rfl ((R0_0.gr fB).elem g13.1 g13.2)) rfl rfl rfl ?_
            obtain ⟨t14, k15, h⟩ := bs h
            refine ol_op (by exact opv_call rfl cal107 (ac rfl an) (rickyardref08_Block.ok fu _ (ix a0 s4.2) _ k15)) rfl rfl rfl ?_
            rintro _ w17 ⟨rfl, q16⟩
            have fB := fB.gr q16
            refine ol_val (v := .bool (!t14)) (by exact xr_not rfl rfl) rfl rfl rfl ?_
            refine ol_nil ?_
            rcases is h with ⟨c18, h⟩ | ⟨c18, h⟩
            · refine cw_condT rfl c18 ?_
              refine cw_seq ?_
              refine cw_region ?_
              refine ol_val (v := sv []) (by exact xr_assign rfl rfl) rfl rfl rfl ?_
              refine ol_val (v := .bool false) (by exact xr_assign rfl rfl) rfl rfl rfl ?_
              refine ol_nil ?_
              refine cw_ret ?_
              repeat (first | with_reducible refine thn_r ?_ | with_reducible refine blk_r ?_)
              obtain rfl := Option.some.inj h
              refine lp_ret ?_
              rintro rfl
              repeat (first | with_reducible refine thn_r ?_ | with_reducible refine blk_r ?_)
              have h := h7
              obtain rfl := Option.some.inj h
              refine fin_ret2 Try.results81 rfl rfl ?_
              exact ⟨_, rfl, rfl, fB⟩
            · refine cw_condF rfl c18 ?_
              refine cw_skip ?_
              refine cw_seq ?_
              refine cw_seq ?_
              refine cw_region ?_
              refine ol_val (v := .int .i64 0) (by exact xr_assign rfl rfl) rfl rfl rfl ?_
              refine ol_nil ?_
              obtain ⟨e20, l21, h22⟩ := bs h
              refine cw_mid (fun ρ' w' => ∃ x23, e20 = Sum.inr x23 ∧ ρ' 0 = V0_0 ∧ ρ' 4 = sv s4.1 ∧ ρ' 5 = .int .i64 s4.2 ∧ Gr w w') ?_ ?_
              · refine cw_block ?_
                refine cw_round (fun (s19 : Int) ρ' w' => ρ' 0 = V0_0 ∧ ρ' 4 = sv s4.1 ∧ ρ' 5 = .int .i64 s4.2 ∧ ρ' 6 = .int .i64 s19 ∧ Gr w w') l21 ?_ ?_
                · skip
                  exact ⟨e0, e4, e5, rfl, fB⟩
                · rintro s19 x26 ρ24 w25 ⟨e0, e4, e5, e6, fB⟩ h
                  unfold rickyardref11_Dir.s2 at h
                  refine cw_seq ?_
                  refine cw_seq ?_
                  refine cw_region ?_
                  refine ol_val (v := .int .i64 s19) (by exact xr_move rfl e6) rfl rfl rfl ?_
                  refine ol_val (v := .int .i64 s4.2) (by exact xr_move rfl e5) rfl rfl rfl ?_
                  refine ol_val (v := .bool (decide (s19 < s4.2))) (by exact xr_lss rfl rfl rfl) rfl rfl rfl ?_
                  refine ol_nil ?_
                  rcases is h with ⟨c27, h⟩ | ⟨c27, h⟩
                  · refine cw_condT rfl c27 ?_
                    refine cw_skip ?_
                    refine cw_seq ?_
                    refine cw_block ?_
                    refine cw_seq ?_
                    obtain ⟨g28, h⟩ := gs h
                    obtain ⟨g29, h⟩ := gs h
                    refine cw_drawL 8 [fun vz wz => vz = (V0_0 : Value), fun vz wz => vz = (.int .i64 s19 : Value), fun vz wz => vz = (.pointer (some ⟨(sb V0_0), so V0_0 + Int.toNat s19 * 1, none⟩) : Value), fun vz wz => vz = (.int .i64 (ix a0 s19) : Value), fun vz wz => vz = (V0_0 : Value), fun vz wz => vz = (.int .i64 s4.2 : Value), fun vz wz => vz = (.pointer (some ⟨(sb V0_0), so V0_0 + Int.toNat s4.2 * 1, none⟩) : Value), fun vz wz => vz = (.int .i64 (ix a0 s4.2) : Value)] mo rfl ⟨fun _ _ _ h _ => h, fun _ _ _ h _ => h, fun _ _ _ h _ => h, fun _ _ _ h _ => h, fun _ _ _ h _ => h, fun _ _ _ h _ => h, fun _ _ _ h _ => h, fun _ _ _ h _ => h, trivial⟩ ?_ ?_
                    · refine ⟨?_, ?_, ?_, ?_, ?_, ?_, ?_, ?_, trivial⟩
                      · intro ρz wz hz hk hd
                        exact sk_val (v := V0_0) (by exact xr_move rfl ((hk 0 rfl).trans e0)) rfl rfl
                      · intro ρz wz hz hk hd
                        exact sk_val (v := .int .i64 s19) (by exact xr_move rfl ((hk 6 rfl).trans e6)) rfl rfl
                      · intro ρz wz hz hk hd
                        have d32 := hd 0 rfl 32 rfl
                        have d33 := hd 1 rfl 33 rfl
                        exact sk_val (by exact xr_indexR (K := (kI .i64)) (v := V0_0) rfl Try.underlying45 sz3 d32 (R0_0.gr (fB.gr hz)) d33 g28.1 g28.2) rfl rfl
                      · intro ρz wz hz hk hd
                        have d34 := hd 2 rfl 34 rfl
                        exact sk_val (v := .int .i64 (ix a0 s19)) (by exact xr_load1 (v := .int .i64 (ix a0 s19)) rfl ag3 d34 ((R0_0.gr (fB.gr hz)).elem g28.1 g28.2)) rfl rfl
                      · intro ρz wz hz hk hd
                        exact sk_val (v := V0_0) (by exact xr_move rfl ((hk 0 rfl).trans e0)) rfl rfl
                      · intro ρz wz hz hk hd
                        exact sk_val (v := .int .i64 s4.2) (by exact xr_move rfl ((hk 5 rfl).trans e5)) rfl rfl
                      · intro ρz wz hz hk hd
                        have d36 := hd 4 rfl 36 rfl
                        have d37 := hd 5 rfl 37 rfl
                        exact sk_val (by exact xr_indexR (K := (kI .i64)) (v := V0_0) rfl Try.underlying45 sz3 d36 (R0_0.gr (fB.gr hz)) d37 g29.1 g29.2) rfl rfl
                      · intro ρz wz hz hk hd
                        have d38 := hd 6 rfl 38 rfl
                        exact sk_val (v := .int .i64 (ix a0 s4.2)) (by exact xr_load1 (v := .int .i64 (ix a0 s4.2)) rfl ag3 d38 ((R0_0.gr (fB.gr hz)).elem g29.1 g29.2)) rfl rfl
                    · intro ρ30 w31 q32 hk hd
                      have e0 := (hk 0 rfl).trans e0
                      have e4 := (hk 4 rfl).trans e4
                      have e5 := (hk 5 rfl).trans e5
                      have e6 := (hk 6 rfl).trans e6
                      have e35 := hd 3 rfl 35 rfl
                      have e39 := hd 7 rfl 39 rfl
                      have fB := fB.gr q32
                      refine ol_val (v := .bool (decide ((ix a0 s19) = (ix a0 s4.2)))) (by exact xr_eqI rfl Try.underlying3 rfl e35 e39) rfl rfl rfl ?_
                      refine ol_nil ?_
                      rcases is h with ⟨c33, h⟩ | ⟨c33, h⟩
                      · refine cw_condT rfl c33 ?_
                        refine cw_seq ?_
                        refine cw_region ?_
                        refine ol_val (v := sv []) (by exact xr_assign rfl rfl) rfl rfl rfl ?_
                        refine ol_val (v := .bool false) (by exact xr_assign rfl rfl) rfl rfl rfl ?_
                        refine ol_nil ?_
                        refine cw_ret ?_
                        repeat (first | with_reducible refine thn_r ?_ | with_reducible refine blk_r ?_)
                        obtain rfl := Option.some.inj h
                        refine lp_ret ?_
                        rintro rfl
                        repeat (first | with_reducible refine thn_r ?_ | with_reducible refine blk_r ?_)
                        have h := h22
                        obtain rfl := Option.some.inj h
                        refine lp_ret ?_
                        rintro rfl
                        repeat (first | with_reducible refine thn_r ?_ | with_reducible refine blk_r ?_)
                        have h := h7
                        obtain rfl := Option.some.inj h
                        refine fin_ret2 Try.results81 rfl rfl ?_
                        exact ⟨_, rfl, rfl, fB⟩
                      · refine cw_condF rfl c33 ?_
                        refine cw_skip ?_
                        refine blk_i ?_
                        refine cw_region ?_
                        refine ol_val (v := .int .i64 s19) (by exact xr_move rfl e6) rfl rfl rfl ?_
                        refine ol_val (v := .int .i64 (IntKind.i64.wrap (s19 + 1))) (by exact xr_add rfl rfl rfl) rfl rfl rfl ?_
                        refine ol_val (v := .int .i64 (IntKind.i64.wrap (s19 + 1))) (by exact xr_assign rfl rfl) rfl rfl rfl ?_
                        refine ol_nil ?_
                        obtain rfl := Option.some.inj h
                        refine lp_in ?_
                        exact ⟨e0, e4, e5, rfl, fB⟩
                  · refine cw_condF rfl c27 ?_
                    refine cw_exit ?_
                    repeat (first | with_reducible refine thn_e ?_ | with_reducible refine blk_e rfl ?_)
                    obtain rfl := Option.some.inj h
                    refine lp_exit ?_
                    rintro rfl
                    refine thn_x ?_
                    exact ⟨_, rfl, e0, e4, e5, fB⟩
              · rintro ρ34 w35 ⟨x23, rfl, e0, e4, e5, fB⟩
                have h := h22
                refine cw_region ?_
                refine ol_val (v := sv s4.1) (by exact xr_move rfl e4) rfl rfl rfl ?_
                refine ol_val (v := V0_0) (by exact xr_move rfl e0) rfl rfl rfl ?_
                refine ol_val (v := .int .i64 s4.2) (by exact xr_move rfl e5) rfl rfl rfl ?_
                obtain ⟨g36, h⟩ := gs h
                refine ol_val (v := .pointer (some ⟨(sb V0_0), so V0_0 + Int.toNat s4.2 * 1, none⟩)) (by exact xr_indexR (K := (kI .i64)) (v := V0_0) rfl Try.underlying45 sz3 rfl (R0_0.gr fB) rfl g36.1 g36.2) rfl rfl rfl ?_
                refine ol_val (v := .int .i64 (ix a0 s4.2)) (by exact xr_load1 (v := .int .i64 (ix a0 s4.2)) rfl ag3 rfl ((R0_0.gr fB).elem g36.1 g36.2)) rfl rfl rfl ?_
                refine ol_val (v := .int .u64 (IntKind.u64.wrap (ix a0 s4.2))) (by exact xr_conv rfl Try.underlying3 Try.underlying129 rfl) rfl rfl rfl ?_
                obtain ⟨t37, k38, h⟩ := bs h
                refine ol_op (by exact opv_call rfl cal99 (ac rfl (ac rfl an)) (rickyardref01_Lay.ok fu _ (IntKind.u64.wrap (ix a0 s4.2)) 2 _ k38)) rfl rfl rfl ?_
                rintro _ w40 ⟨rfl, q39⟩
                have fB := fB.gr q39
                obtain ⟨g41, h⟩ := gs h
                refine ol_val (v := sv (s4.1 ++ t37)) (by exact xr_addStr rfl rfl rfl g41) rfl rfl rfl ?_
                refine ol_val (v := sv (s4.1 ++ t37)) (by exact xr_assign rfl rfl) rfl rfl rfl ?_
                refine ol_nil ?_
                refine blk_i ?_
                refine cw_region ?_
                refine ol_val (v := .int .i64 s4.2) (by exact xr_move rfl e5) rfl rfl rfl ?_
                refine ol_val (v := .int .i64 (IntKind.i64.wrap (s4.2 + 1))) (by exact xr_add rfl rfl rfl) rfl rfl rfl ?_
                refine ol_val (v := .int .i64 (IntKind.i64.wrap (s4.2 + 1))) (by exact xr_assign rfl rfl) rfl rfl rfl ?_
                refine ol_nil ?_
                obtain rfl := Option.some.inj h
                refine lp_in ?_
                exact ⟨e0, rfl, rfl, fB⟩
          · refine cw_condF rfl c12 ?_
            refine cw_exit ?_
            repeat (first | with_reducible refine thn_e ?_ | with_reducible refine blk_e rfl ?_)
            obtain rfl := Option.some.inj h
            refine lp_exit ?_
            rintro rfl
            refine thn_x ?_
            exact ⟨_, rfl, e0, e4, fB⟩
      · rintro ρ42 w43 ⟨x8, rfl, e0, e4, fB⟩
        have h := h7
        refine cw_seq ?_
        refine cw_region ?_
        refine ol_val (v := V0_0) (by exact xr_move rfl e0) rfl rfl rfl ?_
        refine ol_val (v := .int .i64 (List.length a0 : Int)) (by exact xr_lenR rfl Try.underlying45 rfl (R0_0.gr fB)) rfl rfl rfl ?_
        refine ol_val (v := sv x8) (by exact xr_move rfl e4) rfl rfl rfl ?_
        obtain ⟨t44, k45, h⟩ := bs h
        refine ol_op (by exact opv_call rfl cal30 (ac rfl (ac rfl (ac rfl an))) (rickyardref07_Seal.ok fu _ 6 (List.length a0 : Int) x8 _ k45)) rfl rfl rfl ?_
        rintro _ w47 ⟨rfl, q46⟩
        have fB := fB.gr q46
        refine ol_val (v := sv t44) (by exact xr_assign rfl rfl) rfl rfl rfl ?_
        refine ol_val (v := .bool true) (by exact xr_assign rfl rfl) rfl rfl rfl ?_
        refine ol_nil ?_
        refine cw_ret ?_
        repeat (first | with_reducible refine thn_r ?_ | with_reducible refine blk_r ?_)
        obtain rfl := Option.some.inj h
        refine fin_ret2 Try.results81 rfl rfl ?_
        exact ⟨_, rfl, rfl, fB⟩
end Go.Proofs.Ytjhajfkfhdnciaa

/- rickyard/rickyardref11.GetDir: its model, and that the Go function computes it: written by gen.py. -/
set_option linter.unusedVariables false
namespace Go.Proofs.Ytjhajfkfhdnciaa
open Go Go.Xw
def rickyardref11_GetDir.s0 (fu : Nat) (t4 : Int × Int × (List UInt8) × Bool) : ((List Int) × Int) → Option (Sum (List Int) ((List Int) × Int)) := fun s12 => (if (decide (s12.2 < t4.2.1)) = true then (if (0 : Int) ≤ (IntKind.i64.wrap (2 * s12.2)) ∧ (IntKind.i64.wrap (2 * s12.2)) ≤ (IntKind.i64.wrap ((IntKind.i64.wrap (2 * s12.2)) + 2)) ∧ (IntKind.i64.wrap ((IntKind.i64.wrap (2 * s12.2)) + 2)) ≤ (List.length t4.2.2.1 : Int) then ((rickyardref01_Int.f fu (cut t4.2.2.1 (IntKind.i64.wrap (2 * s12.2)) (IntKind.i64.wrap ((IntKind.i64.wrap (2 * s12.2)) + 2))) : Option Int).bind fun t27 => (if List.length s12.1 + List.length [t27] ≤ LIM then some (Sum.inr ((s12.1 ++ [t27]), (IntKind.i64.wrap (s12.2 + 1)))) else none)) else none) else some (Sum.inl (s12.1)))
def rickyardref11_GetDir.f (fu : Nat) (a0 : List Int) : Option ((List Int) × Bool) := ((rickyardref07_Open.f fu a0 : Option (Int × Int × (List UInt8) × Bool)).bind fun t4 => (if (if (!t4.2.2.2) = true then true else (if (!decide (t4.1 = 6)) = true then true else (decide (t4.2.1 > 16)))) = true then some ([], false) else ((loopM (rickyardref11_GetDir.s0 fu t4) fu ([], 0)).bind fun e13 => ((rickyardref11_Dir.f fu e13 : Option ((List UInt8) × Bool)).bind fun t48 => (if (if (!t48.2) = true then true else (!decide (t48.1 = (List.map toB a0)))) = true then some ([], false) else some (e13, true))))))
set_option maxRecDepth 100000 in
set_option maxHeartbeats 400000 in
theorem rickyardref11_GetDir.ok (fu : Nat) (w : World) (a0 : List Int) (V0_0 : Value) (R0_0 : Rd (kI .u8) w V0_0 a0) (r : (List Int) × Bool) (h : rickyardref11_GetDir.f fu a0 = some r) :
    Calls Try.prog 85 (([V0_0] : List Value).toArray) w (fun e w' => ∃ v, e = .returned v ∧ ∃ u1 : Value, ∃ o2 : Own (kI .i64) 3 w' w.heap.size u1 r.1, v = .tuple #[u1, .bool r.2] ∧ Gr w w') := by
  unfold rickyardref11_GetDir.f at h
  have fB : Gr w w := Fr.refl _ _
  refine calls_cw Try.func85 rfl Try.ntmps85 rfl ?_
  refine cw_seq ?_
  refine cw_region ?_
  refine ol_val (v := .slice none 0 0) (by exact xr_assign rfl rfl) rfl rfl rfl ?_
  refine ol_val (v := .bool false) (by exact xr_assign rfl rfl) rfl rfl rfl ?_
  refine ol_nil ?_
  refine cw_seq ?_
  refine cw_region ?_
  refine ol_val (v := V0_0) (by exact xr_move rfl rfl) rfl rfl rfl ?_
  obtain ⟨t4, k5, h⟩ := bs h
  refine ol_op (by exact opv_call rfl cal32 (ac rfl an) (rickyardref07_Open.ok fu _ a0 V0_0 (R0_0.gr fB) _ k5)) rfl rfl rfl ?_
  rintro _ w7 ⟨rfl, q6⟩
  have fB := fB.gr q6
  refine ol_val (v := .tuple #[.int .i64 t4.1, .int .i64 t4.2.1, sv t4.2.2.1, .bool t4.2.2.2]) (by exact xr_move rfl rfl) rfl rfl rfl ?_
  refine ol_val (v := .int .i64 t4.1) (by exact xr_extract rfl rfl rfl) rfl rfl rfl ?_
  refine ol_val (v := .int .i64 t4.2.1) (by exact xr_extract rfl rfl rfl) rfl rfl rfl ?_
  refine ol_val (v := sv t4.2.2.1) (by exact xr_extract rfl rfl rfl) rfl rfl rfl ?_
  refine ol_val (v := .bool t4.2.2.2) (by exact xr_extract rfl rfl rfl) rfl rfl rfl ?_
  refine ol_val (v := .int .i64 t4.1) (by exact xr_assign rfl rfl) rfl rfl rfl ?_
  refine ol_val (v := .int .i64 t4.2.1) (by exact xr_assign rfl rfl) rfl rfl rfl ?_
  refine ol_val (v := sv t4.2.2.1) (by exact xr_assign rfl rfl) rfl rfl rfl ?_
  refine ol_val (v := .bool t4.2.2.2) (by exact xr_assign rfl rfl) rfl rfl rfl ?_
  refine ol_nil ?_
  refine cw_seq ?_
  refine cw_seq ?_
  refine cw_mid (fun ρ' w' => ρ' 0 = V0_0 ∧ ρ' 5 = .int .i64 t4.2.1 ∧ ρ' 6 = sv t4.2.2.1 ∧ ρ' 28 = .bool (if (!t4.2.2.2) = true then true else (if (!decide (t4.1 = 6)) = true then true else (decide (t4.2.1 > 16)))) ∧ w7 = w') ?_ ?_
  · skip
    refine cw_region ?_
    refine ol_val (v := .bool t4.2.2.2) (by exact xr_move rfl rfl) rfl rfl rfl ?_
    refine ol_val (v := .bool (!t4.2.2.2)) (by exact xr_not rfl rfl) rfl rfl rfl ?_
    refine ol_val (v := .bool (!t4.2.2.2)) (by exact xr_move rfl rfl) rfl rfl rfl ?_
    rcases bt (!t4.2.2.2) with c8 | c8
    · skip
      refine ol_gskip rfl rfl rfl rfl rfl c8 ?_
      refine ol_gskip rfl rfl rfl rfl rfl c8 ?_
      refine ol_val (v := .bool true) (by exact xr_pickT rfl rfl c8 rfl) rfl rfl rfl ?_
      refine ol_val (v := .bool true) (by exact xr_move rfl rfl) rfl rfl rfl ?_
      refine ol_gskip rfl rfl rfl rfl rfl rfl ?_
      refine ol_gskip rfl rfl rfl rfl rfl rfl ?_
      refine ol_val (v := .bool true) (by exact xr_pickT rfl rfl rfl rfl) rfl rfl rfl ?_
      refine ol_nil ?_
      refine thn_i ?_
      exact ⟨rfl, rfl, rfl, (rfl).trans (congrArg (fun z => (.bool z : Value)) (show true = (if (!t4.2.2.2) = true then true else (if (!decide (t4.1 = 6)) = true then true else (decide (t4.2.1 > 16)))) from by rw [ite_t c8])), rfl⟩
    · skip
      refine ol_gval (v := .int .i64 t4.1) (by exact xr_move rfl rfl) rfl rfl rfl rfl rfl c8 ?_
      refine ol_gval (v := .bool (!decide (t4.1 = 6))) (by exact xr_neI rfl Try.underlying3 rfl rfl rfl) rfl rfl rfl rfl rfl c8 ?_
      refine ol_val (v := .bool (!decide (t4.1 = 6))) (by exact xr_pickF rfl rfl c8 rfl) rfl rfl rfl ?_
      refine ol_val (v := .bool (!decide (t4.1 = 6))) (by exact xr_move rfl rfl) rfl rfl rfl ?_
      rcases bt (!decide (t4.1 = 6)) with c9 | c9
      · skip
        refine ol_gskip rfl rfl rfl rfl rfl c9 ?_
        refine ol_gskip rfl rfl rfl rfl rfl c9 ?_
        refine ol_val (v := .bool true) (by exact xr_pickT rfl rfl c9 rfl) rfl rfl rfl ?_
        refine ol_nil ?_
        refine thn_i ?_
        exact ⟨rfl, rfl, rfl, (rfl).trans (congrArg (fun z => (.bool z : Value)) (show true = (if (!t4.2.2.2) = true then true else (if (!decide (t4.1 = 6)) = true then true else (decide (t4.2.1 > 16)))) from by rw [ite_f c8, ite_t c9])), rfl⟩
      · skip
        refine ol_gval (v := .int .i64 t4.2.1) (by exact xr_move rfl rfl) rfl rfl rfl rfl rfl c9 ?_
        refine ol_gval (v := .bool (decide (t4.2.1 > 16))) (by exact xr_gtr rfl rfl rfl) rfl rfl rfl rfl rfl c9 ?_
        refine ol_val (v := .bool (decide (t4.2.1 > 16))) (by exact xr_pickF rfl rfl c9 rfl) rfl rfl rfl ?_
        refine ol_nil ?_
        refine thn_i ?_
        exact ⟨rfl, rfl, rfl, (rfl).trans (congrArg (fun z => (.bool z : Value)) (show (decide (t4.2.1 > 16)) = (if (!t4.2.2.2) = true then true else (if (!decide (t4.1 = 6)) = true then true else (decide (t4.2.1 > 16)))) from by rw [ite_f c8, ite_f c9])), rfl⟩
  · skip
    rintro ρ10 _ ⟨e0, e5, e6, e28, rfl⟩
    rcases is h with ⟨c11, h⟩ | ⟨c11, h⟩
    · refine cw_condT e28 c11 ?_
      refine cw_seq ?_
      refine cw_region ?_
      refine ol_val (v := .slice none 0 0) (by exact xr_assign rfl rfl) rfl rfl rfl ?_
      refine ol_val (v := .bool false) (by exact xr_assign rfl rfl) rfl rfl rfl ?_
      refine ol_nil ?_
      refine cw_ret ?_
      repeat (first | with_reducible refine thn_r ?_ | with_reducible refine blk_r ?_)
      obtain rfl := Option.some.inj h
      refine fin_ret2 Try.results85 rfl rfl ?_
      exact ⟨_, rfl, (.slice none 0 0), Own.nil _ _ _ _, rfl, fB⟩
    · refine cw_condF e28 c11 ?_
      refine cw_skip ?_
      refine cw_seq ?_
      refine cw_region ?_
      refine ol_val (v := .slice none 0 0) (by exact xr_assign rfl rfl) rfl rfl rfl ?_
      refine ol_nil ?_
      refine cw_seq ?_
      refine cw_seq ?_
      refine cw_region ?_
      refine ol_val (v := .int .i64 0) (by exact xr_assign rfl rfl) rfl rfl rfl ?_
      refine ol_nil ?_
      obtain ⟨e13, l14, h15⟩ := bs h
      refine cw_mid (fun ρ' w' => ∃ v16 : Value, ∃ o17 : Own (kI .i64) 3 w' w.heap.size v16 e13, ρ' 0 = V0_0 ∧ ρ' 8 = v16 ∧ Gr w w') ?_ ?_
      · refine cw_block ?_
        refine cw_round (fun (s12 : (List Int) × Int) ρ' w' => ∃ v19 : Value, ∃ o20 : Own (kI .i64) 3 w' w.heap.size v19 s12.1, ρ' 0 = V0_0 ∧ ρ' 5 = .int .i64 t4.2.1 ∧ ρ' 6 = sv t4.2.2.1 ∧ ρ' 8 = v19 ∧ ρ' 9 = .int .i64 s12.2 ∧ Gr w w') l14 ?_ ?_
        · skip
          exact ⟨(.slice none 0 0), Own.nil _ _ _ _, e0, e5, e6, rfl, rfl, fB⟩
        · rintro s12 x24 ρ22 w23 ⟨v19, o20, e0, e5, e6, e8, e9, fB⟩ h
          unfold rickyardref11_GetDir.s0 at h
          refine cw_seq ?_
          refine cw_seq ?_
          refine cw_region ?_
          refine ol_val (v := .int .i64 s12.2) (by exact xr_move rfl e9) rfl rfl rfl ?_
          refine ol_val (v := .int .i64 t4.2.1) (by exact xr_move rfl e5) rfl rfl rfl ?_
          refine ol_val (v := .bool (decide (s12.2 < t4.2.1))) (by exact xr_lss rfl rfl rfl) rfl rfl rfl ?_
          refine ol_nil ?_
          rcases is h with ⟨c25, h⟩ | ⟨c25, h⟩
          · refine cw_condT rfl c25 ?_
            refine cw_skip ?_
            refine cw_seq ?_
            refine cw_block ?_
            refine cw_region ?_
            refine ol_val (v := v19) (by exact xr_move rfl e8) rfl rfl rfl ?_
            refine ol_val (v := sv t4.2.2.1) (by exact xr_move rfl e6) rfl rfl rfl ?_
            refine ol_val (v := .int .i64 s12.2) (by exact xr_move rfl e9) rfl rfl rfl ?_
            refine ol_val (v := .int .i64 (IntKind.i64.wrap (2 * s12.2))) (by exact xr_mul rfl rfl rfl) rfl rfl rfl ?_
            refine ol_val (v := .int .i64 s12.2) (by exact xr_move rfl e9) rfl rfl rfl ?_
            refine ol_val (v := .int .i64 (IntKind.i64.wrap (2 * s12.2))) (by exact xr_mul rfl rfl rfl) rfl rfl rfl ?_
            refine ol_val (v := .int .i64 (IntKind.i64.wrap ((IntKind.i64.wrap (2 * s12.2)) + 2))) (by exact xr_add rfl rfl rfl) rfl rfl rfl ?_
            obtain ⟨g26, h⟩ := gs h
            refine ol_val (v := sv (cut t4.2.2.1 (IntKind.i64.wrap (2 * s12.2)) (IntKind.i64.wrap ((IntKind.i64.wrap (2 * s12.2)) + 2)))) (by exact xr_str_lh rfl Try.underlying9 rfl rfl rfl g26.1 g26.2.1 g26.2.2) rfl rfl rfl ?_
            obtain ⟨t27, k28, h⟩ := bs h
            refine ol_op (by exact opv_call rfl cal103 (ac rfl an) (rickyardref01_Int.ok fu _ (cut t4.2.2.1 (IntKind.i64.wrap (2 * s12.2)) (IntKind.i64.wrap ((IntKind.i64.wrap (2 * s12.2)) + 2))) _ k28)) rfl rfl rfl ?_
            rintro _ w30 ⟨rfl, q29⟩
            have o20 := o20.gr q29
            have fB := fB.gr q29
            refine ol_op (by exact opv_buildSlice (K := (kI .i64)) (xs := [t27]) (vals := [.int .i64 t27]) rfl Try.underlying45 el3 rfl rfl ⟨rfl, rfl, trivial⟩ rfl rfl rfl fB.size) rfl rfl rfl ?_
            rintro v31 w36 ⟨o33, q32, z34⟩
            have a37 := OffV.new o20 z34
            have o20 := o20.gr q32
            have fB := fB.gr q32
            obtain ⟨g42, h⟩ := gs h
            have f44 := o20.geO
            refine ol_op (by exact opv_append (K := (kI .i64)) rfl Try.underlying45 el3 rfl rfl rfl rfl rfl o20 o33.rd g42 fB.size) rfl rfl rfl ?_
            rintro v38 w45 ⟨o39, q40, n41⟩
            have fB := fB.wrO q40 f44
            refine ol_val (v := v38) (by exact xr_assign rfl rfl) rfl rfl rfl ?_
            refine ol_nil ?_
            refine blk_i ?_
            refine cw_region ?_
            refine ol_val (v := .int .i64 s12.2) (by exact xr_move rfl e9) rfl rfl rfl ?_
            refine ol_val (v := .int .i64 (IntKind.i64.wrap (s12.2 + 1))) (by exact xr_add rfl rfl rfl) rfl rfl rfl ?_
            refine ol_val (v := .int .i64 (IntKind.i64.wrap (s12.2 + 1))) (by exact xr_assign rfl rfl) rfl rfl rfl ?_
            refine ol_nil ?_
            obtain rfl := Option.some.inj h
            refine lp_in ?_
            exact ⟨v38, o39, e0, e5, e6, rfl, rfl, fB⟩
          · refine cw_condF rfl c25 ?_
            refine cw_exit ?_
            repeat (first | with_reducible refine thn_e ?_ | with_reducible refine blk_e rfl ?_)
            obtain rfl := Option.some.inj h
            refine lp_exit ?_
            rintro rfl
            refine thn_x ?_
            exact ⟨v19, o20, e0, e8, fB⟩
      · rintro ρ46 w47 ⟨v16, o17, e0, e8, fB⟩
        have h := h15
        refine cw_seq ?_
        refine cw_region ?_
        refine ol_val (v := v16) (by exact xr_move rfl e8) rfl rfl rfl ?_
        obtain ⟨t48, k49, h⟩ := bs h
        refine ol_op (by exact opv_call rfl cal81 (ac rfl an) (rickyardref11_Dir.ok fu _ e13 v16 (o17.rd) _ k49)) rfl rfl rfl ?_
        rintro _ w51 ⟨rfl, q50⟩
        have o17 := o17.gr q50
        have fB := fB.gr q50
        refine ol_val (v := .tuple #[sv t48.1, .bool t48.2]) (by exact xr_move rfl rfl) rfl rfl rfl ?_
        refine ol_val (v := sv t48.1) (by exact xr_extract rfl rfl rfl) rfl rfl rfl ?_
        refine ol_val (v := .bool t48.2) (by exact xr_extract rfl rfl rfl) rfl rfl rfl ?_
        refine ol_val (v := sv t48.1) (by exact xr_assign rfl rfl) rfl rfl rfl ?_
        refine ol_val (v := .bool t48.2) (by exact xr_assign rfl rfl) rfl rfl rfl ?_
        refine ol_nil ?_
        refine cw_seq ?_
        refine cw_seq ?_
        refine cw_mid (fun ρ' w' => ρ' 8 = v16 ∧ ρ' 57 = .bool (if (!t48.2) = true then true else (!decide (t48.1 = (List.map toB a0)))) ∧ w51 = w') ?_ ?_
        · skip
          refine cw_region ?_
          refine ol_val (v := .bool t48.2) (by exact xr_move rfl rfl) rfl rfl rfl ?_
          refine ol_val (v := .bool (!t48.2)) (by exact xr_not rfl rfl) rfl rfl rfl ?_
          refine ol_val (v := .bool (!t48.2)) (by exact xr_move rfl rfl) rfl rfl rfl ?_
          rcases bt (!t48.2) with c52 | c52
          · skip
            refine ol_gskip rfl rfl rfl rfl rfl c52 ?_
            refine ol_gskip rfl rfl rfl rfl rfl c52 ?_
            refine ol_gskip rfl rfl rfl rfl rfl c52 ?_
            refine ol_gskip rfl rfl rfl rfl rfl c52 ?_
            refine ol_val (v := .bool true) (by exact xr_pickT rfl rfl c52 rfl) rfl rfl rfl ?_
            refine ol_nil ?_
            refine thn_i ?_
            exact ⟨e8, (rfl).trans (congrArg (fun z => (.bool z : Value)) (show true = (if (!t48.2) = true then true else (!decide (t48.1 = (List.map toB a0)))) from by rw [ite_t c52])), rfl⟩
          · skip
            refine ol_gval (v := sv t48.1) (by exact xr_move rfl rfl) rfl rfl rfl rfl rfl c52 ?_
            refine ol_gval (v := V0_0) (by exact xr_move rfl e0) rfl rfl rfl rfl rfl c52 ?_
            refine ol_gval (v := sv (List.map toB a0)) (by exact xr_toStr rfl Try.underlying22 Try.underlying5 Try.underlying9 rfl (R0_0.gr fB)) rfl rfl rfl rfl rfl c52 ?_
            refine ol_gval (v := .bool (!decide (t48.1 = (List.map toB a0)))) (by exact xr_neStr rfl Try.underlying9 rfl rfl) rfl rfl rfl rfl rfl c52 ?_
            refine ol_val (v := .bool (!decide (t48.1 = (List.map toB a0)))) (by exact xr_pickF rfl rfl c52 rfl) rfl rfl rfl ?_
            refine ol_nil ?_
            refine thn_i ?_
            exact ⟨e8, (rfl).trans (congrArg (fun z => (.bool z : Value)) (show (!decide (t48.1 = (List.map toB a0))) = (if (!t48.2) = true then true else (!decide (t48.1 = (List.map toB a0)))) from by rw [ite_f c52])), rfl⟩
        · skip
          rintro ρ53 _ ⟨e8, e57, rfl⟩
          rcases is h with ⟨c54, h⟩ | ⟨c54, h⟩
          · refine cw_condT e57 c54 ?_
            refine cw_seq ?_
            refine cw_region ?_
            refine ol_val (v := .slice none 0 0) (by exact xr_assign rfl rfl) rfl rfl rfl ?_
            refine ol_val (v := .bool false) (by exact xr_assign rfl rfl) rfl rfl rfl ?_
            refine ol_nil ?_
            refine cw_ret ?_
            repeat (first | with_reducible refine thn_r ?_ | with_reducible refine blk_r ?_)
            obtain rfl := Option.some.inj h
            refine fin_ret2 Try.results85 rfl rfl ?_
            exact ⟨_, rfl, (.slice none 0 0), Own.nil _ _ _ _, rfl, fB⟩
          · refine cw_condF e57 c54 ?_
            refine cw_skip ?_
            refine cw_seq ?_
            refine cw_region ?_
            refine ol_val (v := v16) (by exact xr_move rfl e8) rfl rfl rfl ?_
            refine ol_val (v := v16) (by exact xr_assign rfl rfl) rfl rfl rfl ?_
            refine ol_val (v := .bool true) (by exact xr_assign rfl rfl) rfl rfl rfl ?_
            refine ol_nil ?_
            refine cw_ret ?_
            repeat (first | with_reducible refine thn_r ?_ | with_reducible refine blk_r ?_)
            obtain rfl := Option.some.inj h
            refine fin_ret2 Try.results85 rfl rfl ?_
            exact ⟨_, rfl, v16, o17, rfl, fB⟩
end Go.Proofs.Ytjhajfkfhdnciaa

/- rickyard/label.GetDir: its model, and that the Go function computes it: written by gen.py. -/
set_option linter.unusedVariables false
namespace Go.Proofs.Ytjhajfkfhdnciaa
open Go Go.Xw
def label_GetDir.s0 (fu : Nat) (t10 : Int × Int × (List Int) × Bool) : (Int × (List Int)) → Option (Sum (List Int) (Int × (List Int))) := fun s39 => (if (decide (s39.1 < t10.2.1)) = true then (if (0 : Int) ≤ (IntKind.i64.wrap (2 * s39.1)) ∧ (IntKind.i64.wrap (2 * s39.1)) ≤ (IntKind.i64.wrap (2 * (IntKind.i64.wrap (s39.1 + 1)))) ∧ (IntKind.i64.wrap (2 * (IntKind.i64.wrap (s39.1 + 1)))) ≤ (List.length t10.2.2.1 : Int) then ((octet_Read.f fu (cut t10.2.2.1 (IntKind.i64.wrap (2 * s39.1)) (IntKind.i64.wrap (2 * (IntKind.i64.wrap (s39.1 + 1))))) : Option Int).bind fun t56 => (if List.length s39.2 + List.length [(IntKind.i64.wrap t56)] ≤ LIM then some (Sum.inr ((IntKind.i64.wrap (s39.1 + 1)), (s39.2 ++ [(IntKind.i64.wrap t56)]))) else none)) else none) else some (Sum.inl (s39.2)))
def label_GetDir.f (fu : Nat) (a0 : List Int) : Option (S_api_Dir × Bool) := ((block_Open.f fu a0 : Option (Int × Int × (List Int) × Bool)).bind fun t10 => (((if (!t10.2.2.2) = true then some (true) else (if (!decide (t10.1 = 6)) = true then some (true) else (if (decide (t10.2.1 > 16)) = true then some (true) else ((octet_Noughts.f fu t10.2.2.1 (IntKind.i64.wrap (2 * t10.2.1)) (IntKind.i64.wrap ((List.length t10.2.2.1 : Int) - (IntKind.i64.wrap (2 * t10.2.1)))) : Option Bool).bind fun t22 => some ((!t22)))))) : Option Bool).bind fun x17 => (if x17 = true then some ((⟨[]⟩ : S_api_Dir), false) else ((loopM (label_GetDir.s0 fu t10) fu (0, [])).bind fun e40 => ((label_RightDir.f fu (⟨e40⟩ : S_api_Dir) : Option Bool).bind fun t87 => (if (!t87) = true then some ((⟨[]⟩ : S_api_Dir), false) else some ((⟨e40⟩ : S_api_Dir), true)))))))
set_option maxRecDepth 100000 in
set_option maxHeartbeats 400000 in
theorem label_GetDir.ok (fu : Nat) (w : World) (a0 : List Int) (V0_0 : Value) (R0_0 : Rd (kI .u8) w V0_0 a0) (r : S_api_Dir × Bool) (h : label_GetDir.f fu a0 = some r) :
    Calls Try.prog 82 (([V0_0] : List Value).toArray) w (fun e w' => ∃ v, e = .returned v ∧ ∃ u1 : Value, ∃ o2 : Own (kI .i64) 3 w' w.heap.size u1 r.1.Queues, v = .tuple #[aggV [Seg.cell u1 o2.one], .bool r.2] ∧ Gr w w') := by
  unfold label_GetDir.f at h
  have fB : Gr w w := Fr.refl _ _
  refine calls_cw Try.func82 rfl Try.ntmps82 rfl ?_
  refine cw_seq ?_
  refine cw_region ?_
  refine ol_op (by exact opv_alloc (ss := [Seg.cell (.slice none 0 0) (by rfl)]) rfl ze107 rfl) rfl rfl rfl ?_
  rintro _ w9 ⟨G4, rfl, b5, q6, z7⟩
  have z7 := Nat.le_trans fB.size z7
  have fB := fB.gr q6
  refine ol_val (v := .bool false) (by exact xr_assign rfl rfl) rfl rfl rfl ?_
  refine ol_nil ?_
  refine cw_seq ?_
  refine cw_region ?_
  refine ol_val (v := V0_0) (by exact xr_move rfl rfl) rfl rfl rfl ?_
  obtain ⟨t10, k11, h⟩ := bs h
  refine ol_op (by exact opv_call rfl cal29 (ac rfl an) (block_Open.ok fu _ a0 V0_0 (R0_0.gr fB) _ k11)) rfl rfl rfl ?_
  rintro _ w16 ⟨u12, o13, rfl, q15⟩
  have o13 := Own.base o13 fB.size
  have b5 := b5.gr q15
  have fB := fB.gr q15
  refine ol_val (v := .tuple #[.int .i64 t10.1, .int .i64 t10.2.1, u12, .bool t10.2.2.2]) (by exact xr_move rfl rfl) rfl rfl rfl ?_
  refine ol_val (v := .int .i64 t10.1) (by exact xr_extract rfl rfl rfl) rfl rfl rfl ?_
  refine ol_val (v := .int .i64 t10.2.1) (by exact xr_extract rfl rfl rfl) rfl rfl rfl ?_
  refine ol_val (v := u12) (by exact xr_extract rfl rfl rfl) rfl rfl rfl ?_
  refine ol_val (v := .bool t10.2.2.2) (by exact xr_extract rfl rfl rfl) rfl rfl rfl ?_
  refine ol_val (v := .int .i64 t10.1) (by exact xr_assign rfl rfl) rfl rfl rfl ?_
  refine ol_val (v := .int .i64 t10.2.1) (by exact xr_assign rfl rfl) rfl rfl rfl ?_
  refine ol_val (v := u12) (by exact xr_assign rfl rfl) rfl rfl rfl ?_
  refine ol_val (v := .bool t10.2.2.2) (by exact xr_assign rfl rfl) rfl rfl rfl ?_
  refine ol_nil ?_
  refine cw_seq ?_
  refine cw_seq ?_
  obtain ⟨x17, j18, h⟩ := bs h
  refine cw_mid (fun ρ' w' => ρ' 2 = .pointer (some ⟨G4, 0, none⟩) ∧ ρ' 5 = .int .i64 t10.2.1 ∧ ρ' 6 = u12 ∧ ρ' 38 = .bool x17 ∧ Gr w16 w') ?_ ?_
  · skip
    refine cw_region ?_
    refine ol_val (v := .bool t10.2.2.2) (by exact xr_move rfl rfl) rfl rfl rfl ?_
    refine ol_val (v := .bool (!t10.2.2.2)) (by exact xr_not rfl rfl) rfl rfl rfl ?_
    refine ol_val (v := .bool (!t10.2.2.2)) (by exact xr_move rfl rfl) rfl rfl rfl ?_
    rcases is j18 with ⟨c19, j18⟩ | ⟨c19, j18⟩
    · skip
      refine ol_gskip rfl rfl rfl rfl rfl c19 ?_
      refine ol_gskip rfl rfl rfl rfl rfl c19 ?_
      refine ol_val (v := .bool true) (by exact xr_pickT rfl rfl c19 rfl) rfl rfl rfl ?_
      refine ol_val (v := .bool true) (by exact xr_move rfl rfl) rfl rfl rfl ?_
      refine ol_gskip rfl rfl rfl rfl rfl rfl ?_
      refine ol_gskip rfl rfl rfl rfl rfl rfl ?_
      refine ol_val (v := .bool true) (by exact xr_pickT rfl rfl rfl rfl) rfl rfl rfl ?_
      refine ol_val (v := .bool true) (by exact xr_move rfl rfl) rfl rfl rfl ?_
      refine ol_gskip rfl rfl rfl rfl rfl rfl ?_
      refine ol_gskip rfl rfl rfl rfl rfl rfl ?_
      refine ol_gskip rfl rfl rfl rfl rfl rfl ?_
      refine ol_gskip rfl rfl rfl rfl rfl rfl ?_
      refine ol_gskip rfl rfl rfl rfl rfl rfl ?_
      refine ol_gskip rfl rfl rfl rfl rfl rfl ?_
      refine ol_gskip rfl rfl rfl rfl rfl rfl ?_
      refine ol_gskip rfl rfl rfl rfl rfl rfl ?_
      refine ol_gskip rfl rfl rfl rfl rfl rfl ?_
      refine ol_gskip rfl rfl rfl rfl rfl rfl ?_
      refine ol_val (v := .bool true) (by exact xr_pickT rfl rfl rfl rfl) rfl rfl rfl ?_
      refine ol_nil ?_
      obtain rfl := Option.some.inj j18
      refine thn_i ?_
      exact ⟨rfl, rfl, rfl, rfl, Fr.refl _ _⟩
    · skip
      refine ol_gval (v := .int .i64 t10.1) (by exact xr_move rfl rfl) rfl rfl rfl rfl rfl c19 ?_
      refine ol_gval (v := .bool (!decide (t10.1 = 6))) (by exact xr_neI rfl Try.underlying3 rfl rfl rfl) rfl rfl rfl rfl rfl c19 ?_
      refine ol_val (v := .bool (!decide (t10.1 = 6))) (by exact xr_pickF rfl rfl c19 rfl) rfl rfl rfl ?_
      refine ol_val (v := .bool (!decide (t10.1 = 6))) (by exact xr_move rfl rfl) rfl rfl rfl ?_
      rcases is j18 with ⟨c20, j18⟩ | ⟨c20, j18⟩
      · skip
        refine ol_gskip rfl rfl rfl rfl rfl c20 ?_
        refine ol_gskip rfl rfl rfl rfl rfl c20 ?_
        refine ol_val (v := .bool true) (by exact xr_pickT rfl rfl c20 rfl) rfl rfl rfl ?_
        refine ol_val (v := .bool true) (by exact xr_move rfl rfl) rfl rfl rfl ?_
        refine ol_gskip rfl rfl rfl rfl rfl rfl ?_
        refine ol_gskip rfl rfl rfl rfl rfl rfl ?_
        refine ol_gskip rfl rfl rfl rfl rfl rfl ?_
        refine ol_gskip rfl rfl rfl rfl rfl rfl ?_
        refine ol_gskip rfl rfl rfl rfl rfl rfl ?_
        refine ol_gskip rfl rfl rfl rfl rfl rfl ?_
        refine ol_gskip rfl rfl rfl rfl rfl rfl ?_
        refine ol_gskip rfl rfl rfl rfl rfl rfl ?_
        refine ol_gskip rfl rfl rfl rfl rfl rfl ?_
        refine ol_gskip rfl rfl rfl rfl rfl rfl ?_
        refine ol_val (v := .bool true) (by exact xr_pickT rfl rfl rfl rfl) rfl rfl rfl ?_
        refine ol_nil ?_
        obtain rfl := Option.some.inj j18
        refine thn_i ?_
        exact ⟨rfl, rfl, rfl, rfl, Fr.refl _ _⟩
      · skip
        refine ol_gval (v := .int .i64 t10.2.1) (by exact xr_move rfl rfl) rfl rfl rfl rfl rfl c20 ?_
        refine ol_gval (v := .bool (decide (t10.2.1 > 16))) (by exact xr_gtr rfl rfl rfl) rfl rfl rfl rfl rfl c20 ?_
        refine ol_val (v := .bool (decide (t10.2.1 > 16))) (by exact xr_pickF rfl rfl c20 rfl) rfl rfl rfl ?_
        refine ol_val (v := .bool (decide (t10.2.1 > 16))) (by exact xr_move rfl rfl) rfl rfl rfl ?_
        rcases is j18 with ⟨c21, j18⟩ | ⟨c21, j18⟩
        · skip
          refine ol_gskip rfl rfl rfl rfl rfl c21 ?_
          refine ol_gskip rfl rfl rfl rfl rfl c21 ?_
          refine ol_gskip rfl rfl rfl rfl rfl c21 ?_
          refine ol_gskip rfl rfl rfl rfl rfl c21 ?_
          refine ol_gskip rfl rfl rfl rfl rfl c21 ?_
          refine ol_gskip rfl rfl rfl rfl rfl c21 ?_
          refine ol_gskip rfl rfl rfl rfl rfl c21 ?_
          refine ol_gskip rfl rfl rfl rfl rfl c21 ?_
          refine ol_gskip rfl rfl rfl rfl rfl c21 ?_
          refine ol_gskip rfl rfl rfl rfl rfl c21 ?_
          refine ol_val (v := .bool true) (by exact xr_pickT rfl rfl c21 rfl) rfl rfl rfl ?_
          refine ol_nil ?_
          obtain rfl := Option.some.inj j18
          refine thn_i ?_
          exact ⟨rfl, rfl, rfl, rfl, Fr.refl _ _⟩
        · skip
          refine ol_gval (v := u12) (by exact xr_move rfl rfl) rfl rfl rfl rfl rfl c21 ?_
          refine ol_gval (v := .int .i64 t10.2.1) (by exact xr_move rfl rfl) rfl rfl rfl rfl rfl c21 ?_
          refine ol_gval (v := .int .i64 (IntKind.i64.wrap (2 * t10.2.1))) (by exact xr_mul rfl rfl rfl) rfl rfl rfl rfl rfl c21 ?_
          refine ol_gval (v := u12) (by exact xr_move rfl rfl) rfl rfl rfl rfl rfl c21 ?_
          refine ol_gval (v := .int .i64 (List.length t10.2.2.1 : Int)) (by exact xr_lenR rfl Try.underlying22 rfl o13.rd) rfl rfl rfl rfl rfl c21 ?_
          refine ol_gval (v := .int .i64 t10.2.1) (by exact xr_move rfl rfl) rfl rfl rfl rfl rfl c21 ?_
          refine ol_gval (v := .int .i64 (IntKind.i64.wrap (2 * t10.2.1))) (by exact xr_mul rfl rfl rfl) rfl rfl rfl rfl rfl c21 ?_
          refine ol_gval (v := .int .i64 (IntKind.i64.wrap ((List.length t10.2.2.1 : Int) - (IntKind.i64.wrap (2 * t10.2.1))))) (by exact xr_sub rfl rfl rfl) rfl rfl rfl rfl rfl c21 ?_
          obtain ⟨t22, k23, j18⟩ := bs j18
          refine ol_gop (by exact opv_call rfl cal102 (ac rfl (ac rfl (ac rfl an))) (octet_Noughts.ok fu _ t10.2.2.1 u12 (o13.rd) (IntKind.i64.wrap (2 * t10.2.1)) (IntKind.i64.wrap ((List.length t10.2.2.1 : Int) - (IntKind.i64.wrap (2 * t10.2.1)))) _ k23)) rfl rfl rfl rfl rfl c21 ?_
          rintro _ w25 ⟨rfl, q24⟩
          have b5 := b5.gr q24
          have o13 := o13.gr q24
          have fB := fB.gr q24
          refine ol_gval (v := .bool (!t22)) (by exact xr_not rfl rfl) rfl rfl rfl rfl rfl c21 ?_
          refine ol_val (v := .bool (!t22)) (by exact xr_pickF rfl rfl c21 rfl) rfl rfl rfl ?_
          refine ol_nil ?_
          obtain rfl := Option.some.inj j18
          refine thn_i ?_
          exact ⟨rfl, rfl, rfl, rfl, q24⟩
  · skip
    rintro ρ26 w27 ⟨e2, e5, e6, e38, q28⟩
    have b5 := b5.gr q28
    have o13 := o13.gr q28
    have fB := fB.gr q28
    rcases is h with ⟨c29, h⟩ | ⟨c29, h⟩
    · refine cw_condT e38 c29 ?_
      refine cw_seq ?_
      refine cw_region ?_
      refine ol_val (v := aggV [Seg.cell (.slice none 0 0) (by rfl)]) (by exact xr_build (vals := []) rfl trivial (bl107_ _)) rfl rfl rfl ?_
      refine ol_op0 (by exact opv_store (ss' := [Seg.cell (.slice none 0 0) (by rfl)]) (xs := cellsOf [Seg.cell (.slice none 0 0) (by rfl)]) rfl sz107 e2 rfl rfl (len_cellsOf _) (one_cellsOf _) b5 (Spl.segs _ 0 1 [Seg.cell (.slice none 0 0) (by rfl)] rfl rfl)) rfl rfl ?_
      rintro _ w31 ⟨b5, q30⟩
      have fB := fB.wr q30 z7
      refine ol_val (v := .bool false) (by exact xr_assign rfl rfl) rfl rfl rfl ?_
      refine ol_nil ?_
      refine cw_ret ?_
      repeat (first | with_reducible refine thn_r ?_ | with_reducible refine blk_r ?_)
      obtain rfl := Option.some.inj h
      refine fin_cell_tmp Try.results82 e2 ag107 sz107 b5 (by rfl) rfl ?_
      exact ⟨_, rfl, (.slice none 0 0), Own.nil _ _ _ _, rfl, fB⟩
    · refine cw_condF e38 c29 ?_
      refine cw_skip ?_
      refine cw_seq ?_
      refine cw_region ?_
      refine ol_op (by exact opv_alloc (ss := [Seg.cell (.slice none 0 0) (by rfl)]) rfl ze107 rfl) rfl rfl rfl ?_
      rintro _ w37 ⟨G32, rfl, b33, q34, z35⟩
      have n38 := b5.ne z35
      have z35 := Nat.le_trans fB.size z35
      have b5 := b5.gr q34
      have o13 := o13.gr q34
      have fB := fB.gr q34
      refine ol_nil ?_
      refine cw_seq ?_
      refine cw_seq ?_
      refine cw_region ?_
      refine ol_val (v := .int .i64 t10.2.1) (by exact xr_move rfl e5) rfl rfl rfl ?_
      refine ol_val (v := .int .i64 0) (by exact xr_move rfl rfl) rfl rfl rfl ?_
      refine ol_nil ?_
      obtain ⟨e40, l41, h42⟩ := bs h
      refine cw_mid (fun ρ' w' => ∃ v43 : Value, ∃ o44 : Own (kI .i64) 3 w' w.heap.size v43 e40, ρ' 2 = .pointer (some ⟨G4, 0, none⟩) ∧ ρ' 8 = .pointer (some ⟨G32, 0, none⟩) ∧ Blk w' G4 107 [Seg.cell (.slice none 0 0) (by rfl)] ∧ Blk w' G32 107 [Seg.cell v43 o44.one] ∧ Gr w w') ?_ ?_
      · refine cw_block ?_
        refine cw_round (fun (s39 : Int × (List Int)) ρ' w' => ∃ v46 : Value, ∃ o13 : Own (kI .u8) 5 w' w.heap.size u12 t10.2.2.1, ∃ o47 : Own (kI .i64) 3 w' w.heap.size v46 s39.2, ρ' 2 = .pointer (some ⟨G4, 0, none⟩) ∧ ρ' 6 = u12 ∧ ρ' 8 = .pointer (some ⟨G32, 0, none⟩) ∧ ρ' 40 = .int .i64 t10.2.1 ∧ ρ' 41 = .int .i64 s39.1 ∧ Blk w' G4 107 [Seg.cell (.slice none 0 0) (by rfl)] ∧ Blk w' G32 107 [Seg.cell v46 o47.one] ∧ Gr w w') l41 ?_ ?_
        · skip
          exact ⟨(.slice none 0 0), o13, Own.nil _ _ _ _, e2, e6, rfl, rfl, rfl, b5, b33, fB⟩
        · rintro s39 x51 ρ49 w50 ⟨v46, o13, o47, e2, e6, e8, e40, e41, b5, b33, fB⟩ h
          unfold label_GetDir.s0 at h
          refine cw_seq ?_
          refine cw_region ?_
          refine ol_val (v := .bool (decide (s39.1 < t10.2.1))) (by exact xr_lss rfl e41 e40) rfl rfl rfl ?_
          refine ol_nil ?_
          refine cw_seq ?_
          rcases is h with ⟨c52, h⟩ | ⟨c52, h⟩
          · refine cw_condT rfl c52 ?_
            refine cw_skip ?_
            refine cw_seq ?_
            refine cw_block ?_
            refine cw_seq ?_
            refine cw_region ?_
            refine ol_val (v := .int .i64 s39.1) (by exact xr_move rfl e41) rfl rfl rfl ?_
            refine ol_val (v := .int .i64 s39.1) (by exact xr_assign rfl rfl) rfl rfl rfl ?_
            refine ol_nil ?_
            obtain ⟨g54, h⟩ := gs h
            obtain ⟨t56, k57, h⟩ := bs h
            refine cw_drawL 12 [fun vz wz => vz = (.pointer (some ⟨G32, 0, none⟩) : Value), fun vz wz => vz = (v46 : Value), fun vz wz => vz = (u12 : Value), fun vz wz => vz = (.int .i64 s39.1 : Value), fun vz wz => vz = (.int .i64 (IntKind.i64.wrap (2 * s39.1)) : Value), fun vz wz => vz = (.int .i64 s39.1 : Value), fun vz wz => vz = (.int .i64 (IntKind.i64.wrap (s39.1 + 1)) : Value), fun vz wz => vz = (.int .i64 (IntKind.i64.wrap (2 * (IntKind.i64.wrap (s39.1 + 1)))) : Value), fun vz wz => ∃ u55 : Value, ∃ r53 : Rd (kI .u8) wz u55 (cut t10.2.2.1 (IntKind.i64.wrap (2 * s39.1)) (IntKind.i64.wrap (2 * (IntKind.i64.wrap (s39.1 + 1))))), vz = (u55 : Value), fun vz wz => vz = (.int .u64 t56 : Value), fun vz wz => vz = (.int .i64 (IntKind.i64.wrap t56) : Value), fun vz wz => ∃ v59 : Value, ∃ o61 : Own (kI .i64) 3 wz w.heap.size v59 [(IntKind.i64.wrap t56)], vz = (v59 : Value)] mo rfl ⟨fun _ _ _ h _ => h, fun _ _ _ h _ => h, fun _ _ _ h _ => h, fun _ _ _ h _ => h, fun _ _ _ h _ => h, fun _ _ _ h _ => h, fun _ _ _ h _ => h, fun _ _ _ h _ => h, fun _ _ _ ⟨u55, r53, h⟩ q => ⟨u55, r53.gr q, h⟩, fun _ _ _ h _ => h, fun _ _ _ h _ => h, fun _ _ _ ⟨v59, o61, h⟩ q => ⟨v59, o61.gr q, h⟩, trivial⟩ ?_ ?_
            · refine ⟨?_, ?_, ?_, ?_, ?_, ?_, ?_, ?_, ?_, ?_, ?_, ?_, trivial⟩
              · intro ρz wz hz hk hd
                exact sk_val (v := .pointer (some ⟨G32, 0, none⟩)) (by exact xr_fieldAddr (p := 0) (q := 0) rfl fl107_0 ((hk 8 rfl).trans e8)) rfl rfl
              · intro ρz wz hz hk hd
                have d44 := hd 0 rfl 44 rfl
                exact sk_val (v := v46) (by exact xr_load1 (v := v46) rfl ag45 d44 ((b33.gr hz).seg 0 rfl rfl)) rfl rfl
              · intro ρz wz hz hk hd
                exact sk_val (v := u12) (by exact xr_move rfl ((hk 6 rfl).trans e6)) rfl rfl
              · intro ρz wz hz hk hd
                exact sk_val (v := .int .i64 s39.1) (by exact xr_move rfl ((hk 9 rfl).trans rfl)) rfl rfl
              · intro ρz wz hz hk hd
                have d47 := hd 3 rfl 47 rfl
                exact sk_val (v := .int .i64 (IntKind.i64.wrap (2 * s39.1))) (by exact xr_mul rfl rfl d47) rfl rfl
              · intro ρz wz hz hk hd
                exact sk_val (v := .int .i64 s39.1) (by exact xr_move rfl ((hk 9 rfl).trans rfl)) rfl rfl
              · intro ρz wz hz hk hd
                have d49 := hd 5 rfl 49 rfl
                exact sk_val (v := .int .i64 (IntKind.i64.wrap (s39.1 + 1))) (by exact xr_add rfl d49 rfl) rfl rfl
              · intro ρz wz hz hk hd
                have d50 := hd 6 rfl 50 rfl
                exact sk_val (by exact xr_mul rfl rfl d50) rfl rfl
              · intro ρz wz hz hk hd
                have d46 := hd 2 rfl 46 rfl
                have d48 := hd 4 rfl 48 rfl
                have d51 := hd 7 rfl 51 rfl
                exact sk_val (by exact xr_slice_lh (K := (kI .u8)) (v := u12) rfl Try.underlying22 sz5 d46 (o13.gr hz).rd d48 d51 g54.1 g54.2.1 g54.2.2) rfl ⟨_, (o13.gr hz).rd.cut (lo := (IntKind.i64.wrap (2 * s39.1))) (hi := (IntKind.i64.wrap (2 * (IntKind.i64.wrap (s39.1 + 1))))) g54.1 g54.2.1 g54.2.2, rfl⟩
              · intro ρz wz hz hk hd
                obtain ⟨u55, r53, d52⟩ := hd 8 rfl 52 rfl
                refine sk_op (by exact opv_call rfl cal112 (ac d52 an) (octet_Read.ok fu _ (cut t10.2.2.1 (IntKind.i64.wrap (2 * s39.1)) (IntKind.i64.wrap (2 * (IntKind.i64.wrap (s39.1 + 1))))) u55 (r53) _ k57)) rfl ?_
                rintro _ wy ⟨rfl, q58⟩
                exact ⟨rfl, q58⟩
              · intro ρz wz hz hk hd
                have d53 := hd 9 rfl 53 rfl
                exact sk_val (v := .int .i64 (IntKind.i64.wrap t56)) (by exact xr_conv rfl Try.underlying129 Try.underlying3 d53) rfl rfl
              · intro ρz wz hz hk hd
                have d54 := hd 10 rfl 54 rfl
                refine sk_op (by exact opv_buildSlice (K := (kI .i64)) (xs := [(IntKind.i64.wrap t56)]) (vals := [.int .i64 (IntKind.i64.wrap t56)]) rfl Try.underlying45 el3 rfl rfl ⟨rfl, d54, trivial⟩ rfl rfl rfl (Nat.le_trans fB.size hz.size)) rfl ?_
                rintro v59 wy ⟨o61, q60, z62⟩
                exact ⟨⟨v59, o61, rfl⟩, q60⟩
            · intro ρ64 w65 q66 hk hd
              have e2 := (hk 2 rfl).trans e2
              have e6 := (hk 6 rfl).trans e6
              have e8 := (hk 8 rfl).trans e8
              have e40 := (hk 40 rfl).trans e40
              have e41 := (hk 41 rfl).trans e41
              have e45 := hd 1 rfl 45 rfl
              obtain ⟨v67, o68, e55⟩ := hd 11 rfl 55 rfl
              have b5 := b5.gr q66
              have b33 := b33.gr q66
              have o13 := o13.gr q66
              have o47 := o47.gr q66
              have fB := fB.gr q66
              obtain ⟨g74, h⟩ := gs h
              have f76 := off_ty b5 o47 (by decide)
              have f77 := off_ty b33 o47 (by decide)
              have f78 := OffV.ty o13 o47 (by decide)
              have f79 := o47.geO
              refine ol_op (by exact opv_append (K := (kI .i64)) rfl Try.underlying45 el3 rfl rfl rfl e45 e55 o47 o68.rd g74 fB.size) rfl rfl rfl ?_
              rintro v70 w80 ⟨o71, q72, n73⟩
              have b5 := b5.wrO q72 f76
              have b33 := b33.wrO q72 f77
              have o13 := o13.wrV q72 f78
              have fB := fB.wrO q72 f79
              refine ol_val (v := .pointer (some ⟨G32, 0, none⟩)) (by exact xr_fieldAddr (p := 0) (q := 0) rfl fl107_0 e8) rfl rfl rfl ?_
              have f82 := off_ty b33 o13 (by decide)
              have f83 := off_ty b33 o71 (by decide)
              refine ol_op0 (by exact opv_store (ss' := [Seg.cell v70 o71.one]) (xs := cellsOf [Seg.cell v70 o71.one]) rfl sz45 rfl rfl (cells_one o71.one) (len_cellsOf _) (one_cellsOf _) b33 (Spl.segs _ 0 1 [Seg.cell v70 o71.one] rfl rfl)) rfl rfl ?_
              rintro _ w84 ⟨b33, q81⟩
              have b5 := b5.wr q81 n38
              have o13 := o13.wr q81 f82
              have o71 := o71.wr q81 f83
              have fB := fB.wr q81 z35
              refine ol_nil ?_
              refine blk_i ?_
              refine cw_region ?_
              refine ol_val (v := .int .i64 (IntKind.i64.wrap (s39.1 + 1))) (by exact xr_add rfl e41 rfl) rfl rfl rfl ?_
              refine ol_val (v := .int .i64 (IntKind.i64.wrap (s39.1 + 1))) (by exact xr_move rfl rfl) rfl rfl rfl ?_
              refine ol_nil ?_
              obtain rfl := Option.some.inj h
              refine lp_in ?_
              exact ⟨v70, o13, o71, e2, e6, e8, e40, rfl, b5, b33, fB⟩
          · refine cw_condF rfl c52 ?_
            refine cw_exit ?_
            repeat (first | with_reducible refine thn_e ?_ | with_reducible refine blk_e rfl ?_)
            obtain rfl := Option.some.inj h
            refine lp_exit ?_
            rintro rfl
            refine thn_x ?_
            exact ⟨v46, o47, e2, e8, b5, b33, fB⟩
      · rintro ρ85 w86 ⟨v43, o44, e2, e8, b5, b33, fB⟩
        have h := h42
        refine cw_seq ?_
        refine cw_seq ?_
        refine cw_region ?_
        refine ol_val (v := aggV [Seg.cell v43 o44.one]) (by exact xr_loadS (ss := [Seg.cell v43 o44.one]) rfl ag107 sz107 rfl e8 (b33.segs 0 1 rfl)) rfl rfl rfl ?_
        obtain ⟨t87, k88, h⟩ := bs h
        refine ol_op (by exact opv_call rfl cal83 (ac rfl an) (label_RightDir.ok fu _ (⟨e40⟩ : S_api_Dir) v43 (o44.rd) _ k88)) rfl rfl rfl ?_
        rintro _ w90 ⟨rfl, q89⟩
        have b5 := b5.gr q89
        have b33 := b33.gr q89
        have o44 := o44.gr q89
        have fB := fB.gr q89
        refine ol_val (v := .bool (!t87)) (by exact xr_not rfl rfl) rfl rfl rfl ?_
        refine ol_nil ?_
        rcases is h with ⟨c91, h⟩ | ⟨c91, h⟩
        · refine cw_condT rfl c91 ?_
          refine cw_seq ?_
          refine cw_region ?_
          refine ol_val (v := aggV [Seg.cell (.slice none 0 0) (by rfl)]) (by exact xr_build (vals := []) rfl trivial (bl107_ _)) rfl rfl rfl ?_
          refine ol_op0 (by exact opv_store (ss' := [Seg.cell (.slice none 0 0) (by rfl)]) (xs := cellsOf [Seg.cell (.slice none 0 0) (by rfl)]) rfl sz107 e2 rfl rfl (len_cellsOf _) (one_cellsOf _) b5 (Spl.segs _ 0 1 [Seg.cell (.slice none 0 0) (by rfl)] rfl rfl)) rfl rfl ?_
          rintro _ w93 ⟨b5, q92⟩
          have fB := fB.wr q92 z7
          refine ol_val (v := .bool false) (by exact xr_assign rfl rfl) rfl rfl rfl ?_
          refine ol_nil ?_
          refine cw_ret ?_
          repeat (first | with_reducible refine thn_r ?_ | with_reducible refine blk_r ?_)
          obtain rfl := Option.some.inj h
          refine fin_cell_tmp Try.results82 e2 ag107 sz107 b5 (by rfl) rfl ?_
          exact ⟨_, rfl, (.slice none 0 0), Own.nil _ _ _ _, rfl, fB⟩
        · refine cw_condF rfl c91 ?_
          refine cw_skip ?_
          refine cw_seq ?_
          refine cw_region ?_
          refine ol_val (v := aggV [Seg.cell v43 o44.one]) (by exact xr_loadS (ss := [Seg.cell v43 o44.one]) rfl ag107 sz107 rfl e8 (b33.segs 0 1 rfl)) rfl rfl rfl ?_
          have f95 := off_ty b5 o44 (by decide)
          refine ol_op0 (by exact opv_store (ss' := [Seg.cell v43 o44.one]) (xs := cellsOf [Seg.cell v43 o44.one]) rfl sz107 e2 rfl rfl (len_cellsOf _) (one_cellsOf _) b5 (Spl.segs _ 0 1 [Seg.cell v43 o44.one] rfl rfl)) rfl rfl ?_
          rintro _ w96 ⟨b5, q94⟩
          have o44 := o44.wr q94 f95
          have fB := fB.wr q94 z7
          refine ol_val (v := .bool true) (by exact xr_assign rfl rfl) rfl rfl rfl ?_
          refine ol_nil ?_
          refine cw_ret ?_
          repeat (first | with_reducible refine thn_r ?_ | with_reducible refine blk_r ?_)
          obtain rfl := Option.some.inj h
          refine fin_cell_tmp Try.results82 e2 ag107 sz107 b5 (by rfl) rfl ?_
          exact ⟨_, rfl, v43, o44, rfl, fB⟩
end Go.Proofs.Ytjhajfkfhdnciaa
