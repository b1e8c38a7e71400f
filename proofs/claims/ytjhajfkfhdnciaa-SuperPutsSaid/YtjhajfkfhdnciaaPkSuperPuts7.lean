/- SuperPuts: texts merged, part 7 of 7. The last part proves that the law SuperPuts holds for every input. -/
import Derived.Test.YtjhajfkfhdnciaaPkSuperPuts6
/- Blocks in plain words: how one is sealed, which octets are one, as the program and the document tell it. -/
set_option linter.unusedVariables false
set_option linter.unusedSimpArgs false
namespace Go.Proofs.Ytjhajfkfhdnciaa.Pure
open Go Go.Xw
theorem toB_inj {a b : Int} (ha : 0 ≤ a ∧ a ≤ 255) (hb : 0 ≤ b ∧ b ≤ 255) (h : toB a = toB b) : a = b := by
  unfold toB at h
  have := congrArg UInt8.toNat h
  simp only [UInt8.toNat_ofNat'] at this
  omega
theorem map_toB_inj : ∀ {a b : List Int}, Bytes a → Bytes b → a.map toB = b.map toB → a = b
  | [], [], _, _, _ => rfl
  | [], _ :: _, _, _, h => by simp at h
  | _ :: _, [], _, _, h => by simp at h
  | x :: a, y :: b, ha, hb, h => by
    simp only [List.map_cons, List.cons.injEq] at h
    rw [toB_inj (ha x (by simp)) (hb y (by simp)) h.1, map_toB_inj (fun z hz => ha z (by simp [hz])) (fun z hz => hb z (by simp [hz])) h.2]
theorem map_toB_iff {a b : List Int} (ha : Bytes a) (hb : Bytes b) : (a.map toB = b.map toB) ↔ a = b := ⟨map_toB_inj ha hb, fun h => by rw [h]⟩
theorem of_toB {l : List Int} (h : Bytes l) : (l.map toB).map ofB = l := by
  rw [List.map_map]
  conv => rhs; rw [← List.map_id l]
  apply List.map_congr_left
  intro x hx
  have := h x hx
  simp only [Function.comp, ofB, toB, UInt8.toNat_ofNat', id]
  omega
theorem Bytes.app {a b : List Int} (ha : Bytes a) (hb : Bytes b) : Bytes (a ++ b) := by
  intro x hx
  rcases List.mem_append.1 hx with h | h
  · exact ha x h
  · exact hb x h
theorem Bytes.rep (n : Nat) : Bytes (List.replicate n (0 : Int)) := by
  intro x hx
  obtain rfl := List.eq_of_mem_replicate hx
  omega
theorem Bytes.drop {l : List Int} (h : Bytes l) (n : Nat) : Bytes (l.drop n) := fun x hx => h x (List.mem_of_mem_drop hx)
theorem Bytes.take {l : List Int} (h : Bytes l) (n : Nat) : Bytes (l.take n) := fun x hx => h x (List.mem_of_mem_take hx)
/-- What is summed: kind, tag, a gap, the body with noughts behind it. -/
def summed (k t : Int) (body : List Int) : List Int := [k, t, 0, 0] ++ (body ++ List.replicate (56 - body.length) 0)
def sealed (s : List Int) : List Int := lay (crc s).toNat 4 ++ s
theorem summed_len {k t : Int} {body : List Int} (h : body.length ≤ 56) : (summed k t body).length = 60 := by
  simp [summed]
  omega
theorem summed_bytes {k t : Int} {body : List Int} (hk : 0 ≤ k ∧ k ≤ 255) (ht : 0 ≤ t ∧ t ≤ 255) (hb : Bytes body) : Bytes (summed k t body) := by
  refine Bytes.app ?_ (Bytes.app hb (Bytes.rep _))
  intro x hx
  simp only [List.mem_cons, List.not_mem_nil, or_false] at hx
  rcases hx with rfl | rfl | rfl | rfl <;> omega
theorem sealed_len {s : List Int} (h : s.length = 60) : (sealed s).length = 64 := by
  simp [sealed, lay_len, h]
theorem sealed_bytes {s : List Int} (h : Bytes s) : Bytes (sealed s) := Bytes.app (lay_bytes _ _) h
theorem x2_eq (k t : Int) : List.set (List.set (List.replicate (Int.toNat 64) (0 : Int)) (Int.toNat 4) k) (Int.toNat 5) t = [0, 0, 0, 0, k, t, 0, 0] ++ List.replicate 56 (0 : Int) := rfl
theorem x3_eq {k t : Int} {body : List Int} (h : body.length ≤ 56) : splL ([0, 0, 0, 0, k, t, 0, 0] ++ List.replicate 56 (0 : Int)) (Int.toNat 8) (List.take (List.length ([0, 0, 0, 0, k, t, 0, 0] ++ List.replicate 56 (0 : Int)) - Int.toNat 8) body) = [0, 0, 0, 0] ++ summed k t body := by
  have e : List.take (List.length ([0, 0, 0, 0, k, t, 0, 0] ++ List.replicate 56 (0 : Int)) - Int.toNat 8) body = body := List.take_of_length_le (by simpa using h)
  rw [e]
  have e2 : List.drop (8 + body.length) ([0, 0, 0, 0, k, t, 0, 0] ++ List.replicate 56 (0 : Int)) = List.replicate (56 - body.length) 0 := by
    have h8 : ([0, 0, 0, 0, k, t, 0, 0] : List Int).length = 8 := rfl
    rw [List.drop_append, List.drop_eq_nil_of_le (by rw [h8]; omega), List.nil_append, h8, List.drop_replicate]
    congr 1
    omega
  unfold splL summed
  rw [show (Int.toNat 8) = 8 from rfl, e2]
  simp
theorem lay4_eq {fu : Nat} (x : BitVec 32) (hf : 8 < fu) : octet_Lay.f fu (IntKind.u64.wrap (I32 x)) 4 = some (lay x.toNat 4) := by
  have hb := I32_lt x
  rw [wu64 hb.1 (by omega)]
  exact olay_eq (n := 4) (by decide) (by omega)
theorem rlay4_eq {fu : Nat} (x : BitVec 32) (hf : 8 < fu) : rickyardref01_Lay.f fu (IntKind.u64.wrap (I32 x)) 4 = some ((lay x.toNat 4).map toB) := by
  have hb := I32_lt x
  rw [wu64 hb.1 (by omega)]
  exact rlay_eq (n := 4) (by have := x.isLt; omega) (by decide) (by omega)
theorem seal_eq {fu : Nat} {k t : Int} {body : List Int} (hb : Bytes body) (hk : 1 ≤ k ∧ k ≤ 255) (ht : 0 ≤ t ∧ t ≤ 255) (hl : body.length ≤ 56) (hf : 100 < fu) : block_Seal.f fu k t body = some (sealed (summed k t body), true) := by
  have hs := summed_len (k := k) (t := t) hl
  have hsb := summed_bytes ⟨by omega, hk.2⟩ ht hb
  unfold block_Seal.f
  rw [wu8 (by omega : 0 ≤ k) hk.2, wu8 ht.1 ht.2]
  have c0 : (if (decide (k < 1)) = true then true else (if (decide (k ≥ 256)) = true then true else (if (decide (t < 0)) = true then true else (if (decide (t ≥ 256)) = true then true else (decide ((List.length body : Int) > 56)))))) = false := by
    have h1 : ¬ k < 1 := by omega
    have h2 : ¬ k ≥ 256 := by omega
    have h3 : ¬ t < 0 := by omega
    have h4 : ¬ t ≥ 256 := by omega
    have h5 : ¬ (List.length body : Int) > 56 := by omega
    simp [h1, h2, h3, h4, h5]
  rw [c0]
  simp only [x2_eq, x3_eq hl]
  have e1 : cut ([0, 0, 0, 0] ++ summed k t body) 4 (List.length ([0, 0, 0, 0] ++ summed k t body) : Int) = summed k t body := by
    unfold cut
    rw [Int.toNat_natCast, List.take_length]
    rfl
  have e2 : ∀ v, splL ([0, 0, 0, 0] ++ summed k t body) 0 (List.take (List.length ([0, 0, 0, 0] ++ summed k t body)) (lay v 4)) = lay v 4 ++ summed k t body := by
    intro v
    rw [List.take_of_length_le (by simp [lay_len])]
    unfold splL
    simp [lay_len]
  simp only [e1, e2, sum_eq (fu := fu) hsb (by omega) (by omega), Option.bind_some, lay4_eq (fu := fu) _ (by omega)]
  simp [hs, sealed]
theorem seal_no {fu : Nat} {k t : Int} {body : List Int} (h : k < 1 ∨ k > 255 ∨ t < 0 ∨ t > 255 ∨ body.length > 56) : block_Seal.f fu k t body = some ([], false) := by
  unfold block_Seal.f
  have c0 : (if (decide (k < 1)) = true then true else (if (decide (k ≥ 256)) = true then true else (if (decide (t < 0)) = true then true else (if (decide (t ≥ 256)) = true then true else (decide ((List.length body : Int) > 56)))))) = true := by
    by_cases h1 : k < 1
    · simp [h1]
    · by_cases h2 : k ≥ 256
      · simp [h2]
      · by_cases h3 : t < 0
        · simp [h3]
        · by_cases h4 : t ≥ 256
          · simp [h4]
          · have h5 : (List.length body : Int) > 56 := by omega
            simp [h5]
  rw [c0]
  rfl
theorem fill_eq {fu : Nat} {body : List Int} (hl : body.length ≤ 56) : rickyardref07_Fill.f fu (body.map toB) 56 = some ((body ++ List.replicate (56 - body.length) 0).map toB) := by
  unfold rickyardref07_Fill.f
  have e1 : mxI (IntKind.i64.wrap (56 - (List.length (body.map toB) : Int))) 0 = ((56 - body.length : Nat) : Int) := by
    rw [List.length_map, w64 (by omega) (by omega)]
    unfold mxI
    split <;> omega
  have hL : (100 : Nat) ≤ LIM := by decide
  rw [e1, Int.toNat_natCast, if_pos ⟨by omega, by omega⟩, if_pos (by simp only [List.length_map, List.length_replicate]; omega), List.map_append]
theorem rseal_eq {fu : Nat} {k t : Int} {body : List Int} (hb : Bytes body) (hk : 0 ≤ k ∧ k ≤ 255) (ht : 0 ≤ t ∧ t ≤ 255) (hl : body.length ≤ 56) (hf : 100 < fu) : rickyardref07_Seal.f fu k t (body.map toB) = some ((sealed (summed k t body)).map toB) := by
  have hs := summed_len (k := k) (t := t) hl
  have hsb := summed_bytes hk ht hb
  unfold rickyardref07_Seal.f
  rw [wu8 hk.1 hk.2, wu8 ht.1 ht.2]
  have e1 : List.map toB [k, t, 0, 0] ++ List.map toB (body ++ List.replicate (56 - body.length) 0) = (summed k t body).map toB := by
    rw [← List.map_append]
    rfl
  have hL : (100 : Nat) ≤ LIM := by decide
  have e2 : List.length (List.map toB [k, t, 0, 0]) + List.length (List.map toB (body ++ List.replicate (56 - body.length) 0)) ≤ LIM := by
    simp
    omega
  simp only [fill_eq (fu := fu) hl, Option.bind_some, e1, of_toB hsb, rsum_eq (fu := fu) hsb (by omega) (by omega), rlay4_eq (fu := fu) _ (by omega : 8 < fu)]
  rw [if_pos e2, if_pos (by simp [lay_len, hs]; omega)]
  simp [sealed]
theorem there_eq {fu : Nat} {b : List Int} {i n : Nat} (hl : b.length ≤ 9000000000000000000) (h : i + n ≤ b.length) : octet_there.f fu b (i : Int) (n : Int) = some true := by
  unfold octet_there.f
  have h1 : (i : Int) ≥ 0 := by omega
  have h2 : (n : Int) ≥ 0 := by omega
  have h3 : (n : Int) ≤ (b.length : Int) := by omega
  have h4 : IntKind.i64.wrap ((b.length : Int) - (n : Int)) = (b.length : Int) - (n : Int) := w64 (by omega) (by omega)
  have h5 : (i : Int) ≤ (b.length : Int) - (n : Int) := by omega
  simp [h1, h2, h3, h4, h5]
theorem noughts_from {fu : Nat} (b : List Int) (x n : Int) {C : List Int} (hC : cut b x (IntKind.i64.wrap (x + n)) = C) (hl : C.length ≤ 9000000000000000000) : ∀ k m, m ≤ C.length → C.length - m < k → loopM (octet_Noughts.s0 fu b x n) k (m : Int) = some (if ∀ y ∈ C.drop m, y = 0 then .inr () else .inl false)
  | 0, m, _, hk => by omega
  | k + 1, m, hm, hk => by
    unfold loopM
    by_cases e : m = C.length
    · subst e
      have : octet_Noughts.s0 fu b x n (C.length : Int) = some (.inl (.inr ())) := by
        unfold octet_Noughts.s0
        rw [hC]
        simp
      rw [this]
      simp
    · have hlt : m < C.length := by omega
      have hx : ix C (m : Int) = C[m] := ix_nat hlt
      rw [List.drop_eq_getElem_cons hlt]
      have h1 : (m : Int) < (C.length : Int) := by omega
      by_cases hn : C[m] = 0
      · have w3 : IntKind.i64.wrap ((m : Int) + 1) = ((m + 1 : Nat) : Int) := by rw [w64 (by omega) (by omega)]; omega
        have : octet_Noughts.s0 fu b x n (m : Int) = some (.inr ((m + 1 : Nat) : Int)) := by
          unfold octet_Noughts.s0
          rw [hC]
          simp [h1, hx, hn, w3, hlt]
        rw [this]
        simp only
        rw [noughts_from b x n hC hl k (m + 1) (by omega) (by omega)]
        have e3 : (∀ y ∈ C[m] :: C.drop (m + 1), y = 0) ↔ ∀ y ∈ C.drop (m + 1), y = 0 := by
          constructor
          · intro h y hy
            exact h y (List.mem_cons_of_mem _ hy)
          · intro h y hy
            rcases List.mem_cons.1 hy with rfl | hy
            · exact hn
            · exact h y hy
        simp only [e3]
      · have : octet_Noughts.s0 fu b x n (m : Int) = some (.inl (.inl false)) := by
          unfold octet_Noughts.s0
          rw [hC]
          simp [h1, hx, hn, hlt]
        rw [this]
        have e3 : ¬ (∀ y ∈ C[m] :: C.drop (m + 1), y = 0) := fun h => hn (h _ (List.mem_cons_self ..))
        simp only [e3, if_false]
theorem noughts_eq {fu : Nat} {b : List Int} {i n : Nat} (hl : b.length ≤ 9000000000000000000) (h : i + n ≤ b.length) (hf : n < fu) : octet_Noughts.f fu b (i : Int) (n : Int) = some (decide (∀ y ∈ (b.drop i).take n, y = 0)) := by
  unfold octet_Noughts.f
  rw [there_eq hl h]
  have w1 : IntKind.i64.wrap ((i : Int) + (n : Int)) = ((i + n : Nat) : Int) := by rw [w64 (by omega) (by omega)]; omega
  have hC : cut b (i : Int) (IntKind.i64.wrap ((i : Int) + (n : Int))) = (b.drop i).take n := by
    rw [w1]
    unfold cut
    rw [Int.toNat_natCast, Int.toNat_natCast, List.drop_take]
    congr 1
    omega
  have hlen : ((b.drop i).take n).length = n := by
    rw [List.length_take, List.length_drop]
    omega
  have := noughts_from (fu := fu) b (i : Int) (n : Int) hC (by omega) fu 0 (by omega) (by omega)
  rw [Int.natCast_zero, List.drop_zero] at this
  have c1 : 0 ≤ (i : Int) ∧ (i : Int) ≤ IntKind.i64.wrap ((i : Int) + (n : Int)) ∧ IntKind.i64.wrap ((i : Int) + (n : Int)) ≤ (b.length : Int) := by
    rw [w1]
    omega
  simp only [Option.bind_some, Bool.not_true, Bool.false_eq_true, if_false]
  rw [if_pos c1, this]
  by_cases hz : ∀ y ∈ (b.drop i).take n, y = 0
  · rw [if_pos hz]
    simp only [Option.bind_some, decide_eq_true hz]
  · rw [if_neg hz]
    simp only [Option.bind_some, decide_eq_false hz]
/-- Octets that are a block. -/
def Is (b : List Int) : Prop := b.length = 64 ∧ ix b 4 ≠ 0 ∧ b = sealed (summed (ix b 4) (ix b 5) (b.drop 8))
instance (b : List Int) : Decidable (Is b) := inferInstanceAs (Decidable (_ ∧ _))
theorem parts {b : List Int} (h : b.length = 64) : b = b.take 4 ++ ([ix b 4, ix b 5, ix b 6, ix b 7] ++ b.drop 8) := by
  have e : b.drop 4 = [ix b 4, ix b 5, ix b 6, ix b 7] ++ b.drop 8 := by
    have g : ∀ j : Nat, j < 64 → b.drop j = ix b (j : Int) :: b.drop (j + 1) := by
      intro j hj
      rw [List.drop_eq_getElem_cons (by omega), ix_nat (by omega)]
    rw [g 4 (by omega), g 5 (by omega), g 6 (by omega), g 7 (by omega)]
    rfl
  rw [← e, List.take_append_drop]
theorem gap_eq {b : List Int} (h : b.length = 64) : (b.drop 6).take 2 = [ix b 6, ix b 7] := by
  have g : ∀ j : Nat, j < 64 → b.drop j = ix b (j : Int) :: b.drop (j + 1) := by
    intro j hj
    rw [List.drop_eq_getElem_cons (by omega), ix_nat (by omega)]
  rw [g 6 (by omega), g 7 (by omega)]
  rfl
theorem drop4 {b : List Int} (h : b.length = 64) : b.drop 4 = [ix b 4, ix b 5, ix b 6, ix b 7] ++ b.drop 8 := by
  have g : ∀ j : Nat, j < 64 → b.drop j = ix b (j : Int) :: b.drop (j + 1) := by
    intro j hj
    rw [List.drop_eq_getElem_cons (by omega), ix_nat (by omega)]
  rw [g 4 (by omega), g 5 (by omega), g 6 (by omega), g 7 (by omega)]
  rfl
theorem summed_full (k t : Int) {body : List Int} (h : body.length = 56) : summed k t body = [k, t, 0, 0] ++ body := by
  unfold summed
  rw [h]
  simp
theorem is_iff {b : List Int} (hb : Bytes b) (h : b.length = 64) : b = sealed (summed (ix b 4) (ix b 5) (b.drop 8)) ↔ (ix b 6 = 0 ∧ ix b 7 = 0) ∧ num (b.take 4) = (crc (b.drop 4)).toNat := by
  have h8 : (b.drop 8).length = 56 := by rw [List.length_drop, h]
  have h4 : (b.take 4).length = 4 := by rw [List.length_take, h]; rfl
  rw [summed_full _ _ h8]
  constructor
  · intro e
    have e2 : b.take 4 ++ b.drop 4 = lay (crc ([ix b 4, ix b 5, 0, 0] ++ b.drop 8)).toNat 4 ++ ([ix b 4, ix b 5, 0, 0] ++ b.drop 8) := by
      rw [List.take_append_drop]
      exact e
    obtain ⟨e3, e4⟩ := List.append_inj e2 (by rw [h4, lay_len])
    have e5 := e4
    rw [drop4 h] at e5
    have e6 := List.append_inj_left e5 rfl
    simp only [List.cons.injEq, and_true, true_and] at e6
    refine ⟨e6, ?_⟩
    rw [e3, e4, num_lay]
    exact Nat.mod_eq_of_lt (crc _).isLt
  · rintro ⟨⟨h6, h7⟩, hn⟩
    have e4 : b.drop 4 = [ix b 4, ix b 5, 0, 0] ++ b.drop 8 := by
      have := drop4 h
      rw [h6, h7] at this
      exact this
    unfold sealed
    rw [← e4, ← hn]
    have := lay_num (hb.take 4)
    rw [h4] at this
    rw [this, List.take_append_drop]
theorem right_is {fu : Nat} {b : List Int} (hb : Bytes b) (hl : b.length ≤ 9000000000000000000) (hf : 100 < fu) : block_right.f fu b = some (decide (Is b)) := by
  unfold block_right.f
  by_cases h : b.length = 64
  · have hL : (b.length : Int) = 64 := by omega
    by_cases h4 : ix b 4 = 0
    · simp [hL, h4, Is]
    · have hn : octet_Noughts.f fu b 6 2 = some (decide (∀ y ∈ (b.drop 6).take 2, y = 0)) := noughts_eq (i := 6) (n := 2) hl (by omega) (by omega)
      have hg : (∀ y ∈ (b.drop 6).take 2, y = 0) ↔ ix b 6 = 0 ∧ ix b 7 = 0 := by
        rw [gap_eq h]
        simp
      by_cases hz : ix b 6 = 0 ∧ ix b 7 = 0
      · have c1 : cut b 0 4 = b.take 4 := by
          unfold cut
          rfl
        have c2 : cut b 4 (b.length : Int) = b.drop 4 := by
          unfold cut
          rw [Int.toNat_natCast, List.take_length]
          rfl
        have h4' : (b.take 4).length = 4 := by rw [List.length_take, h]; rfl
        have hr : octet_Read.f fu (b.take 4) = some ((num (b.take 4) : Nat) : Int) := read_eq (hb.take 4) (by omega) (by omega)
        have hlt : num (b.take 4) < 4294967296 := by
          have := num_lt (hb.take 4)
          rwa [h4'] at this
        have hd : (b.drop 4).length = 60 := by rw [List.length_drop, h]
        have hs : crc_Sum.f fu [b.drop 4] = some (I32 (crc (b.drop 4))) := sum_eq (hb.drop 4) (by omega) (by omega)
        have hw : IntKind.u32.wrap ((num (b.take 4) : Nat) : Int) = ((num (b.take 4) : Nat) : Int) := wu32 (by omega) (by omega)
        have hi : Is b ↔ num (b.take 4) = (crc (b.drop 4)).toNat := by
          unfold Is
          rw [is_iff hb h]
          exact ⟨fun x => x.2.2.2, fun x => ⟨h, h4, hz, x⟩⟩
        have hq : (I32 (crc (b.drop 4)) = ((num (b.take 4) : Nat) : Int)) ↔ Is b := by
          rw [hi]
          unfold I32
          omega
        unfold crc_Fits.f
        rw [hn, decide_eq_true (hg.2 hz), c1, c2, hr]
        simp only [Option.bind_some, hw, hs, hq]
        have hL5 : (4 : Int) < (b.length : Int) := by omega
        have hL6 : (4 : Int) ≤ (b.length : Int) := by omega
        simp [hL, h4]
      · have hi : ¬ Is b := by
          intro x
          unfold Is at x
          rw [is_iff hb h] at x
          exact hz x.2.2.1
        rw [hn, decide_eq_false (fun x => hz (hg.1 x))]
        simp [hL, h4, hi]
  · have hi : ¬ Is b := fun x => h x.1
    have hL : ¬ (b.length : Int) = 64 := by omega
    simp [hL, hi]
theorem open_eq {fu : Nat} {b : List Int} (hb : Bytes b) (hl : b.length ≤ 9000000000000000000) (hf : 100 < fu) : block_Open.f fu b = some (if Is b then (ix b 4, ix b 5, b.drop 8, true) else (0, 0, [], false)) := by
  unfold block_Open.f
  rw [right_is hb hl hf]
  by_cases h : Is b
  · have h0 := h.1
    have c2 : cut b 8 (b.length : Int) = b.drop 8 := by
      unfold cut
      rw [Int.toNat_natCast, List.take_length]
      rfl
    have hc : bytes_Clone.f fu (b.drop 8) = some (b.drop 8) := by
      unfold bytes_Clone.f
      rw [if_pos]
      rw [List.length_drop, h0]
      decide
    have h4 : 0 ≤ ix b 4 ∧ ix b 4 ≤ 255 := by
      have := ix_nat (l := b) (j := 4) (by omega)
      rw [show ((4 : Nat) : Int) = 4 from rfl] at this
      rw [this]
      exact hb _ (List.getElem_mem _)
    have h5 : 0 ≤ ix b 5 ∧ ix b 5 ≤ 255 := by
      have := ix_nat (l := b) (j := 5) (by omega)
      rw [show ((5 : Nat) : Int) = 5 from rfl] at this
      rw [this]
      exact hb _ (List.getElem_mem _)
    have w4 : IntKind.i64.wrap (ix b 4) = ix b 4 := w64 (by omega) (by omega)
    have w5 : IntKind.i64.wrap (ix b 5) = ix b 5 := w64 (by omega) (by omega)
    simp only [c2, hc, w4, w5]
    simp [h, h0]
  · simp [h]
theorem kind_eq {fu : Nat} {b : List Int} (hb : Bytes b) (hl : b.length ≤ 9000000000000000000) (hf : 100 < fu) : block_Kind.f fu b = some (if Is b then ix b 4 else 0) := by
  unfold block_Kind.f
  rw [right_is hb hl hf]
  by_cases h : Is b
  · have h0 := h.1
    have h4 : 0 ≤ ix b 4 ∧ ix b 4 ≤ 255 := by
      have := ix_nat (l := b) (j := 4) (by omega)
      rw [show ((4 : Nat) : Int) = 4 from rfl] at this
      rw [this]
      exact hb _ (List.getElem_mem _)
    have w4 : IntKind.i64.wrap (ix b 4) = ix b 4 := w64 (by omega) (by omega)
    simp [h, h0, w4]
  · simp [h]
theorem sealed_parts (k t : Int) (body : List Int) : ix (sealed (summed k t body)) 4 = k ∧ ix (sealed (summed k t body)) 5 = t ∧ (sealed (summed k t body)).drop 8 = body ++ List.replicate (56 - body.length) 0 := by
  unfold sealed
  obtain ⟨a, b, c, d, e⟩ : ∃ a b c d, lay (crc (summed k t body)).toNat 4 = [a, b, c, d] := ⟨_, _, _, _, rfl⟩
  rw [e]
  exact ⟨rfl, rfl, rfl⟩
theorem fulled (body : List Int) (h : body.length ≤ 56) : (body ++ List.replicate (56 - body.length) (0 : Int)).length = 56 := by
  simp
  omega
theorem is_sealed {k t : Int} {body : List Int} (hk : k ≠ 0) (hl : body.length ≤ 56) : Is (sealed (summed k t body)) := by
  obtain ⟨h4, h5, h8⟩ := sealed_parts k t body
  refine ⟨sealed_len (summed_len hl), by rw [h4]; exact hk, ?_⟩
  rw [h4, h5, h8, summed_full k t (fulled body hl)]
  rfl
theorem ix_byte {b : List Int} (hb : Bytes b) (j : Nat) (h : j < b.length) : 0 ≤ ix b (j : Int) ∧ ix b (j : Int) ≤ 255 := by
  rw [ix_nat h]
  exact hb _ (List.getElem_mem _)
theorem ropen_eq {fu : Nat} {b : List Int} (hb : Bytes b) (hf : 100 < fu) : rickyardref07_Open.f fu b = some (if Is b then (ix b 4, ix b 5, (b.drop 8).map toB, true) else (0, 0, [], false)) := by
  unfold rickyardref07_Open.f
  by_cases h : b.length = 64
  · have hL : (b.length : Int) = 64 := by omega
    have b4 := ix_byte hb 4 (by omega)
    have b5 := ix_byte hb 5 (by omega)
    rw [show ((4 : Nat) : Int) = 4 from rfl] at b4
    rw [show ((5 : Nat) : Int) = 5 from rfl] at b5
    have w4 : IntKind.i64.wrap (ix b 4) = ix b 4 := w64 (by omega) (by omega)
    have w5 : IntKind.i64.wrap (ix b 5) = ix b 5 := w64 (by omega) (by omega)
    have c2 : cut b 8 (b.length : Int) = b.drop 8 := by
      unfold cut
      rw [Int.toNat_natCast, List.take_length]
      rfl
    have h8 : (b.drop 8).length = 56 := by rw [List.length_drop, h]
    have hs : rickyardref07_Seal.f fu (ix b 4) (ix b 5) ((b.drop 8).map toB) = some ((sealed (summed (ix b 4) (ix b 5) (b.drop 8))).map toB) := rseal_eq (hb.drop 8) b4 b5 (by omega) hf
    have hq : (sealed (summed (ix b 4) (ix b 5) (b.drop 8))).map toB = b.map toB ↔ b = sealed (summed (ix b 4) (ix b 5) (b.drop 8)) :=
      (map_toB_iff (sealed_bytes (summed_bytes b4 b5 (hb.drop 8))) hb).trans ⟨Eq.symm, Eq.symm⟩
    rw [c2, w4, w5]
    by_cases h4 : ix b 4 = 0
    · have hi : ¬ Is b := fun x => x.2.1 h4
      simp [hL, h4, hi]
    · by_cases he : b = sealed (summed (ix b 4) (ix b 5) (b.drop 8))
      · have hi : Is b := ⟨h, h4, he⟩
        simp only [hs, hq.2 he]
        simp [hL, h4, hi]
      · have hi : ¬ Is b := fun x => he x.2.2
        have hne : ¬ (sealed (summed (ix b 4) (ix b 5) (b.drop 8))).map toB = b.map toB := fun x => he (hq.1 x)
        simp only [hs, hne]
        simp [hL, h4, hi]
        exact hne
  · have hi : ¬ Is b := fun x => h x.1
    have hL : ¬ (b.length : Int) = 64 := by omega
    simp [hL, hi]
theorem bytes_of {l : List Int} (h : ∀ x ∈ l, (Lit.int .u8 x).wf = true) : Bytes l := fun x hx => wf8.1 (h x hx)
end Go.Proofs.Ytjhajfkfhdnciaa.Pure

/- Blocks that are sealed anew; arrays filled place by place. -/
set_option linter.unusedVariables false
set_option linter.unusedSimpArgs false
namespace Go.Proofs.Ytjhajfkfhdnciaa.Pure
open Go Go.Xw
theorem summed_fulled (k t : Int) (body : List Int) (h : body.length ≤ 56) : summed k t body = summed k t (body ++ List.replicate (56 - body.length) 0) := by
  rw [summed_full k t (fulled body h)]
  rfl
theorem sealed_iff {b : List Int} (hi : Is b) {k t : Int} {body : List Int} (hl : body.length ≤ 56) : sealed (summed k t body) = b ↔ k = ix b 4 ∧ t = ix b 5 ∧ body ++ List.replicate (56 - body.length) 0 = b.drop 8 := by
  obtain ⟨p4, p5, p8⟩ := sealed_parts k t body
  constructor
  · intro e
    rw [← e]
    exact ⟨p4.symm, p5.symm, p8.symm⟩
  · rintro ⟨h1, h2, h3⟩
    rw [summed_fulled k t body hl, h1, h2, h3]
    exact hi.2.2.symm
theorem sealed_map_iff {b : List Int} (hb : Bytes b) (hi : Is b) {k t : Int} {body : List Int} (hk : 0 ≤ k ∧ k ≤ 255) (ht : 0 ≤ t ∧ t ≤ 255) (hbb : Bytes body) (hl : body.length ≤ 56) :
    (sealed (summed k t body)).map toB = b.map toB ↔ k = ix b 4 ∧ t = ix b 5 ∧ body ++ List.replicate (56 - body.length) 0 = b.drop 8 :=
  (map_toB_iff (sealed_bytes (summed_bytes hk ht hbb)) hb).trans (sealed_iff hi hl)
theorem is_tag {b : List Int} (hb : Bytes b) (hi : Is b) : (0 ≤ ix b 4 ∧ ix b 4 ≤ 255) ∧ (0 ≤ ix b 5 ∧ ix b 5 ≤ 255) := by
  have h0 := hi.1
  exact ⟨ix_byte hb 4 (by omega), ix_byte hb 5 (by omega)⟩
theorem is_body {b : List Int} (hi : Is b) : (b.drop 8).length = 56 := by rw [List.length_drop, hi.1]
theorem full_iff {body full : List Int} (hl : body.length ≤ 56) (hf : full.length = 56) : body ++ List.replicate (56 - body.length) 0 = full ↔ body = full.take body.length ∧ ∀ y ∈ full.drop body.length, y = 0 := by
  constructor
  · intro e
    subst e
    refine ⟨by simp, fun y hy => ?_⟩
    rw [List.drop_left' rfl] at hy
    exact List.eq_of_mem_replicate hy
  · rintro ⟨h1, h2⟩
    have h3 : full.drop body.length = List.replicate (56 - body.length) 0 := by
      apply List.eq_replicate_iff.2
      exact ⟨by rw [List.length_drop, hf], h2⟩
    rw [← h3]
    conv => lhs; lhs; rw [h1]
    exact List.take_append_drop _ _
/-! ### Arrays filled place by place -/
def fillA {n : Nat} {α : Type} (f : Nat → α) (a : Arr n α) : Nat → Arr n α
  | 0 => a
  | j + 1 => Arr.set (fillA f a j) (j : Int) (f j)
theorem fillA_l {n : Nat} {α : Type} (f : Nat → α) (a : Arr n α) : ∀ j, j ≤ n → (fillA f a j).l = (List.range j).map f ++ a.l.drop j
  | 0, _ => by simp [fillA]
  | j + 1, h => by
    have ih := fillA_l f a j (by omega)
    have ha := a.h
    show List.set (fillA f a j).l (Int.toNat (j : Int)) (f j) = _
    rw [ih, Int.toNat_natCast, List.set_append_right _ _ (by simp), List.length_map, List.length_range, Nat.sub_self, List.range_succ, List.map_append]
    rw [List.drop_eq_getElem_cons (by omega), List.set_cons_zero]
    simp
theorem fillA_all {n : Nat} {α : Type} (f : Nat → α) (a : Arr n α) : (fillA f a n).l = (List.range n).map f := by
  rw [fillA_l f a n (Nat.le_refl _)]
  have := a.h
  simp [← this]
theorem take_range {l : List Int} {n : Nat} (h : n ≤ l.length) : l.take n = (List.range n).map fun (j : Nat) => ix l (j : Int) := by
  apply List.ext_getElem
  · simp [h]
  · intro i h1 h2
    have hi : i < n := by simpa using h2
    simp [ix_nat (show i < l.length by omega)]
theorem getA {n : Nat} {α : Type} [Inhabited α] (a : Arr n α) {i : Nat} (hi : i < n) : Arr.get a (i : Int) = a.l[i]'(by rw [a.h]; exact hi) := by
  have hl : i < a.l.length := by rw [a.h]; exact hi
  simp [Arr.get, ix, List.getD_eq_getElem?_getD, List.getElem?_eq_getElem hl]
theorem lA {n : Nat} {α : Type} [Inhabited α] (a : Arr n α) : a.l = (List.range n).map fun (i : Nat) => Arr.get a (i : Int) := by
  apply List.ext_getElem
  · simp [a.h]
  · intro i h1 h2
    have hi : i < n := by rw [← a.h]; exact h1
    simp [getA a hi]
theorem getD_toB {l : List Int} (hb : Bytes l) {i : Nat} (h : i < l.length) : ofB (List.getD (l.map toB) (Int.toNat (i : Int)) 0) = ix l (i : Int) := by
  rw [Int.toNat_natCast, List.getD_eq_getElem?_getD, List.getElem?_map, List.getElem?_eq_getElem h, ix_nat h]
  have := of_toB (l := [l[i]]) (by intro x hx; obtain rfl := List.mem_singleton.1 hx; exact hb _ (List.getElem_mem h))
  simpa using this
end Go.Proofs.Ytjhajfkfhdnciaa.Pure

/- rickyard/rickyardref01.Number: its model, and that the Go function computes it: written by gen.py. -/
set_option linter.unusedVariables false
namespace Go.Proofs.Ytjhajfkfhdnciaa
open Go Go.Xw
def rickyardref01_Number.s0 (fu : Nat) (a0 : List UInt8) : (Int × Int) → Option (Sum Int (Int × Int)) := fun s1 => (if (decide (s1.2 ≥ 0)) = true then (((if (decide (s1.2 < 8)) = true then (if 0 ≤ s1.2 ∧ s1.2 < (List.length a0 : Int) then some ((IntKind.u64.wrap ((IntKind.u64.wrap (s1.1 * 256)) + (IntKind.u64.wrap (ofB (List.getD a0 (Int.toNat s1.2) 0)))))) else none) else some (s1.1)) : Option Int).bind fun x9 => some (Sum.inr (x9, (IntKind.i64.wrap (s1.2 - 1))))) else some (Sum.inl (s1.1)))
def rickyardref01_Number.f (fu : Nat) (a0 : List UInt8) : Option Int := ((loopM (rickyardref01_Number.s0 fu a0) fu (0, (IntKind.i64.wrap ((List.length a0 : Int) - 1)))).bind fun e2 => some (e2))
set_option maxRecDepth 100000 in
set_option maxHeartbeats 400000 in
theorem rickyardref01_Number.ok (fu : Nat) (w : World) (a0 : List UInt8) (r : Int) (h : rickyardref01_Number.f fu a0 = some r) :
    Calls Try.prog 136 (([sv a0] : List Value).toArray) w (fun e w' => ∃ v, e = .returned v ∧ v = .int .u64 r ∧ Gr w w') := by
  unfold rickyardref01_Number.f at h
  have fB : Gr w w := Fr.refl _ _
  refine calls_cw Try.func136 rfl Try.ntmps136 rfl ?_
  refine cw_seq ?_
  refine cw_region ?_
  refine ol_val (v := .int .u64 0) (by exact xr_assign rfl rfl) rfl rfl rfl ?_
  refine ol_nil ?_
  refine cw_seq ?_
  refine cw_region ?_
  refine ol_val (v := .int .u64 0) (by exact xr_assign rfl rfl) rfl rfl rfl ?_
  refine ol_nil ?_
  refine cw_seq ?_
  refine cw_seq ?_
  refine cw_region ?_
  refine ol_val (v := sv a0) (by exact xr_move rfl rfl) rfl rfl rfl ?_
  refine ol_val (v := .int .i64 (List.length a0 : Int)) (by exact xr_lenStr rfl Try.underlying9 rfl) rfl rfl rfl ?_
  refine ol_val (v := .int .i64 (IntKind.i64.wrap ((List.length a0 : Int) - 1))) (by exact xr_sub rfl rfl rfl) rfl rfl rfl ?_
  refine ol_val (v := .int .i64 (IntKind.i64.wrap ((List.length a0 : Int) - 1))) (by exact xr_assign rfl rfl) rfl rfl rfl ?_
  refine ol_nil ?_
  obtain ⟨e2, l3, h4⟩ := bs h
  refine cw_mid (fun ρ' w' => ρ' 3 = .int .u64 e2 ∧ Gr w w') ?_ ?_
  · refine cw_block ?_
    refine cw_round (fun (s1 : Int × Int) ρ' w' => ρ' 0 = sv a0 ∧ ρ' 3 = .int .u64 s1.1 ∧ ρ' 4 = .int .i64 s1.2 ∧ Gr w w') l3 ?_ ?_
    · skip
      exact ⟨rfl, rfl, rfl, fB⟩
    · rintro s1 x7 ρ5 w6 ⟨e0, e3, e4, fB⟩ h
      unfold rickyardref01_Number.s0 at h
      refine cw_seq ?_
      refine cw_seq ?_
      refine cw_region ?_
      refine ol_val (v := .int .i64 s1.2) (by exact xr_move rfl e4) rfl rfl rfl ?_
      refine ol_val (v := .bool (decide (s1.2 ≥ 0))) (by exact xr_geq rfl rfl rfl) rfl rfl rfl ?_
      refine ol_nil ?_
      rcases is h with ⟨c8, h⟩ | ⟨c8, h⟩
      · refine cw_condT rfl c8 ?_
        refine cw_skip ?_
        refine cw_seq ?_
        refine cw_block ?_
        refine cw_seq ?_
        refine cw_region ?_
        refine ol_val (v := .int .i64 s1.2) (by exact xr_move rfl e4) rfl rfl rfl ?_
        refine ol_val (v := .bool (decide (s1.2 < 8))) (by exact xr_lss rfl rfl rfl) rfl rfl rfl ?_
        refine ol_nil ?_
        obtain ⟨x9, j10, h11⟩ := bs h
        refine cw_mid (fun ρ' w' => ρ' 0 = sv a0 ∧ ρ' 3 = .int .u64 x9 ∧ ρ' 4 = .int .i64 s1.2 ∧ Gr w w') ?_ ?_
        · have h := j10
          rcases is h with ⟨c12, h⟩ | ⟨c12, h⟩
          · refine cw_condT rfl c12 ?_
            refine cw_region ?_
            refine ol_val (v := .int .u64 s1.1) (by exact xr_move rfl e3) rfl rfl rfl ?_
            refine ol_val (v := .int .u64 (IntKind.u64.wrap (s1.1 * 256))) (by exact xr_mul rfl rfl rfl) rfl rfl rfl ?_
            refine ol_val (v := sv a0) (by exact xr_move rfl e0) rfl rfl rfl ?_
            refine ol_val (v := .int .i64 s1.2) (by exact xr_move rfl e4) rfl rfl rfl ?_
            obtain ⟨g13, h⟩ := gs h
            refine ol_val (v := .int .u8 (ofB (List.getD a0 (Int.toNat s1.2) 0))) (by exact xr_indexStr rfl Try.underlying9 rfl rfl g13.1 g13.2) rfl rfl rfl ?_
            refine ol_val (v := .int .u64 (IntKind.u64.wrap (ofB (List.getD a0 (Int.toNat s1.2) 0)))) (by exact xr_conv rfl Try.underlying5 Try.underlying129 rfl) rfl rfl rfl ?_
            refine ol_val (v := .int .u64 (IntKind.u64.wrap ((IntKind.u64.wrap (s1.1 * 256)) + (IntKind.u64.wrap (ofB (List.getD a0 (Int.toNat s1.2) 0)))))) (by exact xr_add rfl rfl rfl) rfl rfl rfl ?_
            refine ol_val (v := .int .u64 (IntKind.u64.wrap ((IntKind.u64.wrap (s1.1 * 256)) + (IntKind.u64.wrap (ofB (List.getD a0 (Int.toNat s1.2) 0)))))) (by exact xr_assign rfl rfl) rfl rfl rfl ?_
            refine ol_nil ?_
            obtain rfl := Option.some.inj h
            refine thn_i ?_
            exact ⟨e0, rfl, e4, fB⟩
          · refine cw_condF rfl c12 ?_
            refine cw_skip ?_
            obtain rfl := Option.some.inj h
            refine thn_i ?_
            exact ⟨e0, e3, e4, fB⟩
        · rintro ρ14 w15 ⟨e0, e3, e4, fB⟩
          have h := h11
          refine blk_i ?_
          refine cw_region ?_
          refine ol_val (v := .int .i64 s1.2) (by exact xr_move rfl e4) rfl rfl rfl ?_
          refine ol_val (v := .int .i64 (IntKind.i64.wrap (s1.2 - 1))) (by exact xr_sub rfl rfl rfl) rfl rfl rfl ?_
          refine ol_val (v := .int .i64 (IntKind.i64.wrap (s1.2 - 1))) (by exact xr_assign rfl rfl) rfl rfl rfl ?_
          refine ol_nil ?_
          obtain rfl := Option.some.inj h
          refine lp_in ?_
          exact ⟨e0, e3, rfl, fB⟩
      · refine cw_condF rfl c8 ?_
        refine cw_exit ?_
        repeat (first | with_reducible refine thn_e ?_ | with_reducible refine blk_e rfl ?_)
        obtain rfl := Option.some.inj h
        refine lp_exit ?_
        rintro rfl
        refine thn_x ?_
        exact ⟨e3, fB⟩
  · rintro ρ16 w17 ⟨e3, fB⟩
    have h := h4
    refine cw_seq ?_
    refine cw_region ?_
    refine ol_val (v := .int .u64 e2) (by exact xr_move rfl e3) rfl rfl rfl ?_
    refine ol_val (v := .int .u64 e2) (by exact xr_assign rfl rfl) rfl rfl rfl ?_
    refine ol_nil ?_
    refine cw_ret ?_
    repeat (first | with_reducible refine thn_r ?_ | with_reducible refine blk_r ?_)
    obtain rfl := Option.some.inj h
    refine fin_ret1 Try.results136 rfl ?_
    exact ⟨_, rfl, rfl, fB⟩
end Go.Proofs.Ytjhajfkfhdnciaa

/- rickyard/rickyardref01.Int: its model, and that the Go function computes it: written by gen.py. -/
set_option linter.unusedVariables false
namespace Go.Proofs.Ytjhajfkfhdnciaa
open Go Go.Xw
def rickyardref01_Int.f (fu : Nat) (a0 : List UInt8) : Option Int := ((rickyardref01_Number.f fu a0 : Option Int).bind fun t1 => some ((IntKind.i64.wrap t1)))
set_option maxRecDepth 100000 in
set_option maxHeartbeats 400000 in
theorem rickyardref01_Int.ok (fu : Nat) (w : World) (a0 : List UInt8) (r : Int) (h : rickyardref01_Int.f fu a0 = some r) :
    Calls Try.prog 103 (([sv a0] : List Value).toArray) w (fun e w' => ∃ v, e = .returned v ∧ v = .int .i64 r ∧ Gr w w') := by
  unfold rickyardref01_Int.f at h
  have fB : Gr w w := Fr.refl _ _
  refine calls_cw Try.func103 rfl Try.ntmps103 rfl ?_
  refine cw_seq ?_
  refine cw_region ?_
  refine ol_val (v := .int .i64 0) (by exact xr_assign rfl rfl) rfl rfl rfl ?_
  refine ol_nil ?_
  refine cw_seq ?_
  refine cw_region ?_
  refine ol_val (v := sv a0) (by exact xr_move rfl rfl) rfl rfl rfl ?_
  obtain ⟨t1, k2, h⟩ := bs h
  refine ol_op (by exact opv_call rfl cal136 (ac rfl an) (rickyardref01_Number.ok fu _ a0 _ k2)) rfl rfl rfl ?_
  rintro _ w4 ⟨rfl, q3⟩
  have fB := fB.gr q3
  refine ol_val (v := .int .i64 (IntKind.i64.wrap t1)) (by exact xr_conv rfl Try.underlying129 Try.underlying3 rfl) rfl rfl rfl ?_
  refine ol_val (v := .int .i64 (IntKind.i64.wrap t1)) (by exact xr_assign rfl rfl) rfl rfl rfl ?_
  refine ol_nil ?_
  refine cw_ret ?_
  repeat (first | with_reducible refine thn_r ?_ | with_reducible refine blk_r ?_)
  obtain rfl := Option.some.inj h
  refine fin_ret1 Try.results103 rfl ?_
  exact ⟨_, rfl, rfl, fB⟩
end Go.Proofs.Ytjhajfkfhdnciaa

/- Numbers laid as octets and read again, as the program and the document do it. -/
set_option linter.unusedVariables false
set_option linter.unusedSimpArgs false
namespace Go.Proofs.Ytjhajfkfhdnciaa.Pure
open Go Go.Xw
def u64n (x : Int) : Nat := (x % 18446744073709551616).toNat
theorem u64_wrap (x : Int) : IntKind.u64.wrap x = (u64n x : Int) := by
  unfold u64n IntKind.wrap
  simp only [IntKind.signed, IntKind.bits]
  simp
  omega
theorem u64n_lt (x : Int) : u64n x < 18446744073709551616 := by
  unfold u64n
  omega
theorem u64n_of {x : Int} (h0 : 0 ≤ x) (h1 : x ≤ 18446744073709551615) : u64n x = x.toNat := by
  unfold u64n
  rw [Int.emod_eq_of_lt h0 (by omega)]
theorem i64_u64 {x : Int} (h0 : -9223372036854775808 ≤ x) (h1 : x ≤ 9223372036854775807) : IntKind.i64.wrap (u64n x : Int) = x := by
  unfold u64n IntKind.wrap
  simp only [IntKind.signed, IntKind.bits]
  simp
  split <;> omega
theorem olay64 {fu n : Nat} {x : Int} (hn : n ≤ 8) (hf : n < fu) : octet_Lay.f fu (IntKind.u64.wrap x) (n : Int) = some (lay (u64n x) n) := by
  rw [u64_wrap]
  exact olay_eq hn hf
theorem rlay64 {fu n : Nat} {x : Int} (hn : n ≤ 8) (hf : n < fu) : rickyardref01_Lay.f fu (IntKind.u64.wrap x) (n : Int) = some ((lay (u64n x) n).map toB) := by
  rw [u64_wrap]
  exact rlay_eq (u64n_lt x) hn hf
theorem num_lt8 {l : List Int} (hb : Bytes l) (hl : l.length ≤ 8) : num l < 18446744073709551616 := by
  have h1 := num_lt hb
  have h2 : (256 : Nat) ^ l.length ≤ 256 ^ 8 := Nat.pow_le_pow_right (by decide) hl
  have h3 : (256 : Nat) ^ 8 = 18446744073709551616 := by decide
  omega
theorem rnumber_eq {fu : Nat} {l : List Int} (hb : Bytes l) (hl : l.length ≤ 8) (hf : l.length < fu) : rickyardref01_Number.f fu (l.map toB) = some ((num l : Nat) : Int) := by
  unfold rickyardref01_Number.f
  have w0 : IntKind.i64.wrap (((l.map toB).length : Int) - 1) = (l.length : Int) - 1 := by rw [List.length_map, w64 (by omega) (by omega)]
  rw [w0]
  have : loopM (rickyardref01_Number.s0 fu (l.map toB)) fu (0, (l.length : Int) - 1) = some ((num l : Nat) : Int) := by
    refine loopM_run (S := fun j => (((num (l.drop (l.length - j)) : Nat) : Int), (l.length : Int) - 1 - (j : Int))) l.length (by simp [num]) ?_ ?_ hf
    · intro j hj
      unfold rickyardref01_Number.s0
      obtain ⟨i, hi⟩ : ∃ i : Nat, l.length - j = i + 1 := ⟨l.length - j - 1, by omega⟩
      have e1 : (l.length : Int) - 1 - (j : Int) = (i : Int) := by omega
      have hil : i < l.length := by omega
      have e2 : l.length - (j + 1) = i := by omega
      have c1 : (i : Int) ≥ 0 := by omega
      have c2 : (i : Int) < 8 := by omega
      have c3 : True ∧ (i : Int) < ((l.map toB).length : Int) := ⟨trivial, by rw [List.length_map]; omega⟩
      have w1 : IntKind.i64.wrap ((i : Int) - 1) = (l.length : Int) - 1 - ((j + 1 : Nat) : Int) := by rw [w64 (by omega) (by omega)]; omega
      have hcb := hb _ (List.getElem_mem hil)
      obtain ⟨c, hc⟩ : ∃ c : Nat, l[i] = (c : Int) := ⟨l[i].toNat, by omega⟩
      have hd : l.drop i = l[i] :: l.drop (i + 1) := List.drop_eq_getElem_cons hil
      have hn : num (l.drop i) = c + 256 * num (l.drop (i + 1)) := by rw [hd, num, hc, Int.toNat_natCast]
      have hlt := num_lt8 (hb.drop i) (by rw [List.length_drop]; omega)
      rw [hn] at hlt
      have w2 : IntKind.u64.wrap (((num (l.drop (i + 1)) : Nat) : Int) * 256) = ((num (l.drop (i + 1)) : Nat) : Int) * 256 := wu64 (by omega) (by omega)
      have w3 : IntKind.u64.wrap (ix l (i : Int)) = (c : Int) := by rw [ix_nat hil, hc, wu64 (by omega) (by omega)]
      have w4 : IntKind.u64.wrap (((num (l.drop (i + 1)) : Nat) : Int) * 256 + (c : Int)) = ((num (l.drop i) : Nat) : Int) := by rw [wu64 (by omega) (by omega), hn]; omega
      simp only [e1, hi, e2, getD_toB hb hil, w1, w2, w3, w4, c1, c2, decide_true, if_true]
      rw [if_pos c3]
      rfl
    · unfold rickyardref01_Number.s0
      have : ¬ (l.length : Int) - 1 - (l.length : Int) ≥ 0 := by omega
      simp only [this]
      simp
  rw [this]
  rfl
theorem rint_eq {fu : Nat} {l : List Int} (hb : Bytes l) (hl : l.length ≤ 8) (hf : l.length < fu) : rickyardref01_Int.f fu (l.map toB) = some (IntKind.i64.wrap ((num l : Nat) : Int)) := by
  unfold rickyardref01_Int.f
  rw [rnumber_eq hb hl hf]
  rfl
theorem num_small {l : List Int} (hb : Bytes l) (hl : l.length ≤ 7) : IntKind.i64.wrap ((num l : Nat) : Int) = ((num l : Nat) : Int) := by
  have h1 := num_lt hb
  have h2 : (256 : Nat) ^ l.length ≤ 256 ^ 7 := Nat.pow_le_pow_right (by decide) hl
  have h3 : (256 : Nat) ^ 7 = 72057594037927936 := by decide
  exact w64 (by omega) (by omega)
/-! ### Rows of fields of one width -/
/-- The i-th field of w octets. -/
def fieldAt (l : List Int) (w i : Nat) : List Int := (l.drop (w * i)).take w
theorem fieldAt_len {l : List Int} {w i n : Nat} (h : w * n ≤ l.length) (hi : i < n) : (fieldAt l w i).length = w := by
  have : w * (i + 1) ≤ w * n := Nat.mul_le_mul_left w hi
  rw [Nat.mul_succ] at this
  unfold fieldAt
  rw [List.length_take, List.length_drop]
  omega
theorem fieldAt_bytes {l : List Int} (hb : Bytes l) (w i : Nat) : Bytes (fieldAt l w i) := (hb.drop _).take _
theorem cut_eq (l : List Int) (i n : Nat) : cut l (i : Int) ((i + n : Nat) : Int) = (l.drop i).take n := by
  unfold cut
  rw [Int.toNat_natCast, Int.toNat_natCast, List.drop_take]
  congr 1
  omega
theorem flat_len {α : Type} {g : Nat → List α} {w : Nat} (hg : ∀ i, (g i).length = w) : ∀ n, ((List.range n).flatMap g).length = w * n
  | 0 => by simp
  | n + 1 => by
    rw [List.range_succ, List.flatMap_append, List.length_append, flat_len hg n]
    simp [hg, Nat.mul_succ]
theorem flat_succ {α : Type} (g : Nat → List α) (n : Nat) : (List.range (n + 1)).flatMap g = (List.range n).flatMap g ++ g n := by
  rw [List.range_succ, List.flatMap_append]
  simp
theorem flat_field {g : Nat → List Int} {w : Nat} (hg : ∀ i, (g i).length = w) {n i : Nat} (hi : i < n) (t : List Int) : fieldAt ((List.range n).flatMap g ++ t) w i = g i := by
  have e : (List.range n).flatMap g = (List.range i).flatMap g ++ (g i ++ ((List.range (n - i - 1)).map (i + 1 + ·)).flatMap g) := by
    have h1 : n = i + (1 + (n - i - 1)) := by omega
    conv => lhs; rw [h1]
    rw [List.range_add, List.flatMap_append, List.range_add, List.map_append, List.flatMap_append]
    congr 1
    simp [List.map_map, Function.comp_def, Nat.add_assoc]
  unfold fieldAt
  rw [e, List.append_assoc, List.drop_left' (flat_len hg i), List.append_assoc, List.take_left' (hg i)]
theorem field_flat {l : List Int} {w : Nat} : ∀ n, w * n ≤ l.length → (List.range n).flatMap (fieldAt l w) = l.take (w * n)
  | 0, _ => by simp
  | n + 1, h => by
    rw [Nat.mul_succ] at h
    rw [flat_succ, field_flat n (by omega), Nat.mul_succ, List.take_add]
    rfl
theorem flat_congr {α : Type} {g k : Nat → List α} {n : Nat} (h : ∀ i, i < n → g i = k i) : (List.range n).flatMap g = (List.range n).flatMap k := by
  induction n with
  | zero => rfl
  | succ n ih => rw [flat_succ, flat_succ, ih fun i hi => h i (by omega), h n (by omega)]
theorem flat_bytes {g : Nat → List Int} (hg : ∀ i, Bytes (g i)) (n : Nat) : Bytes ((List.range n).flatMap g) := by
  intro x hx
  obtain ⟨i, _, h⟩ := List.mem_flatMap.1 hx
  exact hg i x h
theorem flat_map {g : Nat → List Int} (n : Nat) : ((List.range n).flatMap g).map toB = (List.range n).flatMap fun i => (g i).map toB := by
  induction n with
  | zero => rfl
  | succ n ih => rw [flat_succ, flat_succ, List.map_append, ih]
end Go.Proofs.Ytjhajfkfhdnciaa.Pure

/- Lists that are alike; rows of octets read as numbers. -/
set_option linter.unusedVariables false
set_option linter.unusedSimpArgs false
namespace Go.Proofs.Ytjhajfkfhdnciaa.Pure
open Go Go.Xw
theorem ix_ext {a b : List Int} (hl : a.length = b.length) (h : ∀ j, j < a.length → ix a (j : Int) = ix b (j : Int)) : a = b := by
  apply List.ext_getElem hl
  intro i h1 h2
  rw [← ix_nat h1, ← ix_nat h2]
  exact h i h1
theorem ints2_eq {fu : Nat} {a b : List Int} (ha : a.length ≤ 9000000000000000000) (hf : a.length < fu) : rickyardref01_Ints.f fu a b = some (decide (a = b)) := by
  unfold rickyardref01_Ints.f
  by_cases hl : a.length = b.length
  · have hL : (a.length : Int) = (b.length : Int) := by omega
    rw [decide_eq_true hL]
    simp only [Bool.not_true, Bool.false_eq_true, if_false]
    have hs : ∀ j : Nat, j < a.length → rickyardref01_Ints.s0 fu a b (j : Int) = some (if ix a (j : Int) = ix b (j : Int) then .inr ((j + 1 : Nat) : Int) else .inl (.inl false)) := by
      intro j hj
      unfold rickyardref01_Ints.s0
      have h1 : (j : Int) < (a.length : Int) := by omega
      have h2 : (j : Int) < (b.length : Int) := by omega
      have c0 : 0 ≤ (j : Int) := by omega
      have w3 : IntKind.i64.wrap ((j : Int) + 1) = ((j + 1 : Nat) : Int) := by rw [w64 (by omega) (by omega)]; omega
      simp only [h1, h2, c0, and_self, decide_true, if_true, w3]
      by_cases e : ix a (j : Int) = ix b (j : Int) <;> simp [e]
    by_cases h : a = b
    · have : loopM (rickyardref01_Ints.s0 fu a b) fu 0 = some (.inr ()) := by
        refine loopM_run (S := fun j => (j : Int)) a.length rfl (fun j hj => by rw [hs j hj, if_pos (by rw [h])]) ?_ hf
        unfold rickyardref01_Ints.s0
        simp
      rw [this]
      simp [h]
    · have : loopM (rickyardref01_Ints.s0 fu a b) fu 0 = some (.inl false) := by
        refine loopM_bad (S := fun j => (j : Int)) a.length (fun j => ix a (j : Int) = ix b (j : Int)) rfl ?_ (fun j hj _ hg => by rw [hs j hj, if_pos hg]) (fun j hj _ hg => by rw [hs j hj, if_neg hg]) hf
        apply Classical.byContradiction
        intro hx
        exact h (ix_ext hl fun i hi => Classical.byContradiction fun hg => hx ⟨i, hi, hg⟩)
      rw [this]
      simp [h]
  · have hL : ¬ (a.length : Int) = (b.length : Int) := by omega
    have h : ¬ a = b := fun e => hl (by rw [e])
    rw [decide_eq_false hL, decide_eq_false h]
    rfl
theorem equal_eq {fu : Nat} {a b : List Int} (ha : a.length ≤ 9000000000000000000) (hf : a.length < fu) : slices_Equal.f fu a b = some (decide (a = b)) := by
  unfold slices_Equal.f
  by_cases hl : a.length = b.length
  · have hL : (a.length : Int) = (b.length : Int) := by omega
    rw [decide_eq_true hL]
    simp only [Bool.not_true, Bool.false_eq_true, if_false]
    have hs : ∀ j : Nat, j < a.length → slices_Equal.s0 fu a b (j : Int) = some (if ix a (j : Int) = ix b (j : Int) then .inr ((j + 1 : Nat) : Int) else .inl (.inl false)) := by
      intro j hj
      unfold slices_Equal.s0
      have h1 : (j : Int) < (a.length : Int) := by omega
      have h2 : (j : Int) < (b.length : Int) := by omega
      have c0 : 0 ≤ (j : Int) := by omega
      have w3 : IntKind.i64.wrap ((j : Int) + 1) = ((j + 1 : Nat) : Int) := by rw [w64 (by omega) (by omega)]; omega
      simp only [h1, h2, c0, and_self, decide_true, if_true, w3]
      by_cases e : ix a (j : Int) = ix b (j : Int) <;> simp [e]
    by_cases h : a = b
    · have : loopM (slices_Equal.s0 fu a b) fu 0 = some (.inr ()) := by
        refine loopM_run (S := fun j => (j : Int)) a.length rfl (fun j hj => by rw [hs j hj, if_pos (by rw [h])]) ?_ hf
        unfold slices_Equal.s0
        simp
      rw [this]
      simp [h]
    · have : loopM (slices_Equal.s0 fu a b) fu 0 = some (.inl false) := by
        refine loopM_bad (S := fun j => (j : Int)) a.length (fun j => ix a (j : Int) = ix b (j : Int)) rfl ?_ (fun j hj _ hg => by rw [hs j hj, if_pos hg]) (fun j hj _ hg => by rw [hs j hj, if_neg hg]) hf
        apply Classical.byContradiction
        intro hx
        exact h (ix_ext hl fun i hi => Classical.byContradiction fun hg => hx ⟨i, hi, hg⟩)
      rw [this]
      simp [h]
  · have hL : ¬ (a.length : Int) = (b.length : Int) := by omega
    have h : ¬ a = b := fun e => hl (by rw [e])
    rw [decide_eq_false hL, decide_eq_false h]
    rfl
def rowE (l : List Int) (n : Nat) : List Int := (List.range n).flatMap fun (i : Nat) => lay (u64n (ix l (i : Int))) 2
theorem rowE_len (l : List Int) (n : Nat) : (rowE l n).length = 2 * n := flat_len (fun i => lay_len _ _) n
theorem rowE_bytes (l : List Int) (n : Nat) : Bytes (rowE l n) := flat_bytes (fun i => lay_bytes _ _) n
theorem lim_of' {a b : Nat} (h : a + b ≤ 1000) : a + b ≤ LIM := by
  have : (1000 : Nat) ≤ LIM := by decide
  omega
def part (l : List Int) (i n : Nat) : List Int := (l.drop i).take n
theorem part_len {l : List Int} {i n : Nat} (h : i + n ≤ l.length) : (part l i n).length = n := by
  unfold part
  rw [List.length_take, List.length_drop]
  omega
theorem part_bytes {l : List Int} (hb : Bytes l) (i n : Nat) : Bytes (part l i n) := (hb.drop i).take n
def intAt (l : List Int) (i n : Nat) : Int := IntKind.i64.wrap ((num (part l i n) : Nat) : Int)
theorem rintAt_eq {fu : Nat} {b : List Int} {i n : Nat} (hb : Bytes b) (h : i + n ≤ b.length) (hn : n ≤ 8) (hf : 100 < fu) : rickyardref01_Int.f fu (cut (b.map toB) (i : Int) ((i + n : Nat) : Int)) = some (intAt b i n) := by
  have e : cut (b.map toB) (i : Int) ((i + n : Nat) : Int) = (part b i n).map toB := by
    unfold cut part
    rw [Int.toNat_natCast, Int.toNat_natCast, List.drop_take, ← List.map_drop, ← List.map_take]
    congr 2
    omega
  rw [e, rint_eq (part_bytes hb i n) (by rw [part_len h]; exact hn) (by rw [part_len h]; omega)]
  rfl
theorem u64n_i64 {n : Nat} (h : n < 18446744073709551616) : u64n (IntKind.i64.wrap (n : Int)) = n := by
  unfold u64n IntKind.wrap
  simp only [IntKind.signed, IntKind.bits]
  simp
  split <;> omega
theorem lay_part {l : List Int} {i n : Nat} (hb : Bytes l) (h : i + n ≤ l.length) (hn : n ≤ 8) : lay (u64n (intAt l i n)) n = part l i n := by
  have hpl := part_len h
  have hpb := part_bytes hb i n
  unfold intAt
  rw [u64n_i64 (num_lt8 hpb (by omega))]
  have := lay_num hpb
  rwa [hpl] at this
theorem intAt_small {l : List Int} {i n : Nat} (hb : Bytes l) (h : i + n ≤ l.length) (hn : n ≤ 7) : intAt l i n = ((num (part l i n) : Nat) : Int) := num_small (part_bytes hb i n) (by rw [part_len h]; exact hn)
theorem ix_map {f : Nat → Int} {t i : Nat} (h : i < t) : ix ((List.range t).map f) (i : Int) = f i := by
  rw [ix_nat (by simpa using h)]
  simp
end Go.Proofs.Ytjhajfkfhdnciaa.Pure

/- rickyard/rickyardref13.Get: its model, and that the Go function computes it: written by gen.py. -/
set_option linter.unusedVariables false
namespace Go.Proofs.Ytjhajfkfhdnciaa
open Go Go.Xw
def rickyardref13_Get.s0 (fu : Nat) (t10 : Int × Int × (List UInt8) × Bool) : (Int × (List Int)) → Option (Sum (List Int) (Int × (List Int))) := fun s83 => (if (decide (s83.1 < t10.2.1)) = true then (if (0 : Int) ≤ (IntKind.i64.wrap (32 + (IntKind.i64.wrap (2 * s83.1)))) ∧ (IntKind.i64.wrap (32 + (IntKind.i64.wrap (2 * s83.1)))) ≤ (IntKind.i64.wrap (34 + (IntKind.i64.wrap (2 * s83.1)))) ∧ (IntKind.i64.wrap (34 + (IntKind.i64.wrap (2 * s83.1)))) ≤ (List.length t10.2.2.1 : Int) then ((rickyardref01_Int.f fu (cut t10.2.2.1 (IntKind.i64.wrap (32 + (IntKind.i64.wrap (2 * s83.1)))) (IntKind.i64.wrap (34 + (IntKind.i64.wrap (2 * s83.1))))) : Option Int).bind fun t98 => (if List.length s83.2 + List.length [t98] ≤ LIM then some (Sum.inr ((IntKind.i64.wrap (s83.1 + 1)), (s83.2 ++ [t98]))) else none)) else none) else some (Sum.inl (s83.2)))
def rickyardref13_Get.f (fu : Nat) (a0 : List Int) : Option (S_api_Super × Bool) := ((rickyardref07_Open.f fu a0 : Option (Int × Int × (List UInt8) × Bool)).bind fun t10 => (if (if (!t10.2.2.2) = true then true else (if (!decide (t10.1 = 7)) = true then true else (decide (t10.2.1 > 8)))) = true then some ((⟨(0 : Int), (⟨(⟨(0 : Int), (0 : Int), (0 : Int)⟩ : S_api_Geometry), (0 : Int), (0 : Int), (0 : Int)⟩ : S_api_Tickets), (0 : Int), []⟩ : S_api_Super), false) else (if (8 : Int) ≤ (List.length t10.2.2.1 : Int) then ((rickyardref01_Int.f fu (cut t10.2.2.1 0 8) : Option Int).bind fun t28 => (if (12 : Int) ≤ (List.length t10.2.2.1 : Int) then ((rickyardref01_Int.f fu (cut t10.2.2.1 8 12) : Option Int).bind fun t35 => (if (16 : Int) ≤ (List.length t10.2.2.1 : Int) then ((rickyardref01_Int.f fu (cut t10.2.2.1 12 16) : Option Int).bind fun t42 => (if (20 : Int) ≤ (List.length t10.2.2.1 : Int) then ((rickyardref01_Int.f fu (cut t10.2.2.1 16 20) : Option Int).bind fun t49 => (if (24 : Int) ≤ (List.length t10.2.2.1 : Int) then ((rickyardref01_Int.f fu (cut t10.2.2.1 20 24) : Option Int).bind fun t56 => (if (28 : Int) ≤ (List.length t10.2.2.1 : Int) then ((rickyardref01_Int.f fu (cut t10.2.2.1 24 28) : Option Int).bind fun t63 => (if (30 : Int) ≤ (List.length t10.2.2.1 : Int) then ((rickyardref01_Int.f fu (cut t10.2.2.1 28 30) : Option Int).bind fun t70 => (if (32 : Int) ≤ (List.length t10.2.2.1 : Int) then ((rickyardref01_Int.f fu (cut t10.2.2.1 30 32) : Option Int).bind fun t77 => ((loopM (rickyardref13_Get.s0 fu t10) fu (0, [])).bind fun e84 => ((((rickyardref13_Right.f fu (⟨t28, (⟨(⟨t35, t42, t49⟩ : S_api_Geometry), t70, t56, t63⟩ : S_api_Tickets), t77, e84⟩ : S_api_Super) : Option Bool).bind fun t129 => (if (!t129) = true then some (true) else ((rickyardref13_Put.f fu (⟨t28, (⟨(⟨t35, t42, t49⟩ : S_api_Geometry), t70, t56, t63⟩ : S_api_Tickets), t77, e84⟩ : S_api_Super) : Option (List UInt8)).bind fun t136 => some ((!decide (t136 = (List.map toB a0))))))) : Option Bool).bind fun x127 => (if x127 = true then some ((⟨(0 : Int), (⟨(⟨(0 : Int), (0 : Int), (0 : Int)⟩ : S_api_Geometry), (0 : Int), (0 : Int), (0 : Int)⟩ : S_api_Tickets), (0 : Int), []⟩ : S_api_Super), false) else some ((⟨t28, (⟨(⟨t35, t42, t49⟩ : S_api_Geometry), t70, t56, t63⟩ : S_api_Tickets), t77, e84⟩ : S_api_Super), true))))) else none)) else none)) else none)) else none)) else none)) else none)) else none)) else none)))
set_option maxRecDepth 100000 in
set_option maxHeartbeats 400000 in
theorem rickyardref13_Get.ok (fu : Nat) (w : World) (a0 : List Int) (V0_0 : Value) (R0_0 : Rd (kI .u8) w V0_0 a0) (r : S_api_Super × Bool) (h : rickyardref13_Get.f fu a0 = some r) :
    Calls Try.prog 88 (([V0_0] : List Value).toArray) w (fun e w' => ∃ v, e = .returned v ∧ ∃ u1 : Value, ∃ o2 : Own (kI .i64) 3 w' w.heap.size u1 r.1.Charts, v = .tuple #[aggV [Seg.cell (.int .i64 r.1.Epoch), Seg.cell (.int .i64 r.1.Tickets.Geometry.Blocks), Seg.cell (.int .i64 r.1.Tickets.Geometry.Slots), Seg.cell (.int .i64 r.1.Tickets.Geometry.Gens), Seg.cell (.int .i64 r.1.Tickets.Top), Seg.cell (.int .i64 r.1.Tickets.High), Seg.cell (.int .i64 r.1.Tickets.Free), Seg.cell (.int .i64 r.1.Dir), Seg.cell u1 o2.one], .bool r.2] ∧ Gr w w') := by
  unfold rickyardref13_Get.f at h
  have fB : Gr w w := Fr.refl _ _
  refine calls_cw Try.func88 rfl Try.ntmps88 rfl ?_
  refine cw_seq ?_
  refine cw_region ?_
  refine ol_op (by exact opv_alloc (ss := [Seg.cell (.int .i64 (0 : Int)), Seg.cell (.int .i64 (0 : Int)), Seg.cell (.int .i64 (0 : Int)), Seg.cell (.int .i64 (0 : Int)), Seg.cell (.int .i64 (0 : Int)), Seg.cell (.int .i64 (0 : Int)), Seg.cell (.int .i64 (0 : Int)), Seg.cell (.int .i64 (0 : Int)), Seg.cell (.slice none 0 0) (by rfl)]) rfl ze120 rfl) rfl rfl rfl ?_
  rintro _ w9 ⟨G4, rfl, b5, q6, z7⟩
  have z7 := Nat.le_trans fB.size z7
  have fB := fB.gr q6
  refine ol_val (v := .bool false) (by exact xr_assign rfl rfl) rfl rfl rfl ?_
  refine ol_nil ?_
  refine cw_seq ?_
  refine cw_region ?_
  refine ol_val (v := V0_0) (by exact xr_move rfl rfl) rfl rfl rfl ?_
  obtain ⟨t10, k11, h⟩ := bs h
  refine ol_op (by exact opv_call rfl cal32 (ac rfl an) (rickyardref07_Open.ok fu _ a0 V0_0 (R0_0.gr fB) _ k11)) rfl rfl rfl ?_
  rintro _ w13 ⟨rfl, q12⟩
  have b5 := b5.gr q12
  have fB := fB.gr q12
  refine ol_val (v := .tuple #[.int .i64 t10.1, .int .i64 t10.2.1, sv t10.2.2.1, .bool t10.2.2.2]) (by exact xr_move rfl rfl) rfl rfl rfl ?_
  refine ol_val (v := .int .i64 t10.1) (by exact xr_extract rfl rfl rfl) rfl rfl rfl ?_
  refine ol_val (v := .int .i64 t10.2.1) (by exact xr_extract rfl rfl rfl) rfl rfl rfl ?_
  refine ol_val (v := sv t10.2.2.1) (by exact xr_extract rfl rfl rfl) rfl rfl rfl ?_
  refine ol_val (v := .bool t10.2.2.2) (by exact xr_extract rfl rfl rfl) rfl rfl rfl ?_
  refine ol_val (v := .int .i64 t10.1) (by exact xr_assign rfl rfl) rfl rfl rfl ?_
  refine ol_val (v := .int .i64 t10.2.1) (by exact xr_assign rfl rfl) rfl rfl rfl ?_
  refine ol_val (v := sv t10.2.2.1) (by exact xr_assign rfl rfl) rfl rfl rfl ?_
  refine ol_val (v := .bool t10.2.2.2) (by exact xr_assign rfl rfl) rfl rfl rfl ?_
  refine ol_nil ?_
  refine cw_seq ?_
  refine cw_seq ?_
  refine cw_mid (fun ρ' w' => ρ' 0 = V0_0 ∧ ρ' 2 = .pointer (some ⟨G4, 0, none⟩) ∧ ρ' 5 = .int .i64 t10.2.1 ∧ ρ' 6 = sv t10.2.2.1 ∧ ρ' 26 = .bool (if (!t10.2.2.2) = true then true else (if (!decide (t10.1 = 7)) = true then true else (decide (t10.2.1 > 8)))) ∧ w13 = w') ?_ ?_
  · skip
    refine cw_region ?_
    refine ol_val (v := .bool t10.2.2.2) (by exact xr_move rfl rfl) rfl rfl rfl ?_
    refine ol_val (v := .bool (!t10.2.2.2)) (by exact xr_not rfl rfl) rfl rfl rfl ?_
    refine ol_val (v := .bool (!t10.2.2.2)) (by exact xr_move rfl rfl) rfl rfl rfl ?_
    rcases bt (!t10.2.2.2) with c14 | c14
    · skip
      refine ol_gskip rfl rfl rfl rfl rfl c14 ?_
      refine ol_gskip rfl rfl rfl rfl rfl c14 ?_
      refine ol_val (v := .bool true) (by exact xr_pickT rfl rfl c14 rfl) rfl rfl rfl ?_
      refine ol_val (v := .bool true) (by exact xr_move rfl rfl) rfl rfl rfl ?_
      refine ol_gskip rfl rfl rfl rfl rfl rfl ?_
      refine ol_gskip rfl rfl rfl rfl rfl rfl ?_
      refine ol_val (v := .bool true) (by exact xr_pickT rfl rfl rfl rfl) rfl rfl rfl ?_
      refine ol_nil ?_
      refine thn_i ?_
      exact ⟨rfl, rfl, rfl, rfl, (rfl).trans (congrArg (fun z => (.bool z : Value)) (show true = (if (!t10.2.2.2) = true then true else (if (!decide (t10.1 = 7)) = true then true else (decide (t10.2.1 > 8)))) from by rw [ite_t c14])), rfl⟩
    · skip
      refine ol_gval (v := .int .i64 t10.1) (by exact xr_move rfl rfl) rfl rfl rfl rfl rfl c14 ?_
      refine ol_gval (v := .bool (!decide (t10.1 = 7))) (by exact xr_neI rfl Try.underlying3 rfl rfl rfl) rfl rfl rfl rfl rfl c14 ?_
      refine ol_val (v := .bool (!decide (t10.1 = 7))) (by exact xr_pickF rfl rfl c14 rfl) rfl rfl rfl ?_
      refine ol_val (v := .bool (!decide (t10.1 = 7))) (by exact xr_move rfl rfl) rfl rfl rfl ?_
      rcases bt (!decide (t10.1 = 7)) with c15 | c15
      · skip
        refine ol_gskip rfl rfl rfl rfl rfl c15 ?_
        refine ol_gskip rfl rfl rfl rfl rfl c15 ?_
        refine ol_val (v := .bool true) (by exact xr_pickT rfl rfl c15 rfl) rfl rfl rfl ?_
        refine ol_nil ?_
        refine thn_i ?_
        exact ⟨rfl, rfl, rfl, rfl, (rfl).trans (congrArg (fun z => (.bool z : Value)) (show true = (if (!t10.2.2.2) = true then true else (if (!decide (t10.1 = 7)) = true then true else (decide (t10.2.1 > 8)))) from by rw [ite_f c14, ite_t c15])), rfl⟩
      · skip
        refine ol_gval (v := .int .i64 t10.2.1) (by exact xr_move rfl rfl) rfl rfl rfl rfl rfl c15 ?_
        refine ol_gval (v := .bool (decide (t10.2.1 > 8))) (by exact xr_gtr rfl rfl rfl) rfl rfl rfl rfl rfl c15 ?_
        refine ol_val (v := .bool (decide (t10.2.1 > 8))) (by exact xr_pickF rfl rfl c15 rfl) rfl rfl rfl ?_
        refine ol_nil ?_
        refine thn_i ?_
        exact ⟨rfl, rfl, rfl, rfl, (rfl).trans (congrArg (fun z => (.bool z : Value)) (show (decide (t10.2.1 > 8)) = (if (!t10.2.2.2) = true then true else (if (!decide (t10.1 = 7)) = true then true else (decide (t10.2.1 > 8)))) from by rw [ite_f c14, ite_f c15])), rfl⟩
  · skip
    rintro ρ16 _ ⟨e0, e2, e5, e6, e26, rfl⟩
    rcases is h with ⟨c17, h⟩ | ⟨c17, h⟩
    · refine cw_condT e26 c17 ?_
      refine cw_seq ?_
      refine cw_region ?_
      refine ol_val (v := aggV [Seg.cell (.int .i64 (0 : Int)), Seg.cell (.int .i64 (0 : Int)), Seg.cell (.int .i64 (0 : Int)), Seg.cell (.int .i64 (0 : Int)), Seg.cell (.int .i64 (0 : Int)), Seg.cell (.int .i64 (0 : Int)), Seg.cell (.int .i64 (0 : Int)), Seg.cell (.int .i64 (0 : Int)), Seg.cell (.slice none 0 0) (by rfl)]) (by exact xr_build (vals := []) rfl trivial (bl120_ _)) rfl rfl rfl ?_
      refine ol_op0 (by exact opv_store (ss' := [Seg.cell (.int .i64 (0 : Int)), Seg.cell (.int .i64 (0 : Int)), Seg.cell (.int .i64 (0 : Int)), Seg.cell (.int .i64 (0 : Int)), Seg.cell (.int .i64 (0 : Int)), Seg.cell (.int .i64 (0 : Int)), Seg.cell (.int .i64 (0 : Int)), Seg.cell (.int .i64 (0 : Int)), Seg.cell (.slice none 0 0) (by rfl)]) (xs := cellsOf [Seg.cell (.int .i64 (0 : Int)), Seg.cell (.int .i64 (0 : Int)), Seg.cell (.int .i64 (0 : Int)), Seg.cell (.int .i64 (0 : Int)), Seg.cell (.int .i64 (0 : Int)), Seg.cell (.int .i64 (0 : Int)), Seg.cell (.int .i64 (0 : Int)), Seg.cell (.int .i64 (0 : Int)), Seg.cell (.slice none 0 0) (by rfl)]) rfl sz120 e2 rfl rfl (len_cellsOf _) (one_cellsOf _) b5 (Spl.segs _ 0 9 [Seg.cell (.int .i64 (0 : Int)), Seg.cell (.int .i64 (0 : Int)), Seg.cell (.int .i64 (0 : Int)), Seg.cell (.int .i64 (0 : Int)), Seg.cell (.int .i64 (0 : Int)), Seg.cell (.int .i64 (0 : Int)), Seg.cell (.int .i64 (0 : Int)), Seg.cell (.int .i64 (0 : Int)), Seg.cell (.slice none 0 0) (by rfl)] rfl rfl)) rfl rfl ?_
      rintro _ w19 ⟨b5, q18⟩
      have fB := fB.wr q18 z7
      refine ol_val (v := .bool false) (by exact xr_assign rfl rfl) rfl rfl rfl ?_
      refine ol_nil ?_
      refine cw_ret ?_
      repeat (first | with_reducible refine thn_r ?_ | with_reducible refine blk_r ?_)
      obtain rfl := Option.some.inj h
      refine fin_cell_tmp Try.results88 e2 ag120 sz120 b5 (by rfl) rfl ?_
      exact ⟨_, rfl, (.slice none 0 0), Own.nil _ _ _ _, rfl, fB⟩
    · refine cw_condF e26 c17 ?_
      refine cw_skip ?_
      refine cw_seq ?_
      refine cw_region ?_
      refine ol_op (by exact opv_alloc (ss := [Seg.cell (.int .i64 (0 : Int)), Seg.cell (.int .i64 (0 : Int)), Seg.cell (.int .i64 (0 : Int)), Seg.cell (.int .i64 (0 : Int)), Seg.cell (.int .i64 (0 : Int)), Seg.cell (.int .i64 (0 : Int)), Seg.cell (.int .i64 (0 : Int)), Seg.cell (.int .i64 (0 : Int)), Seg.cell (.slice none 0 0) (by rfl)]) rfl ze120 rfl) rfl rfl rfl ?_
      rintro _ w25 ⟨G20, rfl, b21, q22, z23⟩
      have n26 := b5.ne z23
      have z23 := Nat.le_trans fB.size z23
      have b5 := b5.gr q22
      have fB := fB.gr q22
      refine ol_nil ?_
      refine cw_seq ?_
      refine cw_region ?_
      refine ol_val (v := sv t10.2.2.1) (by exact xr_move rfl e6) rfl rfl rfl ?_
      obtain ⟨g27, h⟩ := gs h
      refine ol_val (v := sv (cut t10.2.2.1 0 8)) (by exact xr_str_h rfl Try.underlying9 rfl rfl (by decide) g27) rfl rfl rfl ?_
      obtain ⟨t28, k29, h⟩ := bs h
      refine ol_op (by exact opv_call rfl cal103 (ac rfl an) (rickyardref01_Int.ok fu _ (cut t10.2.2.1 0 8) _ k29)) rfl rfl rfl ?_
      rintro _ w31 ⟨rfl, q30⟩
      have b5 := b5.gr q30
      have b21 := b21.gr q30
      have fB := fB.gr q30
      refine ol_val (v := .pointer (some ⟨G20, 0, none⟩)) (by exact xr_fieldAddr (p := 0) (q := 0) rfl fl120_0 rfl) rfl rfl rfl ?_
      refine ol_op0 (by exact opv_store (ss' := [Seg.cell (.int .i64 t28), Seg.cell (.int .i64 (0 : Int)), Seg.cell (.int .i64 (0 : Int)), Seg.cell (.int .i64 (0 : Int)), Seg.cell (.int .i64 (0 : Int)), Seg.cell (.int .i64 (0 : Int)), Seg.cell (.int .i64 (0 : Int)), Seg.cell (.int .i64 (0 : Int)), Seg.cell (.slice none 0 0) (by rfl)]) (xs := cellsOf [Seg.cell (.int .i64 t28)]) rfl sz3 rfl rfl rfl (len_cellsOf _) (one_cellsOf _) b21 (Spl.segs _ 0 1 [Seg.cell (.int .i64 t28)] rfl rfl)) rfl rfl ?_
      rintro _ w33 ⟨b21, q32⟩
      have b5 := b5.wr q32 n26
      have fB := fB.wr q32 z23
      refine ol_nil ?_
      refine cw_seq ?_
      refine cw_region ?_
      refine ol_val (v := sv t10.2.2.1) (by exact xr_move rfl e6) rfl rfl rfl ?_
      obtain ⟨g34, h⟩ := gs h
      refine ol_val (v := sv (cut t10.2.2.1 8 12)) (by exact xr_str_lh rfl Try.underlying9 rfl rfl rfl (by decide) (by decide) g34) rfl rfl rfl ?_
      obtain ⟨t35, k36, h⟩ := bs h
      refine ol_op (by exact opv_call rfl cal103 (ac rfl an) (rickyardref01_Int.ok fu _ (cut t10.2.2.1 8 12) _ k36)) rfl rfl rfl ?_
      rintro _ w38 ⟨rfl, q37⟩
      have b5 := b5.gr q37
      have b21 := b21.gr q37
      have fB := fB.gr q37
      refine ol_val (v := .pointer (some ⟨G20, 1, none⟩)) (by exact xr_fieldAddr (p := 0) (q := 1) rfl fl120_1 rfl) rfl rfl rfl ?_
      refine ol_val (v := .pointer (some ⟨G20, 1, none⟩)) (by exact xr_fieldAddr (p := 1) (q := 0) rfl fl118_0 rfl) rfl rfl rfl ?_
      refine ol_val (v := .pointer (some ⟨G20, 1, none⟩)) (by exact xr_fieldAddr (p := 1) (q := 0) rfl fl116_0 rfl) rfl rfl rfl ?_
      refine ol_op0 (by exact opv_store (ss' := [Seg.cell (.int .i64 t28), Seg.cell (.int .i64 t35), Seg.cell (.int .i64 (0 : Int)), Seg.cell (.int .i64 (0 : Int)), Seg.cell (.int .i64 (0 : Int)), Seg.cell (.int .i64 (0 : Int)), Seg.cell (.int .i64 (0 : Int)), Seg.cell (.int .i64 (0 : Int)), Seg.cell (.slice none 0 0) (by rfl)]) (xs := cellsOf [Seg.cell (.int .i64 t35)]) rfl sz3 rfl rfl rfl (len_cellsOf _) (one_cellsOf _) b21 (Spl.segs _ 1 1 [Seg.cell (.int .i64 t35)] rfl rfl)) rfl rfl ?_
      rintro _ w40 ⟨b21, q39⟩
      have b5 := b5.wr q39 n26
      have fB := fB.wr q39 z23
      refine ol_nil ?_
      refine cw_seq ?_
      refine cw_region ?_
      refine ol_val (v := sv t10.2.2.1) (by exact xr_move rfl e6) rfl rfl rfl ?_
      obtain ⟨g41, h⟩ := gs h
      refine ol_val (v := sv (cut t10.2.2.1 12 16)) (by exact xr_str_lh rfl Try.underlying9 rfl rfl rfl (by decide) (by decide) g41) rfl rfl rfl ?_
      obtain ⟨t42, k43, h⟩ := bs h
      refine ol_op (by exact opv_call rfl cal103 (ac rfl an) (rickyardref01_Int.ok fu _ (cut t10.2.2.1 12 16) _ k43)) rfl rfl rfl ?_
      rintro _ w45 ⟨rfl, q44⟩
      have b5 := b5.gr q44
      have b21 := b21.gr q44
      have fB := fB.gr q44
      refine ol_val (v := .pointer (some ⟨G20, 1, none⟩)) (by exact xr_fieldAddr (p := 0) (q := 1) rfl fl120_1 rfl) rfl rfl rfl ?_
      refine ol_val (v := .pointer (some ⟨G20, 1, none⟩)) (by exact xr_fieldAddr (p := 1) (q := 0) rfl fl118_0 rfl) rfl rfl rfl ?_
      refine ol_val (v := .pointer (some ⟨G20, 2, none⟩)) (by exact xr_fieldAddr (p := 1) (q := 1) rfl fl116_1 rfl) rfl rfl rfl ?_
      refine ol_op0 (by exact opv_store (ss' := [Seg.cell (.int .i64 t28), Seg.cell (.int .i64 t35), Seg.cell (.int .i64 t42), Seg.cell (.int .i64 (0 : Int)), Seg.cell (.int .i64 (0 : Int)), Seg.cell (.int .i64 (0 : Int)), Seg.cell (.int .i64 (0 : Int)), Seg.cell (.int .i64 (0 : Int)), Seg.cell (.slice none 0 0) (by rfl)]) (xs := cellsOf [Seg.cell (.int .i64 t42)]) rfl sz3 rfl rfl rfl (len_cellsOf _) (one_cellsOf _) b21 (Spl.segs _ 2 1 [Seg.cell (.int .i64 t42)] rfl rfl)) rfl rfl ?_
      rintro _ w47 ⟨b21, q46⟩
      have b5 := b5.wr q46 n26
      have fB := fB.wr q46 z23
      refine ol_nil ?_
      refine cw_seq ?_
      refine cw_region ?_
      refine ol_val (v := sv t10.2.2.1) (by exact xr_move rfl e6) rfl rfl rfl ?_
      obtain ⟨g48, h⟩ := gs h
      refine ol_val (v := sv (cut t10.2.2.1 16 20)) (by exact xr_str_lh rfl Try.underlying9 rfl rfl rfl (by decide) (by decide) g48) rfl rfl rfl ?_
      obtain ⟨t49, k50, h⟩ := bs h
      refine ol_op (by exact opv_call rfl cal103 (ac rfl an) (rickyardref01_Int.ok fu _ (cut t10.2.2.1 16 20) _ k50)) rfl rfl rfl ?_
      rintro _ w52 ⟨rfl, q51⟩
      have b5 := b5.gr q51
      have b21 := b21.gr q51
      have fB := fB.gr q51
      refine ol_val (v := .pointer (some ⟨G20, 1, none⟩)) (by exact xr_fieldAddr (p := 0) (q := 1) rfl fl120_1 rfl) rfl rfl rfl ?_
      refine ol_val (v := .pointer (some ⟨G20, 1, none⟩)) (by exact xr_fieldAddr (p := 1) (q := 0) rfl fl118_0 rfl) rfl rfl rfl ?_
      refine ol_val (v := .pointer (some ⟨G20, 3, none⟩)) (by exact xr_fieldAddr (p := 1) (q := 2) rfl fl116_2 rfl) rfl rfl rfl ?_
      refine ol_op0 (by exact opv_store (ss' := [Seg.cell (.int .i64 t28), Seg.cell (.int .i64 t35), Seg.cell (.int .i64 t42), Seg.cell (.int .i64 t49), Seg.cell (.int .i64 (0 : Int)), Seg.cell (.int .i64 (0 : Int)), Seg.cell (.int .i64 (0 : Int)), Seg.cell (.int .i64 (0 : Int)), Seg.cell (.slice none 0 0) (by rfl)]) (xs := cellsOf [Seg.cell (.int .i64 t49)]) rfl sz3 rfl rfl rfl (len_cellsOf _) (one_cellsOf _) b21 (Spl.segs _ 3 1 [Seg.cell (.int .i64 t49)] rfl rfl)) rfl rfl ?_
      rintro _ w54 ⟨b21, q53⟩
      have b5 := b5.wr q53 n26
      have fB := fB.wr q53 z23
      refine ol_nil ?_
      refine cw_seq ?_
      refine cw_region ?_
      refine ol_val (v := sv t10.2.2.1) (by exact xr_move rfl e6) rfl rfl rfl ?_
      obtain ⟨g55, h⟩ := gs h
      refine ol_val (v := sv (cut t10.2.2.1 20 24)) (by exact xr_str_lh rfl Try.underlying9 rfl rfl rfl (by decide) (by decide) g55) rfl rfl rfl ?_
      obtain ⟨t56, k57, h⟩ := bs h
      refine ol_op (by exact opv_call rfl cal103 (ac rfl an) (rickyardref01_Int.ok fu _ (cut t10.2.2.1 20 24) _ k57)) rfl rfl rfl ?_
      rintro _ w59 ⟨rfl, q58⟩
      have b5 := b5.gr q58
      have b21 := b21.gr q58
      have fB := fB.gr q58
      refine ol_val (v := .pointer (some ⟨G20, 1, none⟩)) (by exact xr_fieldAddr (p := 0) (q := 1) rfl fl120_1 rfl) rfl rfl rfl ?_
      refine ol_val (v := .pointer (some ⟨G20, 5, none⟩)) (by exact xr_fieldAddr (p := 1) (q := 4) rfl fl118_2 rfl) rfl rfl rfl ?_
      refine ol_op0 (by exact opv_store (ss' := [Seg.cell (.int .i64 t28), Seg.cell (.int .i64 t35), Seg.cell (.int .i64 t42), Seg.cell (.int .i64 t49), Seg.cell (.int .i64 (0 : Int)), Seg.cell (.int .i64 t56), Seg.cell (.int .i64 (0 : Int)), Seg.cell (.int .i64 (0 : Int)), Seg.cell (.slice none 0 0) (by rfl)]) (xs := cellsOf [Seg.cell (.int .i64 t56)]) rfl sz3 rfl rfl rfl (len_cellsOf _) (one_cellsOf _) b21 (Spl.segs _ 5 1 [Seg.cell (.int .i64 t56)] rfl rfl)) rfl rfl ?_
      rintro _ w61 ⟨b21, q60⟩
      have b5 := b5.wr q60 n26
      have fB := fB.wr q60 z23
      refine ol_nil ?_
      refine cw_seq ?_
      refine cw_region ?_
      refine ol_val (v := sv t10.2.2.1) (by exact xr_move rfl e6) rfl rfl rfl ?_
      obtain ⟨g62, h⟩ := gs h
      refine ol_val (v := sv (cut t10.2.2.1 24 28)) (by exact xr_str_lh rfl Try.underlying9 rfl rfl rfl (by decide) (by decide) g62) rfl rfl rfl ?_
      obtain ⟨t63, k64, h⟩ := bs h
      refine ol_op (by exact opv_call rfl cal103 (ac rfl an) (rickyardref01_Int.ok fu _ (cut t10.2.2.1 24 28) _ k64)) rfl rfl rfl ?_
      rintro _ w66 ⟨rfl, q65⟩
      have b5 := b5.gr q65
      have b21 := b21.gr q65
      have fB := fB.gr q65
      refine ol_val (v := .pointer (some ⟨G20, 1, none⟩)) (by exact xr_fieldAddr (p := 0) (q := 1) rfl fl120_1 rfl) rfl rfl rfl ?_
      refine ol_val (v := .pointer (some ⟨G20, 6, none⟩)) (by exact xr_fieldAddr (p := 1) (q := 5) rfl fl118_3 rfl) rfl rfl rfl ?_
      refine ol_op0 (by exact opv_store (ss' := [Seg.cell (.int .i64 t28), Seg.cell (.int .i64 t35), Seg.cell (.int .i64 t42), Seg.cell (.int .i64 t49), Seg.cell (.int .i64 (0 : Int)), Seg.cell (.int .i64 t56), Seg.cell (.int .i64 t63), Seg.cell (.int .i64 (0 : Int)), Seg.cell (.slice none 0 0) (by rfl)]) (xs := cellsOf [Seg.cell (.int .i64 t63)]) rfl sz3 rfl rfl rfl (len_cellsOf _) (one_cellsOf _) b21 (Spl.segs _ 6 1 [Seg.cell (.int .i64 t63)] rfl rfl)) rfl rfl ?_
      rintro _ w68 ⟨b21, q67⟩
      have b5 := b5.wr q67 n26
      have fB := fB.wr q67 z23
      refine ol_nil ?_
      refine cw_seq ?_
      refine cw_region ?_
      refine ol_val (v := sv t10.2.2.1) (by exact xr_move rfl e6) rfl rfl rfl ?_
      obtain ⟨g69, h⟩ := gs h
      refine ol_val (v := sv (cut t10.2.2.1 28 30)) (by exact xr_str_lh rfl Try.underlying9 rfl rfl rfl (by decide) (by decide) g69) rfl rfl rfl ?_
      obtain ⟨t70, k71, h⟩ := bs h
      refine ol_op (by exact opv_call rfl cal103 (ac rfl an) (rickyardref01_Int.ok fu _ (cut t10.2.2.1 28 30) _ k71)) rfl rfl rfl ?_
      rintro _ w73 ⟨rfl, q72⟩
      have b5 := b5.gr q72
      have b21 := b21.gr q72
      have fB := fB.gr q72
      refine ol_val (v := .pointer (some ⟨G20, 1, none⟩)) (by exact xr_fieldAddr (p := 0) (q := 1) rfl fl120_1 rfl) rfl rfl rfl ?_
      refine ol_val (v := .pointer (some ⟨G20, 4, none⟩)) (by exact xr_fieldAddr (p := 1) (q := 3) rfl fl118_1 rfl) rfl rfl rfl ?_
      refine ol_op0 (by exact opv_store (ss' := [Seg.cell (.int .i64 t28), Seg.cell (.int .i64 t35), Seg.cell (.int .i64 t42), Seg.cell (.int .i64 t49), Seg.cell (.int .i64 t70), Seg.cell (.int .i64 t56), Seg.cell (.int .i64 t63), Seg.cell (.int .i64 (0 : Int)), Seg.cell (.slice none 0 0) (by rfl)]) (xs := cellsOf [Seg.cell (.int .i64 t70)]) rfl sz3 rfl rfl rfl (len_cellsOf _) (one_cellsOf _) b21 (Spl.segs _ 4 1 [Seg.cell (.int .i64 t70)] rfl rfl)) rfl rfl ?_
      rintro _ w75 ⟨b21, q74⟩
      have b5 := b5.wr q74 n26
      have fB := fB.wr q74 z23
      refine ol_nil ?_
      refine cw_seq ?_
      refine cw_region ?_
      refine ol_val (v := sv t10.2.2.1) (by exact xr_move rfl e6) rfl rfl rfl ?_
      obtain ⟨g76, h⟩ := gs h
      refine ol_val (v := sv (cut t10.2.2.1 30 32)) (by exact xr_str_lh rfl Try.underlying9 rfl rfl rfl (by decide) (by decide) g76) rfl rfl rfl ?_
      obtain ⟨t77, k78, h⟩ := bs h
      refine ol_op (by exact opv_call rfl cal103 (ac rfl an) (rickyardref01_Int.ok fu _ (cut t10.2.2.1 30 32) _ k78)) rfl rfl rfl ?_
      rintro _ w80 ⟨rfl, q79⟩
      have b5 := b5.gr q79
      have b21 := b21.gr q79
      have fB := fB.gr q79
      refine ol_val (v := .pointer (some ⟨G20, 7, none⟩)) (by exact xr_fieldAddr (p := 0) (q := 7) rfl fl120_2 rfl) rfl rfl rfl ?_
      refine ol_op0 (by exact opv_store (ss' := [Seg.cell (.int .i64 t28), Seg.cell (.int .i64 t35), Seg.cell (.int .i64 t42), Seg.cell (.int .i64 t49), Seg.cell (.int .i64 t70), Seg.cell (.int .i64 t56), Seg.cell (.int .i64 t63), Seg.cell (.int .i64 t77), Seg.cell (.slice none 0 0) (by rfl)]) (xs := cellsOf [Seg.cell (.int .i64 t77)]) rfl sz3 rfl rfl rfl (len_cellsOf _) (one_cellsOf _) b21 (Spl.segs _ 7 1 [Seg.cell (.int .i64 t77)] rfl rfl)) rfl rfl ?_
      rintro _ w82 ⟨b21, q81⟩
      have b5 := b5.wr q81 n26
      have fB := fB.wr q81 z23
      refine ol_nil ?_
      refine cw_seq ?_
      refine cw_seq ?_
      refine cw_region ?_
      refine ol_val (v := .int .i64 0) (by exact xr_assign rfl rfl) rfl rfl rfl ?_
      refine ol_nil ?_
      obtain ⟨e84, l85, h86⟩ := bs h
      refine cw_mid (fun ρ' w' => ∃ v87 : Value, ∃ o88 : Own (kI .i64) 3 w' w.heap.size v87 e84, ρ' 0 = V0_0 ∧ ρ' 2 = .pointer (some ⟨G4, 0, none⟩) ∧ ρ' 8 = .pointer (some ⟨G20, 0, none⟩) ∧ Blk w' G4 120 [Seg.cell (.int .i64 (0 : Int)), Seg.cell (.int .i64 (0 : Int)), Seg.cell (.int .i64 (0 : Int)), Seg.cell (.int .i64 (0 : Int)), Seg.cell (.int .i64 (0 : Int)), Seg.cell (.int .i64 (0 : Int)), Seg.cell (.int .i64 (0 : Int)), Seg.cell (.int .i64 (0 : Int)), Seg.cell (.slice none 0 0) (by rfl)] ∧ Blk w' G20 120 [Seg.cell (.int .i64 t28), Seg.cell (.int .i64 t35), Seg.cell (.int .i64 t42), Seg.cell (.int .i64 t49), Seg.cell (.int .i64 t70), Seg.cell (.int .i64 t56), Seg.cell (.int .i64 t63), Seg.cell (.int .i64 t77), Seg.cell v87 o88.one] ∧ Gr w w') ?_ ?_
      · refine cw_block ?_
        refine cw_round (fun (s83 : Int × (List Int)) ρ' w' => ∃ v90 : Value, ∃ o91 : Own (kI .i64) 3 w' w.heap.size v90 s83.2, ρ' 0 = V0_0 ∧ ρ' 2 = .pointer (some ⟨G4, 0, none⟩) ∧ ρ' 5 = .int .i64 t10.2.1 ∧ ρ' 6 = sv t10.2.2.1 ∧ ρ' 8 = .pointer (some ⟨G20, 0, none⟩) ∧ ρ' 9 = .int .i64 s83.1 ∧ Blk w' G4 120 [Seg.cell (.int .i64 (0 : Int)), Seg.cell (.int .i64 (0 : Int)), Seg.cell (.int .i64 (0 : Int)), Seg.cell (.int .i64 (0 : Int)), Seg.cell (.int .i64 (0 : Int)), Seg.cell (.int .i64 (0 : Int)), Seg.cell (.int .i64 (0 : Int)), Seg.cell (.int .i64 (0 : Int)), Seg.cell (.slice none 0 0) (by rfl)] ∧ Blk w' G20 120 [Seg.cell (.int .i64 t28), Seg.cell (.int .i64 t35), Seg.cell (.int .i64 t42), Seg.cell (.int .i64 t49), Seg.cell (.int .i64 t70), Seg.cell (.int .i64 t56), Seg.cell (.int .i64 t63), Seg.cell (.int .i64 t77), Seg.cell v90 o91.one] ∧ Gr w w') l85 ?_ ?_
        · skip
          exact ⟨(.slice none 0 0), Own.nil _ _ _ _, e0, e2, e5, e6, rfl, rfl, b5, b21, fB⟩
        · rintro s83 x95 ρ93 w94 ⟨v90, o91, e0, e2, e5, e6, e8, e9, b5, b21, fB⟩ h
          unfold rickyardref13_Get.s0 at h
          refine cw_seq ?_
          refine cw_seq ?_
          refine cw_region ?_
          refine ol_val (v := .int .i64 s83.1) (by exact xr_move rfl e9) rfl rfl rfl ?_
          refine ol_val (v := .int .i64 t10.2.1) (by exact xr_move rfl e5) rfl rfl rfl ?_
          refine ol_val (v := .bool (decide (s83.1 < t10.2.1))) (by exact xr_lss rfl rfl rfl) rfl rfl rfl ?_
          refine ol_nil ?_
          rcases is h with ⟨c96, h⟩ | ⟨c96, h⟩
          · refine cw_condT rfl c96 ?_
            refine cw_skip ?_
            refine cw_seq ?_
            refine cw_block ?_
            obtain ⟨g97, h⟩ := gs h
            obtain ⟨t98, k99, h⟩ := bs h
            refine cw_drawL 12 [fun vz wz => vz = (.pointer (some ⟨G20, 8, none⟩) : Value), fun vz wz => vz = (v90 : Value), fun vz wz => vz = (sv t10.2.2.1 : Value), fun vz wz => vz = (.int .i64 s83.1 : Value), fun vz wz => vz = (.int .i64 (IntKind.i64.wrap (2 * s83.1)) : Value), fun vz wz => vz = (.int .i64 (IntKind.i64.wrap (32 + (IntKind.i64.wrap (2 * s83.1)))) : Value), fun vz wz => vz = (.int .i64 s83.1 : Value), fun vz wz => vz = (.int .i64 (IntKind.i64.wrap (2 * s83.1)) : Value), fun vz wz => vz = (.int .i64 (IntKind.i64.wrap (34 + (IntKind.i64.wrap (2 * s83.1)))) : Value), fun vz wz => vz = (sv (cut t10.2.2.1 (IntKind.i64.wrap (32 + (IntKind.i64.wrap (2 * s83.1)))) (IntKind.i64.wrap (34 + (IntKind.i64.wrap (2 * s83.1))))) : Value), fun vz wz => vz = (.int .i64 t98 : Value), fun vz wz => ∃ v101 : Value, ∃ o103 : Own (kI .i64) 3 wz w.heap.size v101 [t98], vz = (v101 : Value)] mo rfl ⟨fun _ _ _ h _ => h, fun _ _ _ h _ => h, fun _ _ _ h _ => h, fun _ _ _ h _ => h, fun _ _ _ h _ => h, fun _ _ _ h _ => h, fun _ _ _ h _ => h, fun _ _ _ h _ => h, fun _ _ _ h _ => h, fun _ _ _ h _ => h, fun _ _ _ h _ => h, fun _ _ _ ⟨v101, o103, h⟩ q => ⟨v101, o103.gr q, h⟩, trivial⟩ ?_ ?_
            · refine ⟨?_, ?_, ?_, ?_, ?_, ?_, ?_, ?_, ?_, ?_, ?_, ?_, trivial⟩
              · intro ρz wz hz hk hd
                exact sk_val (v := .pointer (some ⟨G20, 8, none⟩)) (by exact xr_fieldAddr (p := 0) (q := 8) rfl fl120_3 ((hk 8 rfl).trans e8)) rfl rfl
              · intro ρz wz hz hk hd
                have d74 := hd 0 rfl 74 rfl
                exact sk_val (v := v90) (by exact xr_load1 (v := v90) rfl ag45 d74 ((b21.gr hz).seg 8 rfl rfl)) rfl rfl
              · intro ρz wz hz hk hd
                exact sk_val (v := sv t10.2.2.1) (by exact xr_move rfl ((hk 6 rfl).trans e6)) rfl rfl
              · intro ρz wz hz hk hd
                exact sk_val (v := .int .i64 s83.1) (by exact xr_move rfl ((hk 9 rfl).trans e9)) rfl rfl
              · intro ρz wz hz hk hd
                have d77 := hd 3 rfl 77 rfl
                exact sk_val (v := .int .i64 (IntKind.i64.wrap (2 * s83.1))) (by exact xr_mul rfl rfl d77) rfl rfl
              · intro ρz wz hz hk hd
                have d78 := hd 4 rfl 78 rfl
                exact sk_val (by exact xr_add rfl rfl d78) rfl rfl
              · intro ρz wz hz hk hd
                exact sk_val (v := .int .i64 s83.1) (by exact xr_move rfl ((hk 9 rfl).trans e9)) rfl rfl
              · intro ρz wz hz hk hd
                have d80 := hd 6 rfl 80 rfl
                exact sk_val (v := .int .i64 (IntKind.i64.wrap (2 * s83.1))) (by exact xr_mul rfl rfl d80) rfl rfl
              · intro ρz wz hz hk hd
                have d81 := hd 7 rfl 81 rfl
                exact sk_val (by exact xr_add rfl rfl d81) rfl rfl
              · intro ρz wz hz hk hd
                have d76 := hd 2 rfl 76 rfl
                have d79 := hd 5 rfl 79 rfl
                have d82 := hd 8 rfl 82 rfl
                exact sk_val (by exact xr_str_lh rfl Try.underlying9 d76 d79 d82 g97.1 g97.2.1 g97.2.2) rfl rfl
              · intro ρz wz hz hk hd
                have d83 := hd 9 rfl 83 rfl
                refine sk_op (by exact opv_call rfl cal103 (ac d83 an) (rickyardref01_Int.ok fu _ (cut t10.2.2.1 (IntKind.i64.wrap (32 + (IntKind.i64.wrap (2 * s83.1)))) (IntKind.i64.wrap (34 + (IntKind.i64.wrap (2 * s83.1))))) _ k99)) rfl ?_
                rintro _ wy ⟨rfl, q100⟩
                exact ⟨rfl, q100⟩
              · intro ρz wz hz hk hd
                have d84 := hd 10 rfl 84 rfl
                refine sk_op (by exact opv_buildSlice (K := (kI .i64)) (xs := [t98]) (vals := [.int .i64 t98]) rfl Try.underlying45 el3 rfl rfl ⟨rfl, d84, trivial⟩ rfl rfl rfl (Nat.le_trans fB.size hz.size)) rfl ?_
                rintro v101 wy ⟨o103, q102, z104⟩
                exact ⟨⟨v101, o103, rfl⟩, q102⟩
            · intro ρ106 w107 q108 hk hd
              have e0 := (hk 0 rfl).trans e0
              have e2 := (hk 2 rfl).trans e2
              have e5 := (hk 5 rfl).trans e5
              have e6 := (hk 6 rfl).trans e6
              have e8 := (hk 8 rfl).trans e8
              have e9 := (hk 9 rfl).trans e9
              have e75 := hd 1 rfl 75 rfl
              obtain ⟨v109, o110, e85⟩ := hd 11 rfl 85 rfl
              have b5 := b5.gr q108
              have b21 := b21.gr q108
              have o91 := o91.gr q108
              have fB := fB.gr q108
              obtain ⟨g116, h⟩ := gs h
              have f118 := off_ty b5 o91 (by decide)
              have f119 := off_ty b21 o91 (by decide)
              have f120 := o91.geO
              refine ol_op (by exact opv_append (K := (kI .i64)) rfl Try.underlying45 el3 rfl rfl rfl e75 e85 o91 o110.rd g116 fB.size) rfl rfl rfl ?_
              rintro v112 w121 ⟨o113, q114, n115⟩
              have b5 := b5.wrO q114 f118
              have b21 := b21.wrO q114 f119
              have fB := fB.wrO q114 f120
              refine ol_val (v := .pointer (some ⟨G20, 8, none⟩)) (by exact xr_fieldAddr (p := 0) (q := 8) rfl fl120_3 e8) rfl rfl rfl ?_
              have f123 := off_ty b21 o113 (by decide)
              refine ol_op0 (by exact opv_store (ss' := [Seg.cell (.int .i64 t28), Seg.cell (.int .i64 t35), Seg.cell (.int .i64 t42), Seg.cell (.int .i64 t49), Seg.cell (.int .i64 t70), Seg.cell (.int .i64 t56), Seg.cell (.int .i64 t63), Seg.cell (.int .i64 t77), Seg.cell v112 o113.one]) (xs := cellsOf [Seg.cell v112 o113.one]) rfl sz45 rfl rfl (cells_one o113.one) (len_cellsOf _) (one_cellsOf _) b21 (Spl.segs _ 8 1 [Seg.cell v112 o113.one] rfl rfl)) rfl rfl ?_
              rintro _ w124 ⟨b21, q122⟩
              have b5 := b5.wr q122 n26
              have o113 := o113.wr q122 f123
              have fB := fB.wr q122 z23
              refine ol_nil ?_
              refine blk_i ?_
              refine cw_region ?_
              refine ol_val (v := .int .i64 s83.1) (by exact xr_move rfl e9) rfl rfl rfl ?_
              refine ol_val (v := .int .i64 (IntKind.i64.wrap (s83.1 + 1))) (by exact xr_add rfl rfl rfl) rfl rfl rfl ?_
              refine ol_val (v := .int .i64 (IntKind.i64.wrap (s83.1 + 1))) (by exact xr_assign rfl rfl) rfl rfl rfl ?_
              refine ol_nil ?_
              obtain rfl := Option.some.inj h
              refine lp_in ?_
              exact ⟨v112, o113, e0, e2, e5, e6, e8, rfl, b5, b21, fB⟩
          · refine cw_condF rfl c96 ?_
            refine cw_exit ?_
            repeat (first | with_reducible refine thn_e ?_ | with_reducible refine blk_e rfl ?_)
            obtain rfl := Option.some.inj h
            refine lp_exit ?_
            rintro rfl
            refine thn_x ?_
            exact ⟨v90, o91, e0, e2, e8, b5, b21, fB⟩
      · rintro ρ125 w126 ⟨v87, o88, e0, e2, e8, b5, b21, fB⟩
        have h := h86
        refine cw_seq ?_
        refine cw_seq ?_
        obtain ⟨x127, j128, h⟩ := bs h
        refine cw_mid (fun ρ' w' => ρ' 2 = .pointer (some ⟨G4, 0, none⟩) ∧ ρ' 8 = .pointer (some ⟨G20, 0, none⟩) ∧ ρ' 97 = .bool x127 ∧ Gr w126 w') ?_ ?_
        · skip
          obtain ⟨t129, k130, j128⟩ := bs j128
          rcases is j128 with ⟨c132, j128⟩ | ⟨c132, j128⟩
          · skip
            refine cw_drawL 9 [fun vz wz => vz = (aggV [Seg.cell (.int .i64 t28), Seg.cell (.int .i64 t35), Seg.cell (.int .i64 t42), Seg.cell (.int .i64 t49), Seg.cell (.int .i64 t70), Seg.cell (.int .i64 t56), Seg.cell (.int .i64 t63), Seg.cell (.int .i64 t77), Seg.cell v87 o88.one] : Value), fun vz wz => vz = (.bool t129 : Value), fun vz wz => vz = (.bool (!t129) : Value), fun vz wz => vz = (.bool (!t129) : Value), fun vz _ => vz = undef, fun vz _ => vz = undef, fun vz _ => vz = undef, fun vz _ => vz = undef, fun vz _ => vz = undef] mo rfl ⟨fun _ _ _ h _ => h, fun _ _ _ h _ => h, fun _ _ _ h _ => h, fun _ _ _ h _ => h, fun _ _ _ h _ => h, fun _ _ _ h _ => h, fun _ _ _ h _ => h, fun _ _ _ h _ => h, fun _ _ _ h _ => h, trivial⟩ ?_ ?_
            · refine ⟨?_, ?_, ?_, ?_, ?_, ?_, ?_, ?_, ?_, trivial⟩
              · intro ρz wz hz hk hd
                exact sk_val (by exact xr_loadS (ss := [Seg.cell (.int .i64 t28), Seg.cell (.int .i64 t35), Seg.cell (.int .i64 t42), Seg.cell (.int .i64 t49), Seg.cell (.int .i64 t70), Seg.cell (.int .i64 t56), Seg.cell (.int .i64 t63), Seg.cell (.int .i64 t77), Seg.cell v87 o88.one]) rfl ag120 sz120 rfl ((hk 8 rfl).trans e8) ((b21.gr hz).segs 0 9 rfl)) rfl rfl
              · intro ρz wz hz hk hd
                have d88 := hd 0 rfl 88 rfl
                refine sk_op (by exact opv_call rfl cal90 (ac d88 an) (rickyardref13_Right.ok fu _ (⟨t28, (⟨(⟨t35, t42, t49⟩ : S_api_Geometry), t70, t56, t63⟩ : S_api_Tickets), t77, e84⟩ : S_api_Super) v87 (o88.gr hz).rd _ k130)) rfl ?_
                rintro _ wy ⟨rfl, q131⟩
                exact ⟨rfl, q131⟩
              · intro ρz wz hz hk hd
                have d89 := hd 1 rfl 89 rfl
                exact sk_val (v := .bool (!t129)) (by exact xr_not rfl d89) rfl rfl
              · intro ρz wz hz hk hd
                have d90 := hd 2 rfl 90 rfl
                exact sk_val (v := .bool (!t129)) (by exact xr_move rfl d90) rfl rfl
              · intro ρz wz hz hk hd
                have d91 := hd 3 rfl 91 rfl
                exact sk_skip rfl rfl d91 c132 rfl
              · intro ρz wz hz hk hd
                have d91 := hd 3 rfl 91 rfl
                exact sk_skip rfl rfl d91 c132 rfl
              · intro ρz wz hz hk hd
                have d91 := hd 3 rfl 91 rfl
                exact sk_skip rfl rfl d91 c132 rfl
              · intro ρz wz hz hk hd
                have d91 := hd 3 rfl 91 rfl
                exact sk_skip rfl rfl d91 c132 rfl
              · intro ρz wz hz hk hd
                have d91 := hd 3 rfl 91 rfl
                exact sk_skip rfl rfl d91 c132 rfl
            · intro ρ133 w134 q135 hk hd
              have e2 := (hk 2 rfl).trans e2
              have e8 := (hk 8 rfl).trans e8
              have e91 := hd 3 rfl 91 rfl
              have b5 := b5.gr q135
              have b21 := b21.gr q135
              have o88 := o88.gr q135
              have fB := fB.gr q135
              refine ol_val (v := .bool true) (by exact xr_pickT rfl e91 c132 rfl) rfl rfl rfl ?_
              refine ol_nil ?_
              obtain rfl := Option.some.inj j128
              refine thn_i ?_
              exact ⟨e2, e8, rfl, q135⟩
          · skip
            obtain ⟨t136, k137, j128⟩ := bs j128
            refine cw_drawL 9 [fun vz wz => vz = (aggV [Seg.cell (.int .i64 t28), Seg.cell (.int .i64 t35), Seg.cell (.int .i64 t42), Seg.cell (.int .i64 t49), Seg.cell (.int .i64 t70), Seg.cell (.int .i64 t56), Seg.cell (.int .i64 t63), Seg.cell (.int .i64 t77), Seg.cell v87 o88.one] : Value), fun vz wz => vz = (.bool t129 : Value), fun vz wz => vz = (.bool (!t129) : Value), fun vz wz => vz = (.bool (!t129) : Value), fun vz wz => vz = (aggV [Seg.cell (.int .i64 t28), Seg.cell (.int .i64 t35), Seg.cell (.int .i64 t42), Seg.cell (.int .i64 t49), Seg.cell (.int .i64 t70), Seg.cell (.int .i64 t56), Seg.cell (.int .i64 t63), Seg.cell (.int .i64 t77), Seg.cell v87 o88.one] : Value), fun vz wz => vz = (sv t136 : Value), fun vz wz => vz = (V0_0 : Value), fun vz wz => vz = (sv (List.map toB a0) : Value), fun vz wz => vz = (.bool (!decide (t136 = (List.map toB a0))) : Value)] mo rfl ⟨fun _ _ _ h _ => h, fun _ _ _ h _ => h, fun _ _ _ h _ => h, fun _ _ _ h _ => h, fun _ _ _ h _ => h, fun _ _ _ h _ => h, fun _ _ _ h _ => h, fun _ _ _ h _ => h, fun _ _ _ h _ => h, trivial⟩ ?_ ?_
            · refine ⟨?_, ?_, ?_, ?_, ?_, ?_, ?_, ?_, ?_, trivial⟩
              · intro ρz wz hz hk hd
                exact sk_val (by exact xr_loadS (ss := [Seg.cell (.int .i64 t28), Seg.cell (.int .i64 t35), Seg.cell (.int .i64 t42), Seg.cell (.int .i64 t49), Seg.cell (.int .i64 t70), Seg.cell (.int .i64 t56), Seg.cell (.int .i64 t63), Seg.cell (.int .i64 t77), Seg.cell v87 o88.one]) rfl ag120 sz120 rfl ((hk 8 rfl).trans e8) ((b21.gr hz).segs 0 9 rfl)) rfl rfl
              · intro ρz wz hz hk hd
                have d88 := hd 0 rfl 88 rfl
                refine sk_op (by exact opv_call rfl cal90 (ac d88 an) (rickyardref13_Right.ok fu _ (⟨t28, (⟨(⟨t35, t42, t49⟩ : S_api_Geometry), t70, t56, t63⟩ : S_api_Tickets), t77, e84⟩ : S_api_Super) v87 (o88.gr hz).rd _ k130)) rfl ?_
                rintro _ wy ⟨rfl, q131⟩
                exact ⟨rfl, q131⟩
              · intro ρz wz hz hk hd
                have d89 := hd 1 rfl 89 rfl
                exact sk_val (v := .bool (!t129)) (by exact xr_not rfl d89) rfl rfl
              · intro ρz wz hz hk hd
                have d90 := hd 2 rfl 90 rfl
                exact sk_val (v := .bool (!t129)) (by exact xr_move rfl d90) rfl rfl
              · intro ρz wz hz hk hd
                have d91 := hd 3 rfl 91 rfl
                exact sk_gval (by exact xr_loadS (ss := [Seg.cell (.int .i64 t28), Seg.cell (.int .i64 t35), Seg.cell (.int .i64 t42), Seg.cell (.int .i64 t49), Seg.cell (.int .i64 t70), Seg.cell (.int .i64 t56), Seg.cell (.int .i64 t63), Seg.cell (.int .i64 t77), Seg.cell v87 o88.one]) rfl ag120 sz120 rfl ((hk 8 rfl).trans e8) ((b21.gr hz).segs 0 9 rfl)) rfl rfl d91 c132 rfl
              · intro ρz wz hz hk hd
                have d92 := hd 4 rfl 92 rfl
                have d91 := hd 3 rfl 91 rfl
                refine sk_gop (by exact opv_call rfl cal93 (ac d92 an) (rickyardref13_Put.ok fu _ (⟨t28, (⟨(⟨t35, t42, t49⟩ : S_api_Geometry), t70, t56, t63⟩ : S_api_Tickets), t77, e84⟩ : S_api_Super) v87 (o88.gr hz).rd _ k137)) rfl rfl d91 c132 ?_
                rintro _ wy ⟨rfl, q138⟩
                exact ⟨rfl, q138⟩
              · intro ρz wz hz hk hd
                have d91 := hd 3 rfl 91 rfl
                exact sk_gval (v := V0_0) (by exact xr_move rfl ((hk 0 rfl).trans e0)) rfl rfl d91 c132 rfl
              · intro ρz wz hz hk hd
                have d94 := hd 6 rfl 94 rfl
                have d91 := hd 3 rfl 91 rfl
                exact sk_gval (v := sv (List.map toB a0)) (by exact xr_toStr rfl Try.underlying22 Try.underlying5 Try.underlying9 d94 (R0_0.gr (fB.gr hz))) rfl rfl d91 c132 rfl
              · intro ρz wz hz hk hd
                have d93 := hd 5 rfl 93 rfl
                have d95 := hd 7 rfl 95 rfl
                have d91 := hd 3 rfl 91 rfl
                exact sk_gval (v := .bool (!decide (t136 = (List.map toB a0)))) (by exact xr_neStr rfl Try.underlying9 d93 d95) rfl rfl d91 c132 rfl
            · intro ρ139 w140 q141 hk hd
              have e2 := (hk 2 rfl).trans e2
              have e8 := (hk 8 rfl).trans e8
              have e91 := hd 3 rfl 91 rfl
              have e96 := hd 8 rfl 96 rfl
              have b5 := b5.gr q141
              have b21 := b21.gr q141
              have o88 := o88.gr q141
              have fB := fB.gr q141
              refine ol_val (v := .bool (!decide (t136 = (List.map toB a0)))) (by exact xr_pickF rfl e91 c132 e96) rfl rfl rfl ?_
              refine ol_nil ?_
              obtain rfl := Option.some.inj j128
              refine thn_i ?_
              exact ⟨e2, e8, rfl, q141⟩
        · skip
          rintro ρ142 w143 ⟨e2, e8, e97, q144⟩
          have b5 := b5.gr q144
          have b21 := b21.gr q144
          have o88 := o88.gr q144
          have fB := fB.gr q144
          rcases is h with ⟨c145, h⟩ | ⟨c145, h⟩
          · refine cw_condT e97 c145 ?_
            refine cw_seq ?_
            refine cw_region ?_
            refine ol_val (v := aggV [Seg.cell (.int .i64 (0 : Int)), Seg.cell (.int .i64 (0 : Int)), Seg.cell (.int .i64 (0 : Int)), Seg.cell (.int .i64 (0 : Int)), Seg.cell (.int .i64 (0 : Int)), Seg.cell (.int .i64 (0 : Int)), Seg.cell (.int .i64 (0 : Int)), Seg.cell (.int .i64 (0 : Int)), Seg.cell (.slice none 0 0) (by rfl)]) (by exact xr_build (vals := []) rfl trivial (bl120_ _)) rfl rfl rfl ?_
            refine ol_op0 (by exact opv_store (ss' := [Seg.cell (.int .i64 (0 : Int)), Seg.cell (.int .i64 (0 : Int)), Seg.cell (.int .i64 (0 : Int)), Seg.cell (.int .i64 (0 : Int)), Seg.cell (.int .i64 (0 : Int)), Seg.cell (.int .i64 (0 : Int)), Seg.cell (.int .i64 (0 : Int)), Seg.cell (.int .i64 (0 : Int)), Seg.cell (.slice none 0 0) (by rfl)]) (xs := cellsOf [Seg.cell (.int .i64 (0 : Int)), Seg.cell (.int .i64 (0 : Int)), Seg.cell (.int .i64 (0 : Int)), Seg.cell (.int .i64 (0 : Int)), Seg.cell (.int .i64 (0 : Int)), Seg.cell (.int .i64 (0 : Int)), Seg.cell (.int .i64 (0 : Int)), Seg.cell (.int .i64 (0 : Int)), Seg.cell (.slice none 0 0) (by rfl)]) rfl sz120 e2 rfl rfl (len_cellsOf _) (one_cellsOf _) b5 (Spl.segs _ 0 9 [Seg.cell (.int .i64 (0 : Int)), Seg.cell (.int .i64 (0 : Int)), Seg.cell (.int .i64 (0 : Int)), Seg.cell (.int .i64 (0 : Int)), Seg.cell (.int .i64 (0 : Int)), Seg.cell (.int .i64 (0 : Int)), Seg.cell (.int .i64 (0 : Int)), Seg.cell (.int .i64 (0 : Int)), Seg.cell (.slice none 0 0) (by rfl)] rfl rfl)) rfl rfl ?_
            rintro _ w147 ⟨b5, q146⟩
            have fB := fB.wr q146 z7
            refine ol_val (v := .bool false) (by exact xr_assign rfl rfl) rfl rfl rfl ?_
            refine ol_nil ?_
            refine cw_ret ?_
            repeat (first | with_reducible refine thn_r ?_ | with_reducible refine blk_r ?_)
            obtain rfl := Option.some.inj h
            refine fin_cell_tmp Try.results88 e2 ag120 sz120 b5 (by rfl) rfl ?_
            exact ⟨_, rfl, (.slice none 0 0), Own.nil _ _ _ _, rfl, fB⟩
          · refine cw_condF e97 c145 ?_
            refine cw_skip ?_
            refine cw_seq ?_
            refine cw_region ?_
            refine ol_val (v := aggV [Seg.cell (.int .i64 t28), Seg.cell (.int .i64 t35), Seg.cell (.int .i64 t42), Seg.cell (.int .i64 t49), Seg.cell (.int .i64 t70), Seg.cell (.int .i64 t56), Seg.cell (.int .i64 t63), Seg.cell (.int .i64 t77), Seg.cell v87 o88.one]) (by exact xr_loadS (ss := [Seg.cell (.int .i64 t28), Seg.cell (.int .i64 t35), Seg.cell (.int .i64 t42), Seg.cell (.int .i64 t49), Seg.cell (.int .i64 t70), Seg.cell (.int .i64 t56), Seg.cell (.int .i64 t63), Seg.cell (.int .i64 t77), Seg.cell v87 o88.one]) rfl ag120 sz120 rfl e8 (b21.segs 0 9 rfl)) rfl rfl rfl ?_
            have f149 := off_ty b5 o88 (by decide)
            refine ol_op0 (by exact opv_store (ss' := [Seg.cell (.int .i64 t28), Seg.cell (.int .i64 t35), Seg.cell (.int .i64 t42), Seg.cell (.int .i64 t49), Seg.cell (.int .i64 t70), Seg.cell (.int .i64 t56), Seg.cell (.int .i64 t63), Seg.cell (.int .i64 t77), Seg.cell v87 o88.one]) (xs := cellsOf [Seg.cell (.int .i64 t28), Seg.cell (.int .i64 t35), Seg.cell (.int .i64 t42), Seg.cell (.int .i64 t49), Seg.cell (.int .i64 t70), Seg.cell (.int .i64 t56), Seg.cell (.int .i64 t63), Seg.cell (.int .i64 t77), Seg.cell v87 o88.one]) rfl sz120 e2 rfl rfl (len_cellsOf _) (one_cellsOf _) b5 (Spl.segs _ 0 9 [Seg.cell (.int .i64 t28), Seg.cell (.int .i64 t35), Seg.cell (.int .i64 t42), Seg.cell (.int .i64 t49), Seg.cell (.int .i64 t70), Seg.cell (.int .i64 t56), Seg.cell (.int .i64 t63), Seg.cell (.int .i64 t77), Seg.cell v87 o88.one] rfl rfl)) rfl rfl ?_
            rintro _ w150 ⟨b5, q148⟩
            have o88 := o88.wr q148 f149
            have fB := fB.wr q148 z7
            refine ol_val (v := .bool true) (by exact xr_assign rfl rfl) rfl rfl rfl ?_
            refine ol_nil ?_
            refine cw_ret ?_
            repeat (first | with_reducible refine thn_r ?_ | with_reducible refine blk_r ?_)
            obtain rfl := Option.some.inj h
            refine fin_cell_tmp Try.results88 e2 ag120 sz120 b5 (by rfl) rfl ?_
            exact ⟨_, rfl, v87, o88, rfl, fB⟩
end Go.Proofs.Ytjhajfkfhdnciaa

/- Superblocks in plain words. -/
set_option linter.unusedVariables false
set_option linter.unusedSimpArgs false
namespace Go.Proofs.Ytjhajfkfhdnciaa.Pure
open Go Go.Xw
/-! ### Among -/
theorem contains_eq {fu : Nat} {l : List Int} {x : Int} (hl : l.length ≤ 9000000000000000000) (hf : l.length < fu) : slices_Contains.f fu l x = some (decide (x ∈ l)) := by
  unfold slices_Contains.f
  have hs : ∀ j : Nat, j < l.length → slices_Index.s0 fu l x (j : Int) = some (if x ≠ ix l (j : Int) then .inr ((j + 1 : Nat) : Int) else .inl (.inl (j : Int))) := by
    intro j hj
    unfold slices_Index.s0
    have h1 : (j : Int) < (l.length : Int) := by omega
    have c0 : 0 ≤ (j : Int) := by omega
    have w3 : IntKind.i64.wrap ((j : Int) + 1) = ((j + 1 : Nat) : Int) := by rw [w64 (by omega) (by omega)]; omega
    simp only [h1, c0, and_self, decide_true, if_true, w3]
    by_cases e : x = ix l (j : Int) <;> simp [e]
  have hi : ∃ r : Int, slices_Index.f fu l x = some r ∧ (r ≥ 0 ↔ x ∈ l) := by
    unfold slices_Index.f
    by_cases hk : x ∈ l
    · have hmin : ∀ m j, j ≤ m → (j < l.length ∧ x = ix l (j : Int)) → ∃ q, (q < l.length ∧ x = ix l (q : Int)) ∧ ∀ i, i < q → x ≠ ix l (i : Int) := by
        intro m
        induction m with
        | zero =>
          intro j hj hjj
          exact ⟨j, hjj, fun i hi => by omega⟩
        | succ m ih =>
          intro j hj hjj
          by_cases hx : ∃ i, i < j ∧ x = ix l (i : Int)
          · obtain ⟨i, hi, hgi⟩ := hx
            exact ih i (by omega) ⟨by omega, hgi⟩
          · exact ⟨j, hjj, fun i hi hg => hx ⟨i, hi, hg⟩⟩
      obtain ⟨j, hj, hjx⟩ := List.getElem_of_mem hk
      obtain ⟨q, ⟨hq, hg⟩, hall⟩ := hmin j j (Nat.le_refl _) ⟨hj, by rw [ix_nat hj, hjx]⟩
      have : loopM (slices_Index.s0 fu l x) fu 0 = some (.inl (q : Int)) :=
        loopM_run (S := fun j => (j : Int)) q rfl (fun i hi => by rw [hs i (by omega), if_pos (hall i hi)]) (by rw [hs q hq, if_neg (fun h => h hg)]) (by omega)
      rw [this]
      refine ⟨(q : Int), rfl, ?_⟩
      simp only [hk, iff_true]
      omega
    · have : loopM (slices_Index.s0 fu l x) fu 0 = some (.inr ()) := by
        refine loopM_run (S := fun j => (j : Int)) l.length rfl (fun j hj => ?_) ?_ hf
        · rw [hs j hj, if_pos]
          intro e
          rw [ix_nat hj] at e
          exact hk (by rw [e]; exact List.getElem_mem hj)
        · unfold slices_Index.s0
          simp
      rw [this]
      exact ⟨-1, rfl, by simp [hk]⟩
  obtain ⟨r, hr, hrk⟩ := hi
  rw [hr]
  exact congrArg some (decide_eq_decide.2 hrk)
/-! ### Right ones -/
def geoOk (g : S_api_Geometry) : Prop := (16 ≤ g.Blocks ∧ g.Blocks ≤ 3072) ∧ (1 ≤ g.Slots ∧ g.Slots ≤ 1792) ∧ (1 ≤ g.Gens ∧ g.Gens ≤ 4294967295)
instance (g : S_api_Geometry) : Decidable (geoOk g) := inferInstanceAs (Decidable (_ ∧ _))
theorem geo_form (g : S_api_Geometry) : (if (decide (g.Blocks ≥ 16)) = true then (if (decide (g.Blocks ≤ 3072)) = true then (if (decide (g.Slots ≥ 1)) = true then (if (decide (g.Slots ≤ 1792)) = true then (if (decide (g.Gens ≥ 1)) = true then (decide (g.Gens ≤ 4294967295)) else false) else false) else false) else false) else false) = decide (geoOk g) := by
  rw [Bool.eq_iff_iff]
  unfold geoOk
  simp only [decide_eq_true_eq, ge_iff_le]
  by_cases c1 : 16 ≤ g.Blocks
  · by_cases c2 : g.Blocks ≤ 3072
    · by_cases c3 : 1 ≤ g.Slots
      · by_cases c4 : g.Slots ≤ 1792
        · by_cases c5 : 1 ≤ g.Gens <;> simp [c1, c2, c3, c4, c5]
        · simp [c1, c2, c3, c4]
      · simp [c1, c2, c3]
    · simp [c1, c2]
  · simp [c1]
theorem geom_eq (fu : Nat) (g : S_api_Geometry) : geom_Right.f fu g = some (decide (geoOk g)) := congrArg some (geo_form g)
theorem rgeom_eq (fu : Nat) (g : S_api_Geometry) : rickyardref12_Right.f fu g = some (decide (geoOk g)) := congrArg some (geo_form g)
def chartsN (g : S_api_Geometry) : Int := (g.Blocks + 383) / 384
theorem charts_eq {fu : Nat} {g : S_api_Geometry} (h : geoOk g) : geom_Charts.f fu g = some (chartsN g) := by
  unfold geom_Charts.f geom_up.f
  rw [geom_eq, decide_eq_true h]
  unfold geoOk at h
  have w1 : IntKind.i64.wrap (g.Blocks + 384) = g.Blocks + 384 := w64 (by omega) (by omega)
  have w2 : IntKind.i64.wrap (g.Blocks + 384 - 1) = g.Blocks + 383 := by rw [w64 (by omega) (by omega)]; omega
  have e1 : Int.tdiv (g.Blocks + 383) 384 = (g.Blocks + 383) / 384 := Int.tdiv_eq_ediv_of_nonneg (by omega)
  have w3 : IntKind.i64.wrap ((g.Blocks + 383) / 384) = (g.Blocks + 383) / 384 := w64 (by omega) (by omega)
  simp [w1, w2, e1, w3, chartsN]
theorem rcharts_eq {fu : Nat} {g : S_api_Geometry} (h : geoOk g) (hf : 100 < fu) : rickyardref12_Charts.f fu g = some (chartsN g) := by
  unfold rickyardref12_Charts.f rickyardref12_Need.f
  unfold geoOk at h
  obtain ⟨n, hn⟩ : ∃ n : Nat, chartsN g = (n : Int) := ⟨(chartsN g).toNat, by unfold chartsN; omega⟩
  have hn' := hn
  unfold chartsN at hn'
  have : loopM (rickyardref12_Need.s0 fu g.Blocks 384) fu 0 = some (n : Int) := by
    refine loopM_run (S := fun j => (j : Int)) n rfl (fun j hj => ?_) ?_ (by omega)
    · unfold rickyardref12_Need.s0
      have w1 : IntKind.i64.wrap ((j : Int) * 384) = (j : Int) * 384 := w64 (by omega) (by omega)
      have w3 : IntKind.i64.wrap ((j : Int) + 1) = ((j + 1 : Nat) : Int) := by rw [w64 (by omega) (by omega)]; omega
      have h1 : (j : Int) * 384 < g.Blocks := by omega
      simp only [w1, w3, h1, decide_true, if_true]
    · unfold rickyardref12_Need.s0
      have w1 : IntKind.i64.wrap ((n : Int) * 384) = (n : Int) * 384 := w64 (by omega) (by omega)
      have h1 : ¬ (n : Int) * 384 < g.Blocks := by omega
      simp only [w1, h1, decide_false, Bool.false_eq_true, if_false]
  rw [this, hn]
  rfl
def inB (s : S_api_Super) (x : Int) : Prop := 2 ≤ x ∧ x < s.Tickets.Geometry.Blocks
instance (s : S_api_Super) (x : Int) : Decidable (inB s x) := inferInstanceAs (Decidable (_ ∧ _))
def supA (s : S_api_Super) : Prop := (1 ≤ s.Epoch ∧ s.Epoch ≤ 4611686018427387904) ∧ geoOk s.Tickets.Geometry
instance (s : S_api_Super) : Decidable (supA s) := inferInstanceAs (Decidable (_ ∧ _))
def supB (s : S_api_Super) : Prop := (0 ≤ s.Tickets.High ∧ s.Tickets.High ≤ s.Tickets.Geometry.Slots) ∧ (0 ≤ s.Tickets.Free ∧ s.Tickets.Free ≤ s.Tickets.High)
instance (s : S_api_Super) : Decidable (supB s) := inferInstanceAs (Decidable (_ ∧ _))
def topOk (s : S_api_Super) : Prop := (s.Tickets.High = 0 → s.Tickets.Top = 0) ∧ (s.Tickets.High ≠ 0 → inB s s.Tickets.Top)
instance (s : S_api_Super) : Decidable (topOk s) := inferInstanceAs (Decidable (_ ∧ _))
def dirOk (s : S_api_Super) : Prop := s.Dir ≠ 0 → inB s s.Dir
instance (s : S_api_Super) : Decidable (dirOk s) := inferInstanceAs (Decidable (_ → _))
def apartC (l : List Int) : Prop := ∀ j, j < l.length → ix l (j : Int) ∉ l.take j
instance (l : List Int) : Decidable (apartC l) := inferInstanceAs (Decidable (∀ j, j < l.length → _))
def insC (s : S_api_Super) : Prop := ∀ j, j < s.Charts.length → inB s (ix s.Charts (j : Int))
instance (s : S_api_Super) : Decidable (insC s) := inferInstanceAs (Decidable (∀ j, j < s.Charts.length → _))
def SupOk (s : S_api_Super) : Prop := supA s ∧ supB s ∧ topOk s ∧ dirOk s ∧ (s.Charts.length : Int) = chartsN s.Tickets.Geometry ∧ insC s ∧ apartC s.Charts
instance (s : S_api_Super) : Decidable (SupOk s) := inferInstanceAs (Decidable (_ ∧ _))
theorem SupOk.len {s : S_api_Super} (h : SupOk s) : s.Charts.length ≤ 8 ∧ 1 ≤ s.Charts.length := by
  have h1 := h.1.2
  have h2 := h.2.2.2.2.1
  unfold geoOk at h1
  unfold chartsN at h2
  omega
theorem in_eq (fu : Nat) (x : Int) (s : S_api_Super) : super_Right_1__c.f fu x s = some (decide (inB s x)) := by
  unfold super_Right_1__c.f inB
  by_cases h : 2 ≤ x <;> simp [h]
theorem sup_g1 (fu : Nat) (s : S_api_Super) : (if (decide (s.Epoch < 1)) = true then some (true) else (if (decide (s.Epoch > 4611686018427387904)) = true then some (true) else ((geom_Right.f fu s.Tickets.Geometry : Option Bool).bind fun t11 => (if (!t11) = true then some (true) else (if (decide (s.Tickets.High < 0)) = true then some (true) else (if (decide (s.Tickets.High > s.Tickets.Geometry.Slots)) = true then some (true) else (if (decide (s.Tickets.Free < 0)) = true then some (true) else some ((decide (s.Tickets.Free > s.Tickets.High)))))))))) = some (!decide (supA s ∧ supB s)) := by
  rw [geom_eq, Option.bind_some]
  by_cases hA : supA s
  · have hA' := hA
    unfold supA at hA'
    have c1 : ¬ s.Epoch < 1 := by omega
    have c2 : ¬ s.Epoch > 4611686018427387904 := by omega
    rw [decide_eq_false c1, decide_eq_false c2, decide_eq_true hA'.2]
    by_cases hB : supB s
    · have hB' := hB
      unfold supB at hB'
      have c3 : ¬ s.Tickets.High < 0 := by omega
      have c4 : ¬ s.Tickets.High > s.Tickets.Geometry.Slots := by omega
      have c5 : ¬ s.Tickets.Free < 0 := by omega
      have c6 : ¬ s.Tickets.Free > s.Tickets.High := by omega
      rw [decide_eq_false c3, decide_eq_false c4, decide_eq_false c5, decide_eq_false c6, decide_eq_true (⟨hA, hB⟩ : supA s ∧ supB s)]
      rfl
    · rw [decide_eq_false (fun x : supA s ∧ supB s => hB x.2)]
      unfold supB at hB
      by_cases c3 : s.Tickets.High < 0
      · rw [decide_eq_true c3]
        rfl
      · by_cases c4 : s.Tickets.High > s.Tickets.Geometry.Slots
        · rw [decide_eq_false c3, decide_eq_true c4]
          rfl
        · by_cases c5 : s.Tickets.Free < 0
          · rw [decide_eq_false c3, decide_eq_false c4, decide_eq_true c5]
            rfl
          · have c6 : s.Tickets.Free > s.Tickets.High := by omega
            rw [decide_eq_false c3, decide_eq_false c4, decide_eq_false c5, decide_eq_true c6]
            rfl
  · rw [decide_eq_false (fun x : supA s ∧ supB s => hA x.1)]
    unfold supA at hA
    by_cases c1 : s.Epoch < 1
    · rw [decide_eq_true c1]
      rfl
    · by_cases c2 : s.Epoch > 4611686018427387904
      · rw [decide_eq_false c1, decide_eq_true c2]
        rfl
      · have c3 : ¬ geoOk s.Tickets.Geometry := fun x => hA ⟨by omega, x⟩
        rw [decide_eq_false c1, decide_eq_false c2, decide_eq_false c3]
        rfl
def lenOk (s : S_api_Super) : Prop := (s.Charts.length : Int) = chartsN s.Tickets.Geometry
instance (s : S_api_Super) : Decidable (lenOk s) := inferInstanceAs (Decidable (_ = _))
theorem sup_loop {fu : Nat} {s : S_api_Super} (hl : s.Charts.length ≤ 50) (hf : 100 < fu) : loopM (super_Right.s0 fu s) fu 0 = some (if insC s ∧ apartC s.Charts then .inr () else .inl false) := by
  have hs : ∀ j : Nat, j < s.Charts.length → super_Right.s0 fu s (j : Int) = some (if inB s (ix s.Charts (j : Int)) ∧ ix s.Charts (j : Int) ∉ s.Charts.take j then .inr ((j + 1 : Nat) : Int) else .inl (.inl false)) := by
    intro j hj
    unfold super_Right.s0
    have h1 : (j : Int) < (s.Charts.length : Int) := by omega
    have h2 : (j : Int) ≤ (s.Charts.length : Int) := by omega
    have c0 : 0 ≤ (j : Int) := by omega
    have w3 : IntKind.i64.wrap ((j : Int) + 1) = ((j + 1 : Nat) : Int) := by rw [w64 (by omega) (by omega)]; omega
    have ec : cut s.Charts 0 (j : Int) = s.Charts.take j := by unfold cut; simp
    have hc : slices_Contains.f fu (s.Charts.take j) (ix s.Charts (j : Int)) = some (decide (ix s.Charts (j : Int) ∈ s.Charts.take j)) := contains_eq (by rw [List.length_take]; omega) (by rw [List.length_take]; omega)
    simp only [h1, h2, c0, and_self, decide_true, if_true, w3, in_eq, Option.bind_some, ec, hc]
    by_cases g1 : inB s (ix s.Charts (j : Int))
    · by_cases g2 : ix s.Charts (j : Int) ∈ s.Charts.take j <;> simp [g1, g2]
    · simp [g1]
  by_cases h : insC s ∧ apartC s.Charts
  · rw [if_pos h]
    refine loopM_run (S := fun j => (j : Int)) s.Charts.length rfl (fun j hj => by rw [hs j hj, if_pos ⟨h.1 j hj, h.2 j hj⟩]) ?_ (by omega)
    unfold super_Right.s0
    simp
  · rw [if_neg h]
    refine loopM_bad (S := fun j => (j : Int)) s.Charts.length (fun j => inB s (ix s.Charts (j : Int)) ∧ ix s.Charts (j : Int) ∉ s.Charts.take j) rfl ?_ (fun j hj _ hg => by rw [hs j hj, if_pos hg]) (fun j hj _ hg => by rw [hs j hj, if_neg hg]) (by omega)
    apply Classical.byContradiction
    intro hx
    exact h ⟨fun i hi => Classical.byContradiction fun hg => hx ⟨i, hi, fun q => hg q.1⟩, fun i hi => Classical.byContradiction fun hg => hx ⟨i, hi, fun q => hg q.2⟩⟩
theorem superRight_eq {fu : Nat} {s : S_api_Super} (hf : 100 < fu) : super_Right.f fu s = some (decide (SupOk s)) := by
  unfold super_Right.f
  rw [sup_g1, Option.bind_some]
  by_cases hAB : supA s ∧ supB s
  · obtain ⟨hA, hB⟩ := hAB
    have hg := hA.2
    have hB' := hB
    unfold supB at hB'
    rw [decide_eq_true (⟨hA, hB⟩ : supA s ∧ supB s), charts_eq hg]
    simp only [Bool.not_true, Bool.false_eq_true, if_false, in_eq, Option.bind_some]
    have key : ∀ (b : Bool), b = decide (topOk s ∧ dirOk s ∧ lenOk s) → (if (!b) = true then some false else ((loopM (super_Right.s0 fu s) fu (0)).bind fun e131 => match e131 with | Sum.inl p => some p | Sum.inr x134 => some (true))) = some (decide (SupOk s)) := by
      intro b hb
      by_cases hT : topOk s ∧ dirOk s ∧ lenOk s
      · rw [hb, decide_eq_true hT]
        have hlen : s.Charts.length ≤ 50 := by
          have h1 := hT.2.2
          unfold lenOk chartsN at h1
          unfold geoOk at hg
          omega
        rw [sup_loop hlen hf]
        by_cases hq : insC s ∧ apartC s.Charts
        · have hS : SupOk s := ⟨hA, hB, hT.1, hT.2.1, hT.2.2, hq.1, hq.2⟩
          rw [if_pos hq, decide_eq_true hS]
          rfl
        · rw [if_neg hq, decide_eq_false (fun x : SupOk s => hq ⟨x.2.2.2.2.2.1, x.2.2.2.2.2.2⟩)]
          rfl
      · rw [hb, decide_eq_false hT, decide_eq_false (fun x : SupOk s => hT ⟨x.2.2.1, x.2.2.2.1, x.2.2.2.2.1⟩)]
        rfl
    by_cases h0 : s.Tickets.High = 0
    · have h1 : ¬ s.Tickets.High > 0 := by omega
      rw [decide_eq_true h0, decide_eq_false h1]
      by_cases ht : s.Tickets.Top = 0
      · rw [decide_eq_true ht]
        have hT : topOk s := ⟨fun _ => ht, fun x => absurd h0 x⟩
        by_cases hd : s.Dir = 0
        · rw [decide_eq_true hd]
          have hD : dirOk s := fun x => absurd hd x
          exact key (decide (lenOk s)) (decide_eq_decide.2 ⟨fun x => ⟨hT, hD, x⟩, fun x => x.2.2⟩)
        · rw [decide_eq_false hd]
          by_cases hi : inB s s.Dir
          · rw [decide_eq_true hi]
            exact key (decide (lenOk s)) (decide_eq_decide.2 ⟨fun x => ⟨hT, fun _ => hi, x⟩, fun x => x.2.2⟩)
          · rw [decide_eq_false hi]
            exact key false (decide_eq_false (fun x => hi (x.2.1 hd))).symm
      · rw [decide_eq_false ht]
        exact key false (decide_eq_false (fun x => ht (x.1.1 h0))).symm
    · have h1 : s.Tickets.High > 0 := by omega
      rw [decide_eq_false h0, decide_eq_true h1]
      by_cases ht : inB s s.Tickets.Top
      · rw [decide_eq_true ht]
        have hT : topOk s := ⟨fun x => absurd x h0, fun _ => ht⟩
        by_cases hd : s.Dir = 0
        · rw [decide_eq_true hd]
          have hD : dirOk s := fun x => absurd hd x
          exact key (decide (lenOk s)) (decide_eq_decide.2 ⟨fun x => ⟨hT, hD, x⟩, fun x => x.2.2⟩)
        · rw [decide_eq_false hd]
          by_cases hi : inB s s.Dir
          · rw [decide_eq_true hi]
            exact key (decide (lenOk s)) (decide_eq_decide.2 ⟨fun x => ⟨hT, fun _ => hi, x⟩, fun x => x.2.2⟩)
          · rw [decide_eq_false hi]
            exact key false (decide_eq_false (fun x => hi (x.2.1 hd))).symm
      · rw [decide_eq_false ht]
        exact key false (decide_eq_false (fun x => ht (x.1.2 h0))).symm
  · rw [decide_eq_false hAB, decide_eq_false (fun x : SupOk s => hAB ⟨x.1, x.2.1⟩)]
    rfl
end Go.Proofs.Ytjhajfkfhdnciaa.Pure

/- Superblocks in plain words: what the document answers; octets. -/
set_option linter.unusedVariables false
set_option linter.unusedSimpArgs false
namespace Go.Proofs.Ytjhajfkfhdnciaa.Pure
open Go Go.Xw
def needL (s : S_api_Super) : List Int := (if s.Tickets.High = 0 then [] else [s.Tickets.Top]) ++ (if s.Dir = 0 then [] else [s.Dir])
theorem needL_len (s : S_api_Super) : (needL s).length ≤ 2 := by
  unfold needL
  split <;> split <;> simp
theorem mem_ix {l : List Int} {p : Int → Prop} : (∀ x ∈ l, p x) ↔ ∀ j, j < l.length → p (ix l (j : Int)) := by
  constructor
  · intro h j hj
    rw [ix_nat hj]
    exact h _ (List.getElem_mem hj)
  · intro h x hx
    obtain ⟨j, hj, rfl⟩ := List.getElem_of_mem hx
    have := h j hj
    rwa [ix_nat hj] at this
theorem rs2_eq {fu : Nat} {s : S_api_Super} {nd : List Int} {j : Nat} (hj : j < s.Charts.length) (hl : s.Charts.length ≤ 50) (hf : 100 < fu) : loopM (rickyardref13_Right.s2 fu s (nd, (j : Int))) fu 0 = some (if ix s.Charts (j : Int) ∉ s.Charts.take j then .inr () else .inl (.inl (.inl false))) := by
  have hs : ∀ i : Nat, i < j → rickyardref13_Right.s2 fu s (nd, (j : Int)) (i : Int) = some (if ix s.Charts (i : Int) ≠ ix s.Charts (j : Int) then .inr ((i + 1 : Nat) : Int) else .inl (.inl (.inl (.inl false)))) := by
    intro i hi
    unfold rickyardref13_Right.s2
    have h1 : (i : Int) < (j : Int) := by omega
    have h2 : (i : Int) < (s.Charts.length : Int) := by omega
    have h3 : (j : Int) < (s.Charts.length : Int) := by omega
    have c0 : 0 ≤ (i : Int) := by omega
    have c1 : 0 ≤ (j : Int) := by omega
    have w3 : IntKind.i64.wrap ((i : Int) + 1) = ((i + 1 : Nat) : Int) := by rw [w64 (by omega) (by omega)]; omega
    simp only [h1, h2, h3, c0, c1, and_self, decide_true, if_true, w3]
    by_cases e : ix s.Charts (i : Int) = ix s.Charts (j : Int) <;> simp [e]
  have hmem : ix s.Charts (j : Int) ∉ s.Charts.take j ↔ ∀ i, i < j → ix s.Charts (i : Int) ≠ ix s.Charts (j : Int) := by
    constructor
    · intro h i hi e
      apply h
      rw [← e, ix_nat (show i < s.Charts.length by omega)]
      exact List.mem_take_iff_getElem.2 ⟨i, by omega, rfl⟩
    · intro h hm
      obtain ⟨i, hi, he⟩ := List.mem_take_iff_getElem.1 hm
      exact h i (by omega) (by rw [ix_nat (show i < s.Charts.length by omega)]; exact he)
  by_cases h : ix s.Charts (j : Int) ∉ s.Charts.take j
  · rw [if_pos h]
    refine loopM_run (S := fun i => (i : Int)) j rfl (fun i hi => by rw [hs i hi, if_pos (hmem.1 h i hi)]) ?_ (by omega)
    unfold rickyardref13_Right.s2
    simp
  · rw [if_neg h]
    refine loopM_bad (S := fun i => (i : Int)) j (fun i => ix s.Charts (i : Int) ≠ ix s.Charts (j : Int)) rfl ?_ (fun i hi _ hg => by rw [hs i hi, if_pos hg]) (fun i hi _ hg => by rw [hs i hi, if_neg hg]) (by omega)
    apply Classical.byContradiction
    intro hx
    exact h (hmem.2 fun i hi => Classical.byContradiction fun hg => hx ⟨i, hi, hg⟩)
theorem rs1_eq {fu : Nat} {s : S_api_Super} (hl : s.Charts.length ≤ 50) (hf : 100 < fu) : loopM (rickyardref13_Right.s1 fu s) fu (needL s, 0) = some (if apartC s.Charts then .inr (needL s ++ s.Charts) else .inl false) := by
  have hn := needL_len s
  have hs : ∀ j : Nat, j < s.Charts.length → rickyardref13_Right.s1 fu s (needL s ++ s.Charts.take j, (j : Int)) = some (if ix s.Charts (j : Int) ∉ s.Charts.take j then .inr (needL s ++ s.Charts.take (j + 1), ((j + 1 : Nat) : Int)) else .inl (.inl false)) := by
    intro j hj
    unfold rickyardref13_Right.s1
    have h2 : (j : Int) < (s.Charts.length : Int) := by omega
    have c0 : 0 ≤ (j : Int) := by omega
    have w3 : IntKind.i64.wrap ((j : Int) + 1) = ((j + 1 : Nat) : Int) := by rw [w64 (by omega) (by omega)]; omega
    have hlim : (needL s ++ s.Charts.take j).length + ([ix s.Charts (j : Int)] : List Int).length ≤ LIM := lim_of' (by rw [List.length_append, List.length_take]; simp; omega)
    have e : needL s ++ s.Charts.take (j + 1) = needL s ++ s.Charts.take j ++ [ix s.Charts (j : Int)] := by
      rw [List.take_add_one, List.getElem?_eq_getElem hj, ix_nat hj, List.append_assoc]
      rfl
    simp only [h2, c0, and_self, decide_true, if_true, w3, hlim, rs2_eq hj hl hf, e]
    by_cases g : ix s.Charts (j : Int) ∉ s.Charts.take j
    · rw [if_pos g, if_pos g]
      rfl
    · rw [if_neg g, if_neg g]
      rfl
  by_cases h : apartC s.Charts
  · rw [if_pos h]
    refine loopM_run (S := fun j => (needL s ++ s.Charts.take j, (j : Int))) s.Charts.length (by simp) (fun j hj => by rw [hs j hj, if_pos (h j hj)]) ?_ (by omega)
    unfold rickyardref13_Right.s1
    simp
  · rw [if_neg h]
    refine loopM_bad (S := fun j => (needL s ++ s.Charts.take j, (j : Int))) s.Charts.length (fun j => ix s.Charts (j : Int) ∉ s.Charts.take j) (by simp) ?_ (fun j hj _ hg => by rw [hs j hj, if_pos hg]) (fun j hj _ hg => by rw [hs j hj, if_neg hg]) (by omega)
    apply Classical.byContradiction
    intro hx
    exact h fun i hi => Classical.byContradiction fun hg => hx ⟨i, hi, hg⟩
theorem rs3_eq {fu : Nat} {s : S_api_Super} {l : List Int} (hl : l.length ≤ 60) (hf : 100 < fu) : loopM (rickyardref13_Right.s3 fu s l) fu 0 = some (if ∀ j, j < l.length → inB s (ix l (j : Int)) then .inr () else .inl false) := by
  have hs : ∀ j : Nat, j < l.length → rickyardref13_Right.s3 fu s l (j : Int) = some (if inB s (ix l (j : Int)) then .inr ((j + 1 : Nat) : Int) else .inl (.inl false)) := by
    intro j hj
    unfold rickyardref13_Right.s3
    have h2 : (j : Int) < (l.length : Int) := by omega
    have c0 : 0 ≤ (j : Int) := by omega
    have w3 : IntKind.i64.wrap ((j : Int) + 1) = ((j + 1 : Nat) : Int) := by rw [w64 (by omega) (by omega)]; omega
    simp only [h2, c0, and_self, decide_true, if_true, w3]
    by_cases g1 : ix l (j : Int) < 2
    · have g : ¬ inB s (ix l (j : Int)) := fun x => by unfold inB at x; omega
      rw [decide_eq_true g1, if_neg g]
      rfl
    · by_cases g2 : ix l (j : Int) ≥ s.Tickets.Geometry.Blocks
      · have g : ¬ inB s (ix l (j : Int)) := fun x => by unfold inB at x; omega
        rw [decide_eq_false g1, decide_eq_true g2, if_neg g]
        rfl
      · have g : inB s (ix l (j : Int)) := ⟨by omega, by omega⟩
        rw [decide_eq_false g1, decide_eq_false g2, if_pos g]
        rfl
  by_cases h : ∀ j, j < l.length → inB s (ix l (j : Int))
  · rw [if_pos h]
    refine loopM_run (S := fun j => (j : Int)) l.length rfl (fun j hj => by rw [hs j hj, if_pos (h j hj)]) ?_ (by omega)
    unfold rickyardref13_Right.s3
    simp
  · rw [if_neg h]
    refine loopM_bad (S := fun j => (j : Int)) l.length (fun j => inB s (ix l (j : Int))) rfl ?_ (fun j hj _ hg => by rw [hs j hj, if_pos hg]) (fun j hj _ hg => by rw [hs j hj, if_neg hg]) (by omega)
    apply Classical.byContradiction
    intro hx
    exact h fun i hi => Classical.byContradiction fun hg => hx ⟨i, hi, hg⟩
theorem rsuperRight_eq {fu : Nat} {s : S_api_Super} (hf : 100 < fu) : rickyardref13_Right.f fu s = some (decide (SupOk s)) := by
  unfold rickyardref13_Right.f
  rw [rgeom_eq]
  by_cases hA : supA s
  · have hA' := hA
    unfold supA at hA'
    have hg := hA.2
    have hg' := hg
    unfold geoOk at hg'
    have c1 : ¬ s.Epoch < 1 := by omega
    have c2 : ¬ s.Epoch > 4611686018427387904 := by omega
    rw [decide_eq_false c1, decide_eq_false c2, decide_eq_true hg, rcharts_eq hg hf]
    simp only [Bool.false_eq_true, if_false, Option.bind_some, Bool.not_true]
    by_cases hB : supB s
    · have hB' := hB
      unfold supB at hB'
      have c3 : ¬ s.Tickets.High < 0 := by omega
      have c4 : ¬ s.Tickets.High > s.Tickets.Geometry.Slots := by omega
      have c5 : ¬ s.Tickets.Free < 0 := by omega
      have c6 : ¬ s.Tickets.Free > s.Tickets.High := by omega
      rw [decide_eq_false c3, decide_eq_false c4, decide_eq_false c5, decide_eq_false c6]
      simp only [Bool.false_eq_true, if_false, Option.bind_some]
      by_cases hL : (s.Charts.length : Int) = chartsN s.Tickets.Geometry
      · rw [decide_eq_true hL]
        simp only [Bool.not_true, Bool.false_eq_true, if_false]
        have hlen : s.Charts.length ≤ 50 := by unfold chartsN at hL; omega
        have hn := needL_len s
        have fin : (((loopM (rickyardref13_Right.s1 fu s) fu (needL s, 0)).bind fun e99 => match e99 with | Sum.inl p => some p | Sum.inr x102 => ((loopM (rickyardref13_Right.s3 fu s x102) fu (0)).bind fun e150 => match e150 with | Sum.inl p => some p | Sum.inr x153 => some (true)))) = some (decide (apartC s.Charts ∧ ∀ x ∈ needL s ++ s.Charts, inB s x)) := by
          rw [rs1_eq hlen hf]
          by_cases ha : apartC s.Charts
          · rw [if_pos ha]
            simp only [Option.bind_some]
            rw [rs3_eq (by rw [List.length_append]; omega) hf]
            by_cases hi : ∀ j, j < (needL s ++ s.Charts).length → inB s (ix (needL s ++ s.Charts) (j : Int))
            · rw [if_pos hi, decide_eq_true (⟨ha, mem_ix.2 hi⟩ : apartC s.Charts ∧ ∀ x ∈ needL s ++ s.Charts, inB s x)]
              rfl
            · rw [if_neg hi, decide_eq_false (fun x : apartC s.Charts ∧ ∀ x ∈ needL s ++ s.Charts, inB s x => hi (mem_ix.1 x.2))]
              rfl
          · rw [if_neg ha, decide_eq_false (fun x : apartC s.Charts ∧ ∀ x ∈ needL s ++ s.Charts, inB s x => ha x.1)]
            rfl
        have same : (s.Tickets.High = 0 → s.Tickets.Top = 0) → (decide (apartC s.Charts ∧ ∀ x ∈ needL s ++ s.Charts, inB s x)) = decide (SupOk s) := by
          intro ht
          apply decide_eq_decide.2
          constructor
          · rintro ⟨ha, hi⟩
            refine ⟨hA, hB, ⟨ht, fun hh => hi _ ?_⟩, fun hd => hi _ ?_, hL, mem_ix.1 fun x hx => hi x (List.mem_append_right _ hx), ha⟩
            · apply List.mem_append_left
              unfold needL
              rw [if_neg hh]
              simp
            · apply List.mem_append_left
              unfold needL
              rw [if_neg hd]
              simp
          · intro h
            refine ⟨h.2.2.2.2.2.2, fun x hx => ?_⟩
            rcases List.mem_append.1 hx with hx | hx
            · unfold needL at hx
              rcases List.mem_append.1 hx with hx | hx
              · by_cases h0 : s.Tickets.High = 0
                · rw [if_pos h0] at hx
                  simp at hx
                · rw [if_neg h0] at hx
                  rw [List.mem_singleton.1 hx]
                  exact h.2.2.1.2 h0
              · by_cases h0 : s.Dir = 0
                · rw [if_pos h0] at hx
                  simp at hx
                · rw [if_neg h0] at hx
                  rw [List.mem_singleton.1 hx]
                  exact h.2.2.2.1 h0
            · exact mem_ix.2 h.2.2.2.2.2.1 x hx
        have l1 : ([] : List Int).length + ([s.Tickets.Top] : List Int).length ≤ LIM := lim_of' (by simp)
        by_cases h0 : s.Tickets.High = 0
        · rw [decide_eq_true h0]
          simp only [if_true]
          by_cases ht : s.Tickets.Top = 0
          · rw [decide_eq_true ht]
            simp only [Bool.not_true, Bool.false_eq_true, if_false, Option.bind_some]
            have hsame := same (fun _ => ht)
            by_cases hd : s.Dir = 0
            · rw [decide_eq_true hd]
              have hneed : needL s = [] := by unfold needL; rw [if_pos h0, if_pos hd]; rfl
              rw [← hsame, ← fin, hneed]
              rfl
            · rw [decide_eq_false hd]
              have hneed : needL s = [] ++ [s.Dir] := by unfold needL; rw [if_pos h0, if_neg hd]
              have l2 : ([] : List Int).length + ([s.Dir] : List Int).length ≤ LIM := lim_of' (by simp)
              rw [← hsame, ← fin, hneed]
              simp only [Bool.not_false, if_true, if_pos l2, Option.bind_some]
              rfl
          · rw [decide_eq_false ht]
            have : ¬ SupOk s := fun x => ht (x.2.2.1.1 h0)
            rw [decide_eq_false this]
            rfl
        · rw [decide_eq_false h0]
          simp only [Bool.false_eq_true, if_false, if_pos l1, Option.bind_some]
          have hsame := same (fun x => absurd x h0)
          by_cases hd : s.Dir = 0
          · rw [decide_eq_true hd]
            have hneed : needL s = [] ++ [s.Tickets.Top] := by unfold needL; rw [if_neg h0, if_pos hd]; rfl
            rw [← hsame, ← fin, hneed]
            rfl
          · rw [decide_eq_false hd]
            have hneed : needL s = [] ++ [s.Tickets.Top] ++ [s.Dir] := by unfold needL; rw [if_neg h0, if_neg hd]; rfl
            have l2 : ([] ++ [s.Tickets.Top] : List Int).length + ([s.Dir] : List Int).length ≤ LIM := lim_of' (by simp)
            rw [← hsame, ← fin, hneed]
            simp only [Bool.not_false, if_true, if_pos l2, Option.bind_some]
            rfl
      · rw [decide_eq_false hL, decide_eq_false (fun x : SupOk s => hL x.2.2.2.2.1)]
        rfl
    · rw [decide_eq_false (fun x : SupOk s => hB x.2.1)]
      unfold supB at hB
      by_cases c3 : s.Tickets.High < 0
      · rw [decide_eq_true c3]
        rfl
      · by_cases c4 : s.Tickets.High > s.Tickets.Geometry.Slots
        · rw [decide_eq_false c3, decide_eq_true c4]
          rfl
        · by_cases c5 : s.Tickets.Free < 0
          · rw [decide_eq_false c3, decide_eq_false c4, decide_eq_true c5]
            rfl
          · have c6 : s.Tickets.Free > s.Tickets.High := by omega
            rw [decide_eq_false c3, decide_eq_false c4, decide_eq_false c5, decide_eq_true c6]
            rfl
  · rw [decide_eq_false (fun x : SupOk s => hA x.1)]
    unfold supA at hA
    by_cases c1 : s.Epoch < 1
    · rw [decide_eq_true c1]
      rfl
    · by_cases c2 : s.Epoch > 4611686018427387904
      · rw [decide_eq_false c1, decide_eq_true c2]
        rfl
      · have c3 : ¬ geoOk s.Tickets.Geometry := fun x => hA ⟨by omega, x⟩
        rw [decide_eq_false c1, decide_eq_false c2, decide_eq_false c3]
        rfl
/-! ### Octets -/
def supH (s : S_api_Super) : List Int := lay (u64n s.Epoch) 8 ++ (lay (u64n s.Tickets.Geometry.Blocks) 4 ++ (lay (u64n s.Tickets.Geometry.Slots) 4 ++ (lay (u64n s.Tickets.Geometry.Gens) 4 ++ (lay (u64n s.Tickets.High) 4 ++ (lay (u64n s.Tickets.Free) 4 ++ (lay (u64n s.Tickets.Top) 2 ++ lay (u64n s.Dir) 2))))))
theorem supH_len (s : S_api_Super) : (supH s).length = 32 := by simp [supH, lay_len]
theorem supH_bytes (s : S_api_Super) : Bytes (supH s) := (lay_bytes _ _).app ((lay_bytes _ _).app ((lay_bytes _ _).app ((lay_bytes _ _).app ((lay_bytes _ _).app ((lay_bytes _ _).app ((lay_bytes _ _).app (lay_bytes _ _)))))))
def supE (s : S_api_Super) : List Int := supH s ++ rowE s.Charts s.Charts.length
theorem supE_len (s : S_api_Super) : (supE s).length = 32 + 2 * s.Charts.length := by simp [supE, supH_len, rowE_len]
theorem supE_bytes (s : S_api_Super) : Bytes (supE s) := (supH_bytes _).app (rowE_bytes _ _)
theorem octets1_eq {fu : Nat} {x : Int} (hf : 100 < fu) : octet_Octets.f fu [(IntKind.u64.wrap x)] = some (lay (u64n x) 8) := by
  unfold octet_Octets.f
  have hl : ∀ z : Int, octet_Lay.f fu (IntKind.u64.wrap z) 8 = some (lay (u64n z) 8) := fun z => olay64 (n := 8) (by decide) (by omega)
  have : loopM (octet_Octets.s0 fu [(IntKind.u64.wrap x)]) fu ([], 0) = some (lay (u64n x) 8) := by
    refine loopM_run (S := fun j => (if j = 0 then [] else lay (u64n x) 8, (j : Int))) 1 rfl ?_ ?_ (by omega)
    · intro j hj
      obtain rfl : j = 0 := by omega
      unfold octet_Octets.s0
      have l0 : (0 : Nat) + 8 ≤ LIM := lim_of' (by decide)
      simp [hl, ix, lay_len, w64, l0]
    · unfold octet_Octets.s0
      simp
  rw [this]
  rfl
def five (s : S_api_Super) (i : Nat) : Int := if i = 0 then s.Tickets.Geometry.Blocks else if i = 1 then s.Tickets.Geometry.Slots else if i = 2 then s.Tickets.Geometry.Gens else if i = 3 then s.Tickets.High else s.Tickets.Free
theorem superPut_eq {fu : Nat} {s : S_api_Super} (hf : 100 < fu) : super_Put.f fu s = some (if SupOk s then (sealed (summed 7 (s.Charts.length : Int) (supE s)), true) else ([], false)) := by
  unfold super_Put.f
  rw [superRight_eq hf]
  by_cases h : SupOk s
  · have k1 := h.len
    have hl4 : ∀ z : Int, octet_Lay.f fu (IntKind.u64.wrap z) 4 = some (lay (u64n z) 4) := fun z => olay64 (n := 4) (by decide) (by omega)
    have hl2 : ∀ z : Int, octet_Lay.f fu (IntKind.u64.wrap z) 2 = some (lay (u64n z) 2) := fun z => olay64 (n := 2) (by decide) (by omega)
    have hg : ∀ j : Nat, j < 5 → Arr.get (Arr.set (Arr.set (Arr.set (Arr.set (Arr.set (Arr.rep 5 (0 : Int)) 0 s.Tickets.Geometry.Blocks) 1 s.Tickets.Geometry.Slots) 2 s.Tickets.Geometry.Gens) 3 s.Tickets.High) 4 s.Tickets.Free) (j : Int) = five s j := by
      intro j hj
      have : j = 0 ∨ j = 1 ∨ j = 2 ∨ j = 3 ∨ j = 4 := by omega
      rcases this with rfl | rfl | rfl | rfl | rfl <;> rfl
    obtain ⟨A, hA⟩ : ∃ A, A = Arr.set (Arr.set (Arr.set (Arr.set (Arr.set (Arr.rep 5 (0 : Int)) 0 s.Tickets.Geometry.Blocks) 1 s.Tickets.Geometry.Slots) 2 s.Tickets.Geometry.Gens) 3 s.Tickets.High) 4 s.Tickets.Free := ⟨_, rfl⟩
    rw [← hA] at hg
    have loop0 : loopM (super_Put.s0 fu s) fu (lay (u64n s.Epoch) 8, 0) = some (lay (u64n s.Epoch) 8 ++ (List.range 5).flatMap fun i => lay (u64n (five s i)) 4) := by
      refine loopM_run (S := fun j => (lay (u64n s.Epoch) 8 ++ (List.range j).flatMap fun i => lay (u64n (five s i)) 4, (j : Int))) 5 (by simp) ?_ ?_ (by omega)
      · intro j hj
        unfold super_Put.s0
        rw [← hA]
        have h1 : (j : Int) < 5 := by omega
        have w3 : IntKind.i64.wrap ((j : Int) + 1) = ((j + 1 : Nat) : Int) := by rw [w64 (by omega) (by omega)]; omega
        have hfl : ((List.range j).flatMap fun i => lay (u64n (five s i)) 4).length = 4 * j := flat_len (fun i => lay_len _ _) j
        have hlim : (lay (u64n s.Epoch) 8 ++ (List.range j).flatMap fun i => lay (u64n (five s i)) 4).length + (lay (u64n (five s j)) 4).length ≤ LIM := lim_of' (by rw [List.length_append, hfl, lay_len, lay_len]; omega)
        simp only [h1, decide_true, if_true, w3, hg j hj, hl4, Option.bind_some]
        rw [if_pos ⟨by omega, trivial⟩, if_pos hlim, flat_succ, List.append_assoc]
      · unfold super_Put.s0
        simp
    have eH : lay (u64n s.Epoch) 8 ++ ((List.range 5).flatMap fun i => lay (u64n (five s i)) 4) ++ rowE ([s.Tickets.Top, s.Dir] ++ s.Charts) (2 + s.Charts.length) = supE s := by
      have e1 : rowE ([s.Tickets.Top, s.Dir] ++ s.Charts) (2 + s.Charts.length) = lay (u64n s.Tickets.Top) 2 ++ (lay (u64n s.Dir) 2 ++ rowE s.Charts s.Charts.length) := by
        unfold rowE
        rw [List.range_add, List.flatMap_append]
        have e0 : (List.range 2).flatMap (fun (i : Nat) => lay (u64n (ix ([s.Tickets.Top, s.Dir] ++ s.Charts) (i : Int))) 2) = lay (u64n s.Tickets.Top) 2 ++ lay (u64n s.Dir) 2 := by
          show lay _ 2 ++ (lay _ 2 ++ []) = _
          rw [List.append_nil]
          rfl
        rw [e0, List.append_assoc]
        congr 2
        rw [List.flatMap_map]
        apply flat_congr
        intro i hi
        congr 2
        unfold ix
        rw [Int.toNat_natCast, Int.toNat_natCast, List.getD_eq_getElem?_getD, List.getD_eq_getElem?_getD, List.getElem?_append_right (by simp)]
        congr 2
        simp
      rw [e1]
      have e2 : (List.range 5).flatMap (fun i => lay (u64n (five s i)) 4) = lay (u64n s.Tickets.Geometry.Blocks) 4 ++ (lay (u64n s.Tickets.Geometry.Slots) 4 ++ (lay (u64n s.Tickets.Geometry.Gens) 4 ++ (lay (u64n s.Tickets.High) 4 ++ lay (u64n s.Tickets.Free) 4))) := by
        show lay _ 4 ++ (lay _ 4 ++ (lay _ 4 ++ (lay _ 4 ++ (lay _ 4 ++ [])))) = _
        rw [List.append_nil]
        rfl
      rw [e2]
      unfold supE supH
      simp only [List.append_assoc]
    have hlen2 : ([s.Tickets.Top, s.Dir] ++ s.Charts).length = 2 + s.Charts.length := by simp; omega
    have h5 : (lay (u64n s.Epoch) 8 ++ (List.range 5).flatMap fun i => lay (u64n (five s i)) 4).length = 28 := by
      rw [List.length_append, lay_len, flat_len (w := 4) (fun i => lay_len _ _)]
    have loop1 : loopM (super_Put.s1 fu s) fu (lay (u64n s.Epoch) 8 ++ (List.range 5).flatMap fun i => lay (u64n (five s i)) 4, 0) = some (supE s) := by
      refine loopM_run (S := fun j => (lay (u64n s.Epoch) 8 ++ ((List.range 5).flatMap fun i => lay (u64n (five s i)) 4) ++ rowE ([s.Tickets.Top, s.Dir] ++ s.Charts) j, (j : Int))) (2 + s.Charts.length) (by simp [rowE]) ?_ ?_ (by omega)
      · intro j hj
        unfold super_Put.s1
        have h1 : (j : Int) < (([s.Tickets.Top, s.Dir] ++ s.Charts).length : Int) := by omega
        have c0 : 0 ≤ (j : Int) := by omega
        have w3 : IntKind.i64.wrap ((j : Int) + 1) = ((j + 1 : Nat) : Int) := by rw [w64 (by omega) (by omega)]; omega
        have hlim : (lay (u64n s.Epoch) 8 ++ ((List.range 5).flatMap fun i => lay (u64n (five s i)) 4) ++ rowE ([s.Tickets.Top, s.Dir] ++ s.Charts) j).length + (lay (u64n (ix ([s.Tickets.Top, s.Dir] ++ s.Charts) (j : Int))) 2).length ≤ LIM := lim_of' (by rw [List.length_append, h5, rowE_len, lay_len]; omega)
        simp only [h1, c0, and_self, decide_true, if_true, w3, hl2, Option.bind_some]
        rw [if_pos hlim, List.append_assoc]
        congr 4
        rw [rowE, rowE, flat_succ]
      · unfold super_Put.s1
        rw [hlen2, eH]
        simp
    have hlim3 : ([s.Tickets.Top, s.Dir] : List Int).length + s.Charts.length ≤ LIM := lim_of' (by simp; omega)
    have hs := seal_eq (fu := fu) (k := 7) (t := (s.Charts.length : Int)) (supE_bytes s) (by omega) (by omega) (by rw [supE_len]; omega) hf
    simp only [h, decide_true, Bool.not_true, Bool.false_eq_true, if_false, octets1_eq hf, Option.bind_some, loop0, if_pos hlim3, loop1, hs, if_true]
  · simp [h]
theorem rsuperPut_eq {fu : Nat} {s : S_api_Super} (hk : s.Charts.length ≤ 8) (hf : 100 < fu) : rickyardref13_Put.f fu s = some ((sealed (summed 7 (s.Charts.length : Int) (supE s))).map toB) := by
  unfold rickyardref13_Put.f
  have hl8 : ∀ z : Int, rickyardref01_Lay.f fu (IntKind.u64.wrap z) 8 = some ((lay (u64n z) 8).map toB) := fun z => rlay64 (n := 8) (by decide) (by omega)
  have hl4 : ∀ z : Int, rickyardref01_Lay.f fu (IntKind.u64.wrap z) 4 = some ((lay (u64n z) 4).map toB) := fun z => rlay64 (n := 4) (by decide) (by omega)
  have hl2 : ∀ z : Int, rickyardref01_Lay.f fu (IntKind.u64.wrap z) 2 = some ((lay (u64n z) 2).map toB) := fun z => rlay64 (n := 2) (by decide) (by omega)
  have e0 : (lay (u64n s.Epoch) 8).map toB ++ (lay (u64n s.Tickets.Geometry.Blocks) 4).map toB ++ (lay (u64n s.Tickets.Geometry.Slots) 4).map toB ++ (lay (u64n s.Tickets.Geometry.Gens) 4).map toB ++ (lay (u64n s.Tickets.High) 4).map toB ++ (lay (u64n s.Tickets.Free) 4).map toB ++ (lay (u64n s.Tickets.Top) 2).map toB ++ (lay (u64n s.Dir) 2).map toB = (supH s).map toB := by simp [supH]
  have lm : ∀ v n, ((lay v n).map toB).length = n := fun v n => by rw [List.length_map, lay_len]
  have lim : ∀ {a : List UInt8} {b : List UInt8}, a.length + b.length ≤ 1000 → a.length + b.length ≤ LIM := fun h => lim_of' h
  have hloop : loopM (rickyardref13_Put.s0 fu s) fu ((supH s).map toB, 0) = some ((supE s).map toB) := by
    refine loopM_run (S := fun j => ((supH s ++ rowE s.Charts j).map toB, (j : Int))) s.Charts.length (by simp [rowE]) ?_ ?_ (by omega)
    · intro j hj
      unfold rickyardref13_Put.s0
      have h1 : (j : Int) < (s.Charts.length : Int) := by omega
      have c0 : 0 ≤ (j : Int) := by omega
      have w3 : IntKind.i64.wrap ((j : Int) + 1) = ((j + 1 : Nat) : Int) := by rw [w64 (by omega) (by omega)]; omega
      have hlim : ((supH s ++ rowE s.Charts j).map toB).length + ((lay (u64n (ix s.Charts (j : Int))) 2).map toB).length ≤ LIM := lim_of' (by rw [List.length_map, List.length_map, List.length_append, supH_len, rowE_len, lay_len]; omega)
      simp only [h1, c0, and_self, decide_true, if_true, w3, hl2, Option.bind_some, hlim]
      rw [← List.map_append, List.append_assoc]
      congr 5
      rw [rowE, rowE, flat_succ]
    · unfold rickyardref13_Put.s0
      simp [supE]
  have hs := rseal_eq (fu := fu) (k := 7) (t := (s.Charts.length : Int)) (supE_bytes s) (by omega) (by omega) (by rw [supE_len]; omega) hf
  simp only [hl8, hl4, hl2, Option.bind_some]
  rw [if_pos (lim (by simp only [List.length_append, lm]; decide)), if_pos (lim (by simp only [List.length_append, lm]; decide)), if_pos (lim (by simp only [List.length_append, lm]; decide)), if_pos (lim (by simp only [List.length_append, lm]; decide)), if_pos (lim (by simp only [List.length_append, lm]; decide)), if_pos (lim (by simp only [List.length_append, lm]; decide)), if_pos (lim (by simp only [List.length_append, lm]; decide)), e0, hloop, Option.bind_some, hs]
  rfl
end Go.Proofs.Ytjhajfkfhdnciaa.Pure

/- Superblocks in plain words: what octets tell. -/
set_option linter.unusedVariables false
set_option linter.unusedSimpArgs false
namespace Go.Proofs.Ytjhajfkfhdnciaa.Pure
open Go Go.Xw
theorem part_drop (l : List Int) (i n : Nat) : part (l.drop i) 0 n = part l i n := by
  unfold part
  rw [List.drop_zero]
theorem intAt_drop (l : List Int) (i n : Nat) : intAt (l.drop i) 0 n = intAt l i n := by
  unfold intAt
  rw [part_drop]
theorem next_eq {fu : Nat} {b : List Int} {i n : Nat} (hb : Bytes b) (h : i + n ≤ b.length) (hn : n ≤ 8) (hf : 100 < fu) : super_reader_next.f fu ⟨b.drop i⟩ (n : Int) = some (intAt b i n, ⟨b.drop (i + n)⟩) := by
  unfold super_reader_next.f
  have hl : (b.drop i).length = b.length - i := List.length_drop
  have c1 : 0 ≤ (n : Int) ∧ (n : Int) ≤ ((b.drop i).length : Int) := by omega
  have e0 : cut (b.drop i) 0 (n : Int) = part b i n := by unfold cut part; simp
  have e1 : cut (b.drop i) (n : Int) ((b.drop i).length : Int) = b.drop (i + n) := by
    unfold cut
    rw [Int.toNat_natCast, Int.toNat_natCast, List.take_length, List.drop_drop]
  have hr : octet_Read.f fu (part b i n) = some ((num (part b i n) : Nat) : Int) := read_eq (part_bytes hb i n) (by rw [part_len h]; exact hn) (by rw [part_len h]; omega)
  simp only [if_pos c1, e0, e1, hr, Option.bind_some]
  rfl
def chartsOf (body : List Int) (t : Nat) : List Int := (List.range t).map fun i => intAt body (32 + 2 * i) 2
def supOf (body : List Int) (t : Nat) : S_api_Super := ⟨intAt body 0 8, ⟨⟨intAt body 8 4, intAt body 12 4, intAt body 16 4⟩, intAt body 28 2, intAt body 20 4, intAt body 24 4⟩, intAt body 30 2, chartsOf body t⟩
theorem supE_of {body : List Int} (hb : Bytes body) {t : Nat} (h : 32 + 2 * t ≤ body.length) : supE (supOf body t) = body.take (32 + 2 * t) := by
  have e1 : rowE (chartsOf body t) t = (body.drop 32).take (2 * t) := by
    rw [← field_flat (w := 2) t (by rw [List.length_drop]; omega)]
    apply flat_congr
    intro i hi
    unfold chartsOf
    rw [ix_map hi, lay_part hb (by omega) (by decide)]
    unfold part fieldAt
    rw [List.drop_drop]
  have hk : (chartsOf body t).length = t := by simp [chartsOf]
  have e2 : supH (supOf body t) = body.take 32 := by
    unfold supH supOf
    simp only
    rw [lay_part hb (by omega) (by decide), lay_part hb (by omega) (by decide), lay_part hb (by omega) (by decide), lay_part hb (by omega) (by decide), lay_part hb (by omega) (by decide), lay_part hb (by omega) (by decide), lay_part hb (by omega) (by decide), lay_part hb (by omega) (by decide)]
    unfold part
    rw [show (32 : Nat) = 0 + 8 + 4 + 4 + 4 + 4 + 4 + 2 + 2 from rfl, List.take_add, List.take_add, List.take_add, List.take_add, List.take_add, List.take_add, List.take_add, List.take_add]
    simp
  unfold supE
  have hk2 : (supOf body t).Charts = chartsOf body t := rfl
  rw [hk2, hk, e1, e2, List.take_add]
theorem supOf_E {s : S_api_Super} (h : SupOk s) (t : List Int) : supOf (supE s ++ t) s.Charts.length = s := by
  have hlen := h.len
  have hA := h.1
  have hB := h.2.1
  have hT := h.2.2.1
  have hD := h.2.2.2.1
  have hI := h.2.2.2.2.2.1
  unfold supA geoOk at hA
  unfold supB at hB
  have hTop : 0 ≤ s.Tickets.Top ∧ s.Tickets.Top ≤ 3072 := by
    by_cases h0 : s.Tickets.High = 0
    · have := hT.1 h0
      omega
    · have := hT.2 h0
      unfold inB at this
      omega
  have hDir : 0 ≤ s.Dir ∧ s.Dir ≤ 3072 := by
    by_cases h0 : s.Dir = 0
    · omega
    · have := hD h0
      unfold inB at this
      omega
  obtain ⟨R, hR⟩ : ∃ R, R = rowE s.Charts s.Charts.length ++ t := ⟨_, rfl⟩
  have e : supE s ++ t = lay (u64n s.Epoch) 8 ++ (lay (u64n s.Tickets.Geometry.Blocks) 4 ++ (lay (u64n s.Tickets.Geometry.Slots) 4 ++ (lay (u64n s.Tickets.Geometry.Gens) 4 ++ (lay (u64n s.Tickets.High) 4 ++ (lay (u64n s.Tickets.Free) 4 ++ (lay (u64n s.Tickets.Top) 2 ++ (lay (u64n s.Dir) 2 ++ R))))))) := by
    rw [hR]
    simp [supE, supH]
  have l8 : ∀ v, (lay v 8).length = 8 := fun v => lay_len v 8
  have l4 : ∀ v, (lay v 4).length = 4 := fun v => lay_len v 4
  have l2 : ∀ v, (lay v 2).length = 2 := fun v => lay_len v 2
  have d8 : (supE s ++ t).drop 8 = (lay (u64n s.Tickets.Geometry.Blocks) 4 ++ (lay (u64n s.Tickets.Geometry.Slots) 4 ++ (lay (u64n s.Tickets.Geometry.Gens) 4 ++ (lay (u64n s.Tickets.High) 4 ++ (lay (u64n s.Tickets.Free) 4 ++ (lay (u64n s.Tickets.Top) 2 ++ (lay (u64n s.Dir) 2 ++ R))))))) := by rw [e, List.drop_left' (l8 _)]
  have d12 : (supE s ++ t).drop 12 = (lay (u64n s.Tickets.Geometry.Slots) 4 ++ (lay (u64n s.Tickets.Geometry.Gens) 4 ++ (lay (u64n s.Tickets.High) 4 ++ (lay (u64n s.Tickets.Free) 4 ++ (lay (u64n s.Tickets.Top) 2 ++ (lay (u64n s.Dir) 2 ++ R)))))) := by rw [show (12 : Nat) = 8 + 4 from rfl, ← List.drop_drop, d8, List.drop_left' (l4 _)]
  have d16 : (supE s ++ t).drop 16 = (lay (u64n s.Tickets.Geometry.Gens) 4 ++ (lay (u64n s.Tickets.High) 4 ++ (lay (u64n s.Tickets.Free) 4 ++ (lay (u64n s.Tickets.Top) 2 ++ (lay (u64n s.Dir) 2 ++ R))))) := by rw [show (16 : Nat) = 12 + 4 from rfl, ← List.drop_drop, d12, List.drop_left' (l4 _)]
  have d20 : (supE s ++ t).drop 20 = (lay (u64n s.Tickets.High) 4 ++ (lay (u64n s.Tickets.Free) 4 ++ (lay (u64n s.Tickets.Top) 2 ++ (lay (u64n s.Dir) 2 ++ R)))) := by rw [show (20 : Nat) = 16 + 4 from rfl, ← List.drop_drop, d16, List.drop_left' (l4 _)]
  have d24 : (supE s ++ t).drop 24 = (lay (u64n s.Tickets.Free) 4 ++ (lay (u64n s.Tickets.Top) 2 ++ (lay (u64n s.Dir) 2 ++ R))) := by rw [show (24 : Nat) = 20 + 4 from rfl, ← List.drop_drop, d20, List.drop_left' (l4 _)]
  have d28 : (supE s ++ t).drop 28 = (lay (u64n s.Tickets.Top) 2 ++ (lay (u64n s.Dir) 2 ++ R)) := by rw [show (28 : Nat) = 24 + 4 from rfl, ← List.drop_drop, d24, List.drop_left' (l4 _)]
  have d30 : (supE s ++ t).drop 30 = (lay (u64n s.Dir) 2 ++ R) := by rw [show (30 : Nat) = 28 + 2 from rfl, ← List.drop_drop, d28, List.drop_left' (l2 _)]
  have d32 : (supE s ++ t).drop 32 = R := by rw [show (32 : Nat) = 30 + 2 from rfl, ← List.drop_drop, d30, List.drop_left' (l2 _)]
  have q8 : (256 : Nat) ^ 8 = 18446744073709551616 := by decide
  have q4 : (256 : Nat) ^ 4 = 4294967296 := by decide
  have q2 : (256 : Nat) ^ 2 = 65536 := by decide
  have val : ∀ (i n : Nat) (x : Int), part (supE s ++ t) i n = lay (u64n x) n → 0 ≤ x → x < ((256 ^ n : Nat) : Int) → x ≤ 9223372036854775807 → intAt (supE s ++ t) i n = x := by
    intro i n x hp h0 h1 h2
    unfold intAt
    rw [hp, num_lay, u64n_of h0 (by omega), Nat.mod_eq_of_lt (by omega), Int.toNat_of_nonneg h0, w64 (by omega) h2]
  have p0 : part (supE s ++ t) 0 8 = lay (u64n s.Epoch) 8 := by unfold part; rw [List.drop_zero, e, List.take_left' (l8 _)]
  have p8 : part (supE s ++ t) 8 4 = lay (u64n s.Tickets.Geometry.Blocks) 4 := by unfold part; rw [d8, List.take_left' (l4 _)]
  have p12 : part (supE s ++ t) 12 4 = lay (u64n s.Tickets.Geometry.Slots) 4 := by unfold part; rw [d12, List.take_left' (l4 _)]
  have p16 : part (supE s ++ t) 16 4 = lay (u64n s.Tickets.Geometry.Gens) 4 := by unfold part; rw [d16, List.take_left' (l4 _)]
  have p20 : part (supE s ++ t) 20 4 = lay (u64n s.Tickets.High) 4 := by unfold part; rw [d20, List.take_left' (l4 _)]
  have p24 : part (supE s ++ t) 24 4 = lay (u64n s.Tickets.Free) 4 := by unfold part; rw [d24, List.take_left' (l4 _)]
  have p28 : part (supE s ++ t) 28 2 = lay (u64n s.Tickets.Top) 2 := by unfold part; rw [d28, List.take_left' (l2 _)]
  have p30 : part (supE s ++ t) 30 2 = lay (u64n s.Dir) 2 := by unfold part; rw [d30, List.take_left' (l2 _)]
  have i0 := val 0 8 _ p0 (by omega) (by omega) (by omega)
  have i8 := val 8 4 _ p8 (by omega) (by omega) (by omega)
  have i12 := val 12 4 _ p12 (by omega) (by omega) (by omega)
  have i16 := val 16 4 _ p16 (by omega) (by omega) (by omega)
  have i20 := val 20 4 _ p20 (by omega) (by omega) (by omega)
  have i24 := val 24 4 _ p24 (by omega) (by omega) (by omega)
  have i28 := val 28 2 _ p28 (by omega) (by omega) (by omega)
  have i30 := val 30 2 _ p30 (by omega) (by omega) (by omega)
  have ik : chartsOf (supE s ++ t) s.Charts.length = s.Charts := by
    apply ix_ext (by simp [chartsOf])
    intro i hi
    have hi' : i < s.Charts.length := by simpa [chartsOf] using hi
    unfold chartsOf
    rw [ix_map hi']
    have hp : part (supE s ++ t) (32 + 2 * i) 2 = lay (u64n (ix s.Charts (i : Int))) 2 := by
      unfold part
      rw [← List.drop_drop, d32, hR]
      exact flat_field (fun i => lay_len _ _) hi' t
    have := hI i hi'
    unfold inB at this
    exact val _ 2 _ hp (by omega) (by omega) (by omega)
  unfold supOf
  rw [i0, i8, i12, i16, i20, i24, i28, i30, ik]
def noU : S_api_Super := ⟨0, ⟨⟨0, 0, 0⟩, 0, 0, 0⟩, 0, []⟩
def GetU (b : List Int) : Prop := Is b ∧ ix b 4 = 7 ∧ ix b 5 ≤ 8 ∧ SupOk (supOf (b.drop 8) (ix b 5).toNat) ∧ ∀ y ∈ (b.drop 8).drop (32 + 2 * (ix b 5).toNat), y = 0
instance (b : List Int) : Decidable (GetU b) := inferInstanceAs (Decidable (_ ∧ _))
theorem superGet_eq {fu : Nat} {b : List Int} (hb : Bytes b) (hl : b.length ≤ 9000000000000000000) (hf : 100 < fu) : super_Get.f fu b = some (if GetU b then (supOf (b.drop 8) (ix b 5).toNat, true) else (noU, false)) := by
  unfold super_Get.f
  rw [open_eq hb hl hf]
  by_cases hi : Is b
  · have h8 := is_body hi
    obtain ⟨b4, b5⟩ := is_tag hb hi
    rw [if_pos hi]
    simp only [Option.bind_some, Bool.not_true, Bool.false_eq_true, if_false]
    by_cases h4 : ix b 4 = 7
    · by_cases h5 : ix b 5 ≤ 8
      · have h5' : ¬ ix b 5 > 8 := by omega
        obtain ⟨t, ht⟩ : ∃ t : Nat, ix b 5 = (t : Int) := ⟨(ix b 5).toNat, by omega⟩
        have hbd := hb.drop 8
        obtain ⟨body, hbody⟩ : ∃ body, body = b.drop 8 := ⟨_, rfl⟩
        rw [← hbody] at h8 hbd
        have n0 : super_reader_next.f fu ⟨body⟩ 8 = some (intAt body 0 8, ⟨body.drop 8⟩) := next_eq (i := 0) (n := 8) hbd (by omega) (by decide) hf
        have n8 : super_reader_next.f fu ⟨body.drop 8⟩ 4 = some (intAt body 8 4, ⟨body.drop 12⟩) := next_eq (i := 8) (n := 4) hbd (by omega) (by decide) hf
        have n12 : super_reader_next.f fu ⟨body.drop 12⟩ 4 = some (intAt body 12 4, ⟨body.drop 16⟩) := next_eq (i := 12) (n := 4) hbd (by omega) (by decide) hf
        have n16 : super_reader_next.f fu ⟨body.drop 16⟩ 4 = some (intAt body 16 4, ⟨body.drop 20⟩) := next_eq (i := 16) (n := 4) hbd (by omega) (by decide) hf
        have n20 : super_reader_next.f fu ⟨body.drop 20⟩ 4 = some (intAt body 20 4, ⟨body.drop 24⟩) := next_eq (i := 20) (n := 4) hbd (by omega) (by decide) hf
        have n24 : super_reader_next.f fu ⟨body.drop 24⟩ 4 = some (intAt body 24 4, ⟨body.drop 28⟩) := next_eq (i := 24) (n := 4) hbd (by omega) (by decide) hf
        have n28 : super_reader_next.f fu ⟨body.drop 28⟩ 2 = some (intAt body 28 2, ⟨body.drop 30⟩) := next_eq (i := 28) (n := 2) hbd (by omega) (by decide) hf
        have n30 : super_reader_next.f fu ⟨body.drop 30⟩ 2 = some (intAt body 30 2, ⟨body.drop 32⟩) := next_eq (i := 30) (n := 2) hbd (by omega) (by decide) hf
        have hloop : loopM (super_Get.s0 fu (ix b 4, ix b 5, body, true)) fu (0, [], body.drop 32) = some (chartsOf body t, body.drop (32 + 2 * t)) := by
          refine loopM_run (S := fun j => ((j : Int), chartsOf body j, body.drop (32 + 2 * j))) t (by simp [chartsOf]) ?_ ?_ (by omega)
          · intro j hj
            unfold super_Get.s0
            have h1 : (j : Int) < ix b 5 := by omega
            have w3 : IntKind.i64.wrap ((j : Int) + 1) = ((j + 1 : Nat) : Int) := by rw [w64 (by omega) (by omega)]; omega
            have hn : super_reader_next.f fu ⟨body.drop (32 + 2 * j)⟩ 2 = some (intAt body (32 + 2 * j) 2, ⟨body.drop (32 + 2 * j + 2)⟩) := next_eq (n := 2) hbd (by omega) (by decide) hf
            have hlim : (chartsOf body j).length + ([intAt body (32 + 2 * j) 2] : List Int).length ≤ LIM := lim_of' (by simp [chartsOf]; omega)
            simp only [h1, decide_true, if_true, w3, hn, Option.bind_some, hlim]
            simp [chartsOf, List.range_succ, Nat.mul_add, Nat.add_assoc]
          · unfold super_Get.s0
            simp [ht]
        have hrl : (body.drop (32 + 2 * t)).length = 56 - (32 + 2 * t) := by rw [List.length_drop, h8]
        have hn := noughts_eq (fu := fu) (b := body.drop (32 + 2 * t)) (i := 0) (n := 56 - (32 + 2 * t)) (by omega) (by omega) (by omega)
        have e8 : ((body.drop (32 + 2 * t)).drop 0).take (56 - (32 + 2 * t)) = body.drop (32 + 2 * t) := by rw [List.drop_zero]; exact List.take_of_length_le (by omega)
        rw [e8, ← hrl] at hn
        have hn' := hn
        rw [show ((0 : Nat) : Int) = 0 from rfl] at hn'
        have hN : (⟨intAt body 0 8, ⟨⟨intAt body 8 4, intAt body 12 4, intAt body 16 4⟩, intAt body 28 2, intAt body 20 4, intAt body 24 4⟩, intAt body 30 2, chartsOf body t⟩ : S_api_Super) = supOf body t := rfl
        rw [← hbody]
        simp only [h4, h5', decide_true, decide_false, Bool.not_true, Bool.false_eq_true, if_false] at hloop ⊢
        simp only [n0, n8, n12, n16, n20, n24, n28, n30, Option.bind_some, hloop]
        simp only [hn', hN, superRight_eq hf, Option.bind_some]
        have hgi : GetU b ↔ (SupOk (supOf body t) ∧ ∀ y ∈ body.drop (32 + 2 * t), y = 0) := by
          unfold GetU
          rw [ht, ← hbody, Int.toNat_natCast]
          exact ⟨fun x => x.2.2.2, fun x => ⟨hi, h4, by omega, x⟩⟩
        rw [ht, Int.toNat_natCast]
        by_cases hr : SupOk (supOf body t)
        · by_cases hz : ∀ y ∈ body.drop (32 + 2 * t), y = 0
          · rw [if_pos (hgi.2 ⟨hr, hz⟩), decide_eq_true hr, decide_eq_true hz]
            rfl
          · rw [if_neg (fun x => hz (hgi.1 x).2), decide_eq_true hr, decide_eq_false hz]
            rfl
        · rw [if_neg (fun x => hr (hgi.1 x).1), decide_eq_false hr]
          rfl
      · have h5' : ix b 5 > 8 := by omega
        have hg : ¬ GetU b := fun x => h5 x.2.2.1
        rw [if_neg hg, decide_eq_true h4, decide_eq_true h5']
        rfl
    · have hg : ¬ GetU b := fun x => h4 x.2.1
      rw [if_neg hg, decide_eq_false h4]
      rfl
  · have hg : ¬ GetU b := fun x => hi x.1
    rw [if_neg hi, if_neg hg]
    rfl
theorem rsuperGet_eq {fu : Nat} {b : List Int} (hb : Bytes b) (hf : 100 < fu) : rickyardref13_Get.f fu b = some (if GetU b then (supOf (b.drop 8) (ix b 5).toNat, true) else (noU, false)) := by
  unfold rickyardref13_Get.f
  rw [ropen_eq hb hf]
  by_cases hi : Is b
  · have h8 := is_body hi
    obtain ⟨b4, b5⟩ := is_tag hb hi
    rw [if_pos hi]
    simp only [Option.bind_some, Bool.not_true, Bool.false_eq_true, if_false]
    by_cases h4 : ix b 4 = 7
    · by_cases h5 : ix b 5 ≤ 8
      · have h5' : ¬ ix b 5 > 8 := by omega
        obtain ⟨t, ht⟩ : ∃ t : Nat, ix b 5 = (t : Int) := ⟨(ix b 5).toNat, by omega⟩
        have hbd := hb.drop 8
        obtain ⟨body, hbody⟩ : ∃ body, body = b.drop 8 := ⟨_, rfl⟩
        have hq0 : ∀ {k tg : Int} {bd : List Int}, (0 ≤ k ∧ k ≤ 255) → (0 ≤ tg ∧ tg ≤ 255) → Bytes bd → bd.length ≤ 56 → ((sealed (summed k tg bd)).map toB = b.map toB ↔ k = ix b 4 ∧ tg = ix b 5 ∧ bd ++ List.replicate (56 - bd.length) 0 = b.drop 8) := fun h1 h2 h3 h4 => sealed_map_iff hb hi h1 h2 h3 h4
        rw [← hbody] at h8 hbd
        have n0 : rickyardref01_Int.f fu (cut (body.map toB) 0 8) = some (intAt body 0 8) := rintAt_eq (i := 0) (n := 8) hbd (by omega) (by decide) hf
        have n8 : rickyardref01_Int.f fu (cut (body.map toB) 8 12) = some (intAt body 8 4) := rintAt_eq (i := 8) (n := 4) hbd (by omega) (by decide) hf
        have n12 : rickyardref01_Int.f fu (cut (body.map toB) 12 16) = some (intAt body 12 4) := rintAt_eq (i := 12) (n := 4) hbd (by omega) (by decide) hf
        have n16 : rickyardref01_Int.f fu (cut (body.map toB) 16 20) = some (intAt body 16 4) := rintAt_eq (i := 16) (n := 4) hbd (by omega) (by decide) hf
        have n20 : rickyardref01_Int.f fu (cut (body.map toB) 20 24) = some (intAt body 20 4) := rintAt_eq (i := 20) (n := 4) hbd (by omega) (by decide) hf
        have n24 : rickyardref01_Int.f fu (cut (body.map toB) 24 28) = some (intAt body 24 4) := rintAt_eq (i := 24) (n := 4) hbd (by omega) (by decide) hf
        have n28 : rickyardref01_Int.f fu (cut (body.map toB) 28 30) = some (intAt body 28 2) := rintAt_eq (i := 28) (n := 2) hbd (by omega) (by decide) hf
        have n30 : rickyardref01_Int.f fu (cut (body.map toB) 30 32) = some (intAt body 30 2) := rintAt_eq (i := 30) (n := 2) hbd (by omega) (by decide) hf
        have hloop : loopM (rickyardref13_Get.s0 fu (ix b 4, ix b 5, body.map toB, true)) fu (0, []) = some (chartsOf body t) := by
          refine loopM_run (S := fun j => ((j : Int), chartsOf body j)) t (by simp [chartsOf]) ?_ ?_ (by omega)
          · intro j hj
            unfold rickyardref13_Get.s0
            have h1 : (j : Int) < ix b 5 := by omega
            have w3 : IntKind.i64.wrap ((j : Int) + 1) = ((j + 1 : Nat) : Int) := by rw [w64 (by omega) (by omega)]; omega
            have w4 : IntKind.i64.wrap (2 * (j : Int)) = ((2 * j : Nat) : Int) := by rw [w64 (by omega) (by omega)]; omega
            have w5 : IntKind.i64.wrap (32 + ((2 * j : Nat) : Int)) = ((32 + 2 * j : Nat) : Int) := by rw [w64 (by omega) (by omega)]; omega
            have w6 : IntKind.i64.wrap (34 + ((2 * j : Nat) : Int)) = ((32 + 2 * j + 2 : Nat) : Int) := by rw [w64 (by omega) (by omega)]; omega
            have hn : rickyardref01_Int.f fu (cut (body.map toB) ((32 + 2 * j : Nat) : Int) ((32 + 2 * j + 2 : Nat) : Int)) = some (intAt body (32 + 2 * j) 2) := rintAt_eq (n := 2) hbd (by omega) (by decide) hf
            have hlim : (chartsOf body j).length + ([intAt body (32 + 2 * j) 2] : List Int).length ≤ LIM := lim_of' (by simp [chartsOf]; omega)
            have c1 : (0 : Int) ≤ ((32 + 2 * j : Nat) : Int) ∧ ((32 + 2 * j : Nat) : Int) ≤ ((32 + 2 * j + 2 : Nat) : Int) ∧ ((32 + 2 * j + 2 : Nat) : Int) ≤ ((body.map toB).length : Int) := by rw [List.length_map]; omega
            simp only [h1, decide_true, if_true, w3, w4, w5, w6, hn, Option.bind_some, hlim, if_pos c1]
            simp [chartsOf, List.range_succ]
          · unfold rickyardref13_Get.s0
            simp [ht]
        have hN : (⟨intAt body 0 8, ⟨⟨intAt body 8 4, intAt body 12 4, intAt body 16 4⟩, intAt body 28 2, intAt body 20 4, intAt body 24 4⟩, intAt body 30 2, chartsOf body t⟩ : S_api_Super) = supOf body t := rfl
        have hkl : (supOf body t).Charts.length = t := by simp [supOf, chartsOf]
        have hgi : GetU b ↔ (SupOk (supOf body t) ∧ ∀ y ∈ body.drop (32 + 2 * t), y = 0) := by
          unfold GetU
          rw [ht, ← hbody, Int.toNat_natCast]
          exact ⟨fun x => x.2.2.2, fun x => ⟨hi, h4, by omega, x⟩⟩
        have cl : ((body.map toB).length : Int) = 56 := by rw [List.length_map]; omega
        rw [← hbody]
        simp only [h4, h5', decide_true, decide_false, Bool.not_true, Bool.false_eq_true, if_false] at hloop ⊢
        have k8 : (8 : Int) ≤ ((body.map toB).length : Int) := by omega
        have k12 : (12 : Int) ≤ ((body.map toB).length : Int) := by omega
        have k16 : (16 : Int) ≤ ((body.map toB).length : Int) := by omega
        have k20 : (20 : Int) ≤ ((body.map toB).length : Int) := by omega
        have k24 : (24 : Int) ≤ ((body.map toB).length : Int) := by omega
        have k28 : (28 : Int) ≤ ((body.map toB).length : Int) := by omega
        have k30 : (30 : Int) ≤ ((body.map toB).length : Int) := by omega
        have k32 : (32 : Int) ≤ ((body.map toB).length : Int) := by omega
        simp only [n0, n8, n12, n16, n20, n24, n28, n30, Option.bind_some, hloop, if_pos k8, if_pos k12, if_pos k16, if_pos k20, if_pos k24, if_pos k28, if_pos k30, if_pos k32]
        have hput := rsuperPut_eq (fu := fu) (s := supOf body t) (by rw [hkl]; omega) hf
        simp only [hN, rsuperRight_eq hf, hput, Option.bind_some]
        have hel := supE_len (supOf body t)
        rw [hkl] at hel
        have hq := hq0 (k := 7) (tg := (t : Int)) (bd := supE (supOf body t)) (by omega) (by omega) (supE_bytes _) (by omega)
        have hfl := full_iff (body := supE (supOf body t)) (full := body) (by omega) h8
        rw [← hbody] at hq
        rw [hel, supE_of hbd (show 32 + 2 * t ≤ body.length by omega)] at hfl
        rw [hel, supE_of hbd (show 32 + 2 * t ≤ body.length by omega)] at hq
        rw [hkl, supE_of hbd (show 32 + 2 * t ≤ body.length by omega), ht, Int.toNat_natCast]
        by_cases hr : SupOk (supOf body t)
        · by_cases hz : ∀ y ∈ body.drop (32 + 2 * t), y = 0
          · rw [if_pos (hgi.2 ⟨hr, hz⟩), decide_eq_true hr, decide_eq_true (hq.2 ⟨h4.symm, ht.symm, hfl.2 ⟨rfl, hz⟩⟩)]
            rfl
          · rw [if_neg (fun x => hz (hgi.1 x).2), decide_eq_true hr, decide_eq_false (fun x => hz (hfl.1 (hq.1 x).2.2).2)]
            rfl
        · rw [if_neg (fun x => hr (hgi.1 x).1), decide_eq_false hr]
          rfl
      · have h5' : ix b 5 > 8 := by omega
        have hg : ¬ GetU b := fun x => h5 x.2.2.1
        rw [if_neg hg, decide_eq_true h4, decide_eq_true h5']
        rfl
    · have hg : ¬ GetU b := fun x => h4 x.2.1
      rw [if_neg hg, decide_eq_false h4]
      rfl
  · have hg : ¬ GetU b := fun x => hi x.1
    rw [if_neg hi, if_neg hg]
    rfl
theorem sup_get {s : S_api_Super} (h : SupOk s) : GetU (sealed (summed 7 (s.Charts.length : Int) (supE s))) ∧ supOf ((sealed (summed 7 (s.Charts.length : Int) (supE s))).drop 8) (ix (sealed (summed 7 (s.Charts.length : Int) (supE s))) 5).toNat = s := by
  have k1 := h.len
  have hl := supE_len s
  obtain ⟨p4, p5, p8⟩ := sealed_parts 7 (s.Charts.length : Int) (supE s)
  have hno := supOf_E h (List.replicate (56 - (supE s).length) 0)
  refine ⟨⟨is_sealed (by decide) (by omega), p4, by rw [p5]; omega, ?_, ?_⟩, by rw [p8, p5, Int.toNat_natCast, hno]⟩
  · rw [p8, p5, Int.toNat_natCast, hno]
    exact h
  · rw [p8, p5, Int.toNat_natCast, ← hl, List.drop_left' rfl]
    intro y hy
    exact List.eq_of_mem_replicate hy
theorem sup_sealed {s : S_api_Super} (h : SupOk s) : Bytes (sealed (summed 7 (s.Charts.length : Int) (supE s))) ∧ (sealed (summed 7 (s.Charts.length : Int) (supE s))).length = 64 := by
  have k1 := h.len
  have hl := supE_len s
  exact ⟨sealed_bytes (summed_bytes (by omega) (by omega) (supE_bytes s)), sealed_len (summed_len (by omega))⟩
theorem superGet_put {fu : Nat} {s : S_api_Super} (h : SupOk s) (hf : 100 < fu) : super_Get.f fu (sealed (summed 7 (s.Charts.length : Int) (supE s))) = some (s, true) := by
  obtain ⟨h1, h2⟩ := sup_sealed h
  obtain ⟨h3, h4⟩ := sup_get h
  rw [superGet_eq h1 (by omega) hf, if_pos h3, h4]
theorem same_sup {a b : S_api_Super} : (a = b) ↔ a.Epoch = b.Epoch ∧ a.Tickets = b.Tickets ∧ a.Dir = b.Dir ∧ a.Charts = b.Charts := by
  cases a
  cases b
  simp
theorem same_tick {a b : S_api_Tickets} : (a = b) ↔ a.Geometry = b.Geometry ∧ a.Top = b.Top ∧ a.High = b.High ∧ a.Free = b.Free := by
  cases a
  cases b
  simp
theorem superSame_eq {fu : Nat} {a b : S_api_Super} (hl : a.Charts.length ≤ 9000000000000000000) (hf : a.Charts.length < fu) : super_Same.f fu a b = some (decide (a = b)) := by
  unfold super_Same.f
  rw [equal_eq hl hf]
  by_cases h1 : a.Epoch = b.Epoch
  · by_cases h2 : a.Tickets = b.Tickets
    · by_cases h3 : a.Dir = b.Dir
      · by_cases h4 : a.Charts = b.Charts
        · rw [decide_eq_true h1, decide_eq_true h2, decide_eq_true h3, decide_eq_true h4, decide_eq_true (same_sup.2 ⟨h1, h2, h3, h4⟩)]
          rfl
        · rw [decide_eq_true h1, decide_eq_true h2, decide_eq_true h3, decide_eq_false h4, decide_eq_false (fun x => h4 (same_sup.1 x).2.2.2)]
          rfl
      · rw [decide_eq_true h1, decide_eq_true h2, decide_eq_false h3, decide_eq_false (fun x => h3 (same_sup.1 x).2.2.1)]
        rfl
    · rw [decide_eq_true h1, decide_eq_false h2, decide_eq_false (fun x => h2 (same_sup.1 x).2.1)]
      rfl
  · rw [decide_eq_false h1, decide_eq_false (fun x => h1 (same_sup.1 x).1)]
    rfl
theorem rsuperSame_eq {fu : Nat} {a b : S_api_Super} (hl : a.Charts.length ≤ 9000000000000000000) (hf : a.Charts.length < fu) : rickyardref13_Same.f fu a b = some (decide (a = b)) := by
  unfold rickyardref13_Same.f
  rw [ints2_eq hl hf]
  have hab : a = b ↔ a.Epoch = b.Epoch ∧ (a.Tickets.Geometry = b.Tickets.Geometry ∧ a.Tickets.Top = b.Tickets.Top ∧ a.Tickets.High = b.Tickets.High ∧ a.Tickets.Free = b.Tickets.Free) ∧ a.Dir = b.Dir ∧ a.Charts = b.Charts := by
    rw [same_sup, same_tick]
  by_cases h1 : a.Epoch = b.Epoch
  · by_cases h2 : a.Tickets.Geometry = b.Tickets.Geometry
    · by_cases h3 : a.Tickets.High = b.Tickets.High
      · by_cases h4 : a.Tickets.Free = b.Tickets.Free
        · by_cases h5 : a.Tickets.Top = b.Tickets.Top
          · by_cases h6 : a.Dir = b.Dir
            · by_cases h7 : a.Charts = b.Charts
              · rw [decide_eq_true h1, decide_eq_true h2, decide_eq_true h3, decide_eq_true h4, decide_eq_true h5, decide_eq_true h6, decide_eq_true h7, decide_eq_true (hab.2 ⟨h1, ⟨h2, h5, h3, h4⟩, h6, h7⟩)]
                rfl
              · rw [decide_eq_true h1, decide_eq_true h2, decide_eq_true h3, decide_eq_true h4, decide_eq_true h5, decide_eq_true h6, decide_eq_false h7, decide_eq_false (fun x => h7 (hab.1 x).2.2.2)]
                rfl
            · rw [decide_eq_true h1, decide_eq_true h2, decide_eq_true h3, decide_eq_true h4, decide_eq_true h5, decide_eq_false h6, decide_eq_false (fun x => h6 (hab.1 x).2.2.1)]
              rfl
          · rw [decide_eq_true h1, decide_eq_true h2, decide_eq_true h3, decide_eq_true h4, decide_eq_false h5, decide_eq_false (fun x => h5 (hab.1 x).2.1.2.1)]
            rfl
        · rw [decide_eq_true h1, decide_eq_true h2, decide_eq_true h3, decide_eq_false h4, decide_eq_false (fun x => h4 (hab.1 x).2.1.2.2.2)]
          rfl
      · rw [decide_eq_true h1, decide_eq_true h2, decide_eq_false h3, decide_eq_false (fun x => h3 (hab.1 x).2.1.2.2.1)]
        rfl
    · rw [decide_eq_true h1, decide_eq_false h2, decide_eq_false (fun x => h2 (hab.1 x).2.1.1)]
      rfl
  · rw [decide_eq_false h1, decide_eq_false (fun x => h1 (hab.1 x).1)]
    rfl
theorem ex13 : SupOk ⟨1, ⟨⟨16, 1, 1⟩, 0, 0, 0⟩, 0, [2]⟩ := by decide
theorem awake13 {fu : Nat} (hf : 100 < fu) : rickyardlaw13_awake.f fu = some true := by
  unfold rickyardlaw13_awake.f
  have h1 := superPut_eq (fu := fu) (s := ⟨1, ⟨⟨16, 1, 1⟩, 0, 0, 0⟩, 0, [2]⟩) hf
  have h2 := superGet_put (fu := fu) ex13 hf
  rw [if_pos ex13] at h1
  have l1 := (sup_sealed ex13).2
  rw [h1]
  simp only [Option.bind_some, h2, l1]
  simp
end Go.Proofs.Ytjhajfkfhdnciaa.Pure

/- The pure statement of SuperPuts. -/
set_option linter.unusedVariables false
set_option linter.unusedSimpArgs false
namespace Go.Proofs.Ytjhajfkfhdnciaa.Pure
open Go Go.Xw
theorem SuperPuts : ∀ (a0 : S_api_Super), ok_api_Super a0 → ∃ fu, rickyardlaw13_SuperPuts.f fu a0 = some true := by
  intro s hs
  refine ⟨400, ?_⟩
  unfold rickyardlaw13_SuperPuts.f
  rw [awake13 (by decide)]
  by_cases h2 : (s.Charts.length : Int) > 100
  · simp [h2]
  · have hlim : ([] : List Int).length + s.Charts.length ≤ LIM := lim_of' (by simp; omega)
    rw [superPut_eq (by decide), rsuperRight_eq (by decide)]
    have hR := superRight_eq (fu := 400) (s := s) (by decide)
    by_cases h : SupOk s
    · have k1 := h.len
      have hg := superGet_put (fu := 400) h (by decide)
      have hp := rsuperPut_eq (fu := 400) (s := s) k1.1 (by decide)
      have hs1 := superSame_eq (fu := 400) (a := s) (b := s) (by omega) (by omega)
      have hs2 := rsuperSame_eq (fu := 400) (a := s) (b := s) (by omega) (by omega)
      have hi := ints2_eq (fu := 400) (a := [] ++ s.Charts) (b := s.Charts) (by rw [List.nil_append]; omega) (by rw [List.nil_append]; omega)
      have he : ([] ++ s.Charts) = s.Charts := List.nil_append _
      rw [decide_eq_true he] at hi
      simp only [Option.bind_some, h2, decide_false, h, if_true, decide_true, Bool.not_true, Bool.false_eq_true, if_false, if_pos hlim, hg, hR, hp, hs1, hs2, hi]
    · simp only [Option.bind_some, h2, decide_false, h, if_false, decide_true, Bool.not_true, Bool.false_eq_true, if_pos hlim, Bool.not_false, if_true, hR]
      rfl
end Go.Proofs.Ytjhajfkfhdnciaa.Pure

/- The law SuperPuts holds for every input: the row, out of the walk of the law's function and of its pure statement. Written by rows.py. -/
namespace Go.Proofs.Ytjhajfkfhdnciaa.superPuts
open Go.ChangeShapes Go.WideShapes Go.ChangeAt Go.RowKit
open Go.ChangeMaps (open_string shut_string)
open Go Go.Xw
set_option linter.unusedVariables false
theorem own : ownKnob Try.prog.godebug = none := Facts.own
theorem laidOut : laidOutB Try.prog = true := Facts.laid
theorem closed : joinedFacts Try.pinned.checked.prog 25 Try.f25 Rows.superPutsSpec Rows.superPutsRow = true := by
  unfold joinedFacts
  rw [Facts.enter, Facts.lifts, Facts.make, Facts.laid, Facts.rowed, Facts.plain, Facts.heard]
  kernel_rfl
theorem enc_seg {α : Type} (K : Kd α) (a : α) : K.enc a = cellsOf [Kd.seg K a] := by simp [cellsOf, Kd.seg]
def start : Input := ⟨#[], #[.agg #[.int .i64 0, .int .i64 0, .int .i64 0, .int .i64 0, .int .i64 0, .int .i64 0, .int .i64 0, .int .i64 0, .slice none 0 0]], []⟩
set_option maxRecDepth 100000 in
set_option maxHeartbeats 1000000 in
theorem lifted (os : Os) (started : os.Started) (H : Type) (enc : TypeId × Value → H) :
    ReturnsInHanded {} Try.checked os 25 .any (Rows.superPutsSpec.pre6 enc Try.prog Try.f25 Rows.superPutsRow.domain false) (Rows.superPutsSpec.post enc Try.prog Try.f25 false true false false) := by
  refine returnsInHanded_of_change_sized (C := Try.checked) own started (by kernel_rfl) Try.func25
    (ChangeSpec.witness6 (enc := enc) (C := Try.checked) false start 8 (by kernel_rfl) (by kernel_rfl) (by kernel_rfl) (by kernel_rfl)) ?_
  intro W base args ds gs before hval0 hW hcnd hsz0 _
  have hval : ∀ (j : Nat) t v, Try.f25.params[j]? = some t → args[j]? = some v → Value.okWide Try.prog W .any base t v := hval0
  have hW' := hW
  obtain ⟨p, q, hA0, hV, rfl, hfz, hnd⟩ := hW
  have hA : DataW.TrodAll enc Try.prog W 0 (fun _ => true) true Try.f25.params.toList args.toList ds p := hA0
  rw [Try.params25] at hA hval
  obtain ⟨v0, vs0, d0, ds0, p0, q0, hargs, rfl, rfl, h0, r0⟩ := trodAll_cons hA
  obtain ⟨rfl, rfl, rfl⟩ := trodAll_nil r0
  obtain rfl : args = #[v0] := by cases args; simp_all
  obtain ⟨rfl, rfl⟩ := trodVars_none hV
  have k0 := h0
  have lt0 : ∀ x ∈ p0, x.block < W.heap.size := by obtain ⟨m, hm⟩ := k0; exact DataW.trod_lt m _ _ _ hm
  obtain ⟨fu0, hf0⟩ := h0
  obtain ⟨a0, V0_0, R0_0, e0, o0⟩ := opn_api_Super enc _ _ _ _ _ _ hf0
  obtain rfl := agg_of (by kernel_rfl) (hval 0 120 v0 rfl rfl) e0
  obtain ⟨fu, hfu⟩ := Pure.SuperPuts a0 o0
  refine Calls.mono (rickyardlaw13_SuperPuts.ok fu W a0 _ R0_0 true hfu) fun e W' hr => ?_
  obtain ⟨v, rfl, rfl, gr⟩ := hr
  have bel := Fr.below gr
  exact ⟨_, rfl, _, _, _, [], _, [], hW', trodAll_mk1 (shut_bool Try.underlying4 _), (trodAll_cons_mk (Below.trod laidOut (by kernel_rfl) (of_decide_eq_true (by kernel_rfl)) k0 bel lt0) trodAll_mk0), rfl, bel.frame _, fun h => by cases h⟩
theorem over : Rows.superPutsRow.holds Try.pinned (OpenSpec.ofChange Rows.superPutsSpec) :=
  OpenClaim.holds_of_wide 25 Try.f25 rfl rfl rfl rfl rfl rfl rfl ⟨rfl, rfl, rfl, rfl, rfl⟩ rfl rfl rfl rfl rfl (by kernel_rfl) Try.func25 closed
    (of_decide_eq_true (by kernel_rfl)) (by unfold Func.isWrapper; first | (rw [if_pos (by decide +kernel)]; kernel_rfl) | (rw [if_neg (by decide +kernel)]; exact ⟨rfl, rfl⟩))
    (fun os started H enc _ => lifted os started H enc)
theorem proved : Rows.SuperPutsSaid := over
end Go.Proofs.Ytjhajfkfhdnciaa.superPuts
namespace Go.Proofs.Ytjhajfkfhdnciaa
/-- The law holds. -/
theorem superPuts_holds : Rows.SuperPutsSaid := superPuts.proved
#print axioms superPuts_holds
end Go.Proofs.Ytjhajfkfhdnciaa
